/- Own texts for NestAlwaysQ, cut and joined by a program. -/
import Derived.Test.YtcgihjbfppkcfaaGreatDoorNestAlwaysQH
set_option linter.all false
namespace Go.Proofs.YtcgihjbfppkcfaaGreatDoor
open IntKind (i64 u64 u8)
noncomputable section
open Go.Proofs
noncomputable section
set_option maxRecDepth 100000
open Tryz
def GZ:aC:=⟨13,[rB,ar],(.cQ [rz,ar,aY]),[],U2 jN⟩
theorem DJ:Ko GZ:=
 aG (.l ⟨[(false,7,rz),(false,8,ar)],[]⟩ (.c (.c .o (.r [] (.c .o (.l ⟨[(false,7,rz),(false,11,ar)],[]⟩ .o)))) .o)) call13 func13 (aq tY (aq kj az))
def AW:aC:=⟨5,[.str,me],.bool,[],U2 iY⟩
theorem xW:Ko AW:=
 aG .o call5 func5 (aq Db (aq wa (aq DJ (aq G4 (aq sA az)))))
end
variable {v : zn} {α ρ : Type}
namespace So
theorem ah(x:α)(k:α->Option ρ):(some x).bind k=k x:=id rfl
theorem aV(x:α)(k:α->Option ρ):ai x k=k x:=id rfl
theorem aN{c:Bool}(h:c=true)(k:Option ρ):aM c k=k:=by rw [h];rfl
theorem dw(d:α)(m:Option α)(k:α->Option ρ):bF true d m k=m.bind k:=id rfl
theorem lP(d:α)(m:Option α)(k:α->Option ρ):bF false d m k=k d:=id rfl
theorem ed(xs:List α)(k:Nat):idx xs (k:Int)=xs[k]? :=by simp [idx]
theorem dX{α:Type}{xs:List α}{k:Nat}(h:k<xs.length):idx xs (k:Int)=some xs[k]:=by rw [ed,b9 h]
theorem fR{α:Type}{xs:List α}{k:Nat}{x:α}(h:xs[k]? =some x):idx xs (k:Int)=some x:=by rw [ed,h]
theorem IP{xs:List α}{x:α}(h:xs[0]? =some x):idx xs 0=some x:=fR (k:=0) h
theorem pg{k n:Nat}(h:k<n):decide ((k:Int)<(n:Int))=true:=cy (by omega)
theorem AO{k n:Nat}(h:¬k<n):decide ((k:Int)<(n:Int))=false:=c9 (by omega)
theorem nx{n:Nat}(h:n<9223372036854775807):i64.wrap ((n:Int)+1)=((n+1:Nat):Int):=by rw [bR (by omega)];omega
theorem eI{k b:Nat}(h:k*b<=140737488355328)(a:k<=9223372036854775807):aH k b=true:=by simp only [aH,an];exact ⟨qH h,qH a⟩
theorem aoA{σ ρ:Type}{F:(σ->Option ρ)->σ->Option ρ}(f:Nat->σ){r:Option ρ}(n:Nat)(a:∀i,i<n->∀k,F k (f i)=k (f (i+1)))(b:∀k,F k (f n)=r):
  ∀(d i M:Nat),i+d=n->d<M->ao F M (f i)=r
 |0,i,M,h,hM=>by
  obtain ⟨m,rfl⟩:∃m,M=m+1:=⟨M-1,by omega⟩;rw [au,show i=n by omega];exact b _
 |d+1,i,M,h,hM=>by obtain ⟨m,rfl⟩:∃m,M=m+1:=⟨M-1,by omega⟩;rw [au,a i (by omega)];exact aoA f n a b d (i+1) m (by omega) (by omega)
theorem vA{σ:Type}{F:(σ->Option ρ)->σ->Option ρ}(f:Nat->σ){r:Option ρ}(n:Nat){s:σ}(c:s=f 0)(hn:n<9223372036854775807)(a:∀i,i<n->∀k,F k (f i)=k (f (i+1)))(b:∀k,F k (f n)=r):
  ao F ax s=r:=by
 rw [c];exact aoA f n a b n 0 ax (by omega) (by show n<2^64;omega)
theorem OS(p:Nat->Bool):∀n,(∃i,i<n/\p i=true/\∀j,j<i->p j=false)\/∀j,j<n->p j=false
 |0=> .inr λj h=>by omega
 |n+1=>by
  rcases OS p n with ⟨i,d,b,a⟩|h
  .exact .inl ⟨i,by omega,b,a⟩
  .cases hp:p n
   .refine .inr λj c=>?_;by_cases e:j=n
    .rw [e];exact hp
    .exact h j (by omega)
   .exact .inl ⟨n,by omega,hp,h⟩
theorem findF{σ:Type}{F:(σ->Option ρ)->σ->Option ρ}(f:Nat->σ)(p:Nat->Bool){r:Nat->Option ρ}(n:Nat){s:σ}(g:s=f 0)(hn:n<9223372036854775807)
  (b:∀i,i<n->p i=false->∀k,F k (f i)=k (f (i+1))) (hx:∀i,i<n->p i=true->∀k,F k (f i)=r i) (l:∀k,F k (f n)=r n):
  (∃i,i<n/\p i=true/\(∀j,j<i->p j=false)/\ao F ax s=r i)\/((∀j,j<n->p j=false)/\ao F ax s=r n):=by
 rcases OS p n with ⟨i,e,d,c⟩|h
 .exact .inl ⟨i,e,d,c,vA f i g (by omega) (λj a=>b j (by omega) (c j a)) (hx i e d)⟩
 .exact .inr ⟨h,vA f n g hn (λj a=>b j a (h j a)) l⟩
abbrev Fd:=Int×Int
def K3(f:Fd):Bool:=decide (-1073741824<=f.1)&&decide (f.2<=1073741824)&&decide (f.1<=f.2)&&decide (f.2-f.1<=65535)
def lV(s:List Fd):Bool:=decide (1<=s.length)&&decide (s.length<=17)&&s.all K3
structure nE(s:List Fd):Prop where
 pos:1<=s.length
 dq:s.length<=17
 each:∀f∈s,-1073741824<=f.1/\f.2<=1073741824/\f.1<=f.2/\f.2-f.1<=65535
theorem Uv{s:List Fd}:lV s=true↔nE s:=by
 simp only [lV,K3,an,gj,qo];constructor
 .rintro ⟨⟨d,c⟩,b⟩;exact ⟨d,c,λf a=>by have:=b f a;omega⟩
 .rintro ⟨d,c,b⟩;exact ⟨⟨d,c⟩,λf a=>by have:=b f a;omega⟩
abbrev uL(n:Int):Prop:= -9223372036854775808<=n/\n<=9223372036854775807
abbrev FI(s:List Fd):Prop:= ∀f∈s,uL f.1/\uL f.2
theorem ao7{f:Fd}(b:uL f.1)(a:uL f.2):rR f=some (K3 f):=by
 unfold rR K3;simp only [aV,et];rw [qB];simp only [an,nA,n9,gj,q6];by_cases h:f.1< -1073741824\/1073741824<f.2
 .omega
 .by_cases c:f.1<=f.2
  .rw [bR (by omega)];omega
  .omega
theorem Xa{d:α}{s:List Fd}{g:Fd->α}(F:(List α×Int->Option (List α))->List α×Int->Option (List α))(a:∀i (hi:i<s.length) (k:List α×Int->Option (List α)) (l:List α),i<l.length->F k (l,(i:Int))=k (l.set i (g s[i]),((i+1:Nat):Int)))
  (b:∀(k:List α×Int->Option (List α)) (l:List α),F k (l,(s.length:Int))=some l) (hn:s.length<4611686018427387904):ao F ax (List.replicate (Int.toNat (s.length:Int)) d,0)=some (s.map g):=by
 refine vA (λi=>((s.take i).map g++List.replicate (s.length-i) d,(i:Int))) s.length (by simp) (by omega) (λi hi k=>?_) (λk=>?_)
 .rw [a i hi k _ (by simp only [eP,qb,dk,wb];omega)];refine congrArg k (Prod.ext ?_ rfl);show List.set _ i _=_;rw [List.set_append,df (by rw [qb,dk];omega)];rw [show s.length-i=(s.length-(i+1))+1 by omega,qN];rw [show i-((s.take i).map g).length=0 by rw [qb,dk];omega,List.set_cons_zero,qt,sj,b9 hi];simp
 .rw [b];simp
theorem XT{s:List Fd}(a:FI s)(hn:s.length<100000000):pR s=some (s.map K3):=by
 unfold pR;rw [aN (cy (by omega)),aN (eI (by simp;omega) (by simp;omega))];refine Xa (d:=false) _ (λi hi k l hl=>?_) (λk l=>?_) (by omega)
 .have:=a s[i] (eF hi);simp only [rC,pg hi,cp,dX hi,ah,ao7 this.1 this.2,dX hl,nx (show i<9223372036854775807 by omega),lk]
 .simp only [rC,AO (nJ _),ca]
theorem contains_eq{l:zm}(hn:l.length<100000000)(b:Bool):iI l b=some (l.contains b):=by
 unfold iI n3;refine (findF (F:=fF l b) (λi=>(i:Int)) (λi=>l[i]? ==some b) (r:=λi=>if i<l.length then some (i:Int) else some (-1)) l.length (s:=0) rfl (by omega) (λi hi hp k=>?_) (λi hi hp k=>?_) (λk=>?_)).elim (λ⟨i,a,d,f,c⟩=>?_) (λ⟨a,c⟩=>?_)
 .simp only [fF,pg hi,cp,dX hi,ah,nx (show i<9223372036854775807 by omega)];rw [b9 hi] at hp;have:(b==l[i])=false:=by simp at hp ⊢; exact λe=>hp e.symm
  rw [this,ca]
 .simp only [fF,pg hi,cp,dX hi,ah,du hi];rw [b9 hi] at hp;have:(b==l[i])=true:=by simp at hp ⊢; exact hp.symm
  rw [this,cp]
 .simp only [fF,AO (nJ _),ca,df (nJ _)]
 .rw [c,du a,ah,cy (by omega)];rw [b9 a] at d;have:l[i]=b:=by simpa using d
  rw [<-this,List.contains_iff_mem.2 (eF a)]
 .rw [c,df (by omega),ah,c9 (by omega)];have:¬b∈l:=λhm=>by obtain ⟨i,hi,e⟩:=qu hm;have:=a i hi;rw [b9 hi,e] at this;simp at this
  rw [show l.contains b=false by rw [<-vc];exact λh=>this (List.contains_iff_mem.1 h)]
theorem Yk{s:List Fd}(a:FI s):ss s=some (lV s):=by
 unfold ss lV;simp only [aV];by_cases h:1<=s.length/\s.length<=17
 .rw [cy (show (1:Int)<=s.length by omega),cy (show (s.length:Int)<=17 by omega),cy h.1,cy h.2,si,dw,XT a (by omega),ah,dw,contains_eq (by simp;omega),ah];simp only [mi,et];rw [qB];simp
 .have e:(decide ((1:Int)<=(s.length:Int))&&decide ((s.length:Int)<=17))=false:=by rw [<-vc,an,gj,gj];omega
  have e':(decide (1<=s.length)&&decide (s.length<=17))=false:=by rw [<-vc,an,gj,gj];omega
  rw [e,e',lP,lP,s6,s6]
def oL(s:List Fd)(v:zn):Bool:=(List.zip s v).all λp=>decide (p.1.1<=p.2)&&decide (p.2<=p.1.2)
def sZ(s:List Fd)(v:zn):Int:=if v.length=s.length then (if oL s v=true then 0 else 5) else 1
structure In(s:List Fd)(v:zn):Prop where
 len:v.length=s.length
 each:∀i (h:i<s.length),s[i].1<=v[i]/\v[i]<=s[i].2
theorem nc{s:List Fd}(hl:v.length=s.length):oL s v=true↔In s v:=by
 simp only [oL,qo,an,gj];constructor
 .intro h;refine ⟨hl,λi hi=>?_⟩;exact h (s[i],v[i]) (List.mem_iff_getElem.2 ⟨i,by simp;omega,by simp⟩)
 .rintro ⟨_,h⟩ ⟨f,n⟩ hm;obtain ⟨i,hi,e⟩:=List.mem_iff_getElem.1 hm;simp at hi e;have:=h i (by omega);rw [e.1,e.2] at this;exact this
theorem pG{s:List Fd}:sZ s v=0↔In s v:=by
 unfold sZ;by_cases hl:v.length=s.length
 .rw [du hl];by_cases h:oL s v=true
  .rw [du h];exact ⟨λ_=>(nc hl).1 h,λ_=>rfl⟩
  .rw [df h];exact ⟨λh=>by omega,λa=>absurd ((nc hl).2 a) h⟩
 .rw [df hl];exact ⟨λh=>by omega,λh=>absurd h.len hl⟩
theorem XS{s:List Fd}(hl:v.length=s.length)(i:Nat)(hi:i<s.length)(h:¬(s[i].1<=v[i]/\v[i]<=s[i].2)):sZ s v=5:=by unfold sZ;rw [du hl,df (λa=>h (((nc hl).1 a).each i hi))]
theorem yY(s:List Fd)(v:zn)(hn:v.length<100000000):fj s v=some (sZ s v):=by
 unfold fj;by_cases hl:v.length=s.length
 .rw [show ((v.length:Int) != (s.length:Int))=false by simp;omega,ca];have a:∀i,i<v.length->i<s.length:=λi h=>by omega
  refine (findF (F:=sL s v) (λi=>(i:Int)) (λi=>if h:i<v.length then !(decide ((s[i]'(a i h)).1<=v[i])&&decide (v[i]<=(s[i]'(a i h)).2)) else false) (r:=λi=>if i<v.length then some 5 else some 0) v.length (s:=0) rfl (by omega) (λi hi hp k=>?_) (λi hi hp k=>?_) (λk=>?_)).elim (λ⟨i,b,d,e,c⟩=>?_) (λ⟨b,c⟩=>?_)
  .simp only [qX hi,Bool.not_eq_false'] at hp;simp only [sL,kF,aV,pg hi,cp,dX hi,dX (a i hi),ah,hp,qc,ca,nx (show i<9223372036854775807 by omega)]
  .simp only [qX hi,nA] at hp;simp only [sL,kF,aV,pg hi,cp,dX hi,dX (a i hi),ah,hp,ko,du hi]
  .simp only [sL,AO (nJ _),ca,df (nJ _)]
  .rw [c,du b,XS hl i (by omega)];rw [qX b] at d;simp at d;omega
  .rw [c,df (by omega),pG.2 ⟨hl,λi hi=>?_⟩];have:=b i (by omega);rw [qX (by omega)] at this;simpa using this
 .rw [show ((v.length:Int) != (s.length:Int))=true by simp;omega,cp];unfold sZ;rw [df hl]
def bl(n:Nat):Nat:=if n=0 then 0 else bl (n/2)+1
theorem aqk(n:Nat):n<2^bl n:=by
 induction n using Nat.strongRecOn with
 |_ n ih=>
  unfold bl;by_cases h:n=0
  .rw [du h,h];decide
  .rw [df h,Nat.pow_succ];have:=ih (n/2) (by omega);omega
theorem afj{n w:Nat}(h:n<2^w):bl n<=w:=by
 induction w generalizing n with
 |zero=>rw [Nat.pow_zero] at h;rw [show n=0 by omega];unfold bl;simp
 |succ w ih=>
  unfold bl;by_cases a:n=0
  .rw [du a];omega
  .rw [df a];have:=ih (n:=n/2) (by rw [Nat.pow_succ] at h;omega);omega
theorem UC:∀(M n k:Nat),bl n<M->k+bl n<1000->ao DH M ((n:Int),(k:Int))=some ((k+bl n:Nat):Int)
 |0,_,_,h,_=>by omega
 |M+1,n,k,h,hk=>by
  rw [au];unfold bl at h hk ⊢;by_cases a:n=0
  .subst a;rfl
  .rw [df a] at h hk ⊢;have:=UC M (n/2) (k+1) (by omega) (by omega);simp only [DH,cy (show (0:Int)<(n:Int) by omega),cp,nx (show k<9223372036854775807 by omega)];rw [show iq .u64 (n:Int) 1=((n/2:Nat):Int) by show (n:Int)/2^1=_;omega,this]
   congr 2;omega
theorem Rz{n:Nat}(h:n<18446744073709551616):Af (n:Int)=some (bl n:Int):=by unfold Af;have hb:=afj (n:=n) (w:=64) (by omega);have:=UC ax n 0 (by show bl n<2^64;omega) (by omega);rw [nI] at this;exact this
def wd(f:Fd):Nat:=bl (f.2-f.1).toNat
theorem alR{f:Fd}(h:f.2-f.1<=65535):wd f<=16:=afj (by omega)
theorem span_eq{s:List Fd}(a:nE s){f:Fd}(b:f∈s):jT f=some (wd f:Int):=by have h:=a.each f b;unfold jT;rw [bR (by omega),Zh (by omega)];obtain ⟨n,hn⟩:=qn (show 0<=f.2-f.1 by omega);rw [hn,Rz (by omega),ah];unfold wd;rw [hn];rfl
structure jJ(s:List Fd):Prop where
 dq:s.length<=17
 each:∀f∈s,-1073741824<=f.1/\f.2<=1073741824/\f.1<=f.2/\f.2-f.1<=65535
theorem nE.fds{s:List Fd}(h:nE s):jJ s:=⟨h.dq,h.each⟩
theorem aip{s:List Fd}(a:jJ s){f:Fd}(b:f∈s):jT f=some (wd f:Int):=by have h:=a.each f b;unfold jT;rw [bR (by omega),Zh (by omega)];obtain ⟨n,hn⟩:=qn (show 0<=f.2-f.1 by omega);rw [hn,Rz (by omega),ah];unfold wd;rw [hn];rfl
theorem Nv{s:List Fd}(a:jJ s):nT s=some (s.map λf=>(wd f:Int)):=by
 have hn:=a.dq;unfold nT;rw [aN (cy (by omega)),aN (eI (by simp;omega) (by simp;omega))];refine Xa (d:=0) _ (λi hi k l hl=>?_) (λk l=>?_) (by omega)
 .simp only [sg,pg hi,cp,dX hi,ah,aip a (eF hi),dX hl,nx (show i<9223372036854775807 by omega),lk]
 .simp only [sg,AO (nJ _),ca]
def nS(s:List Fd):Nat:=(s.map wd).sum
theorem yi{s:List Fd}(a:jJ s):nS s<=16*s.length:=by
 have h:=a.each;clear a
 induction s with
 |nil=>simp [nS]
 |cons f s ih=>
  have d:=alR (f:=f) (by have:=h f (by simp);omega);have c:=ih (λg b=>h g (by simp [b]));simp only [nS,eT,List.sum_cons,ei] at *; omega
theorem Rn{s:List Fd}{i:Nat}(hi:i<s.length):nS (s.take (i+1))=nS (s.take i)+wd s[i]:=by unfold nS;rw [qt,b9 hi,sj,List.sum_append];simp
theorem jJ.take{s:List Fd}(a:jJ s)(i:Nat):jJ (s.take i):=⟨by simp;have:=a.dq;omega,λf b=>a.each f (tx b)⟩
theorem jJ.drop{s:List Fd}(a:jJ s)(i:Nat):jJ (s.drop i):=⟨by simp;have:=a.dq;omega,λf b=>a.each f (qU b)⟩
theorem anK{s:List Fd}(a:jJ s):Aa s=some (nS s:Int):=by
 unfold Aa;rw [Nv a,ah];have hn:=a.dq;refine vA (λi=>((nS (s.take i):Int),(i:Int))) s.length (by simp [nS]) (by omega) (λi hi k=>?_) (λk=>?_)
 .have c:=yi (a.take (i+1));have b:=Rn hi;simp at c;simp only [yT,qb,pg hi,cp,ed,qL,b9 hi,og,ah,nx (show i<9223372036854775807 by omega)];rw [bR (by omega),b];rfl
 .simp only [yT,qb,AO (nJ _),ca,List.take_length]
def gS(s:List Fd):Nat:=max 1 ((nS s+7)/8)
theorem YZ{s:List Fd}(a:jJ s):oU s=some (gS s:Int):=by unfold oU;have h:=yi a;have:=a.dq;rw [anK a,ah,bR (show _/\(nS s:Int)+7<=_ by omega)];rw [show Int.tdiv ((nS s:Int)+7) 8=(((nS s+7)/8:Nat):Int) from rfl,bR (by omega)];unfold gS;congr 1;omega
end So
namespace So
def b8(a b c d e f g h:Bool):Int:=128*a.toNat+64*b.toNat+32*c.toNat+16*d.toNat+8*e.toNat+4*f.toNat+2*g.toNat+h.toNat
def bt(m:zm)(j:Nat):Bool:=m[j]? ==some true
def sQ(m:zm):Int:=b8 (bt m 0) (bt m 1) (bt m 2) (bt m 3) (bt m 4) (bt m 5) (bt m 6) (bt m 7)
theorem agv(m:zm):0<=sQ m/\sQ m<=255:=by
 unfold sQ b8;have (b:Bool):b.toNat<=1:=by cases b <;> decide
 grind
theorem Vk{m a:zm}(h:∀j,j<8->bt m j=bt a j):sQ m=sQ a:=by grind [sQ]
theorem apf(a b c d e f g h:Bool):
  decide (b8 a b c d e f g h/128%2=1)=a/\decide (b8 a b c d e f g h/64%2=1)=b/\decide (b8 a b c d e f g h/32%2=1)=c/\decide (b8 a b c d e f g h/16%2=1)=d/\
  decide (b8 a b c d e f g h/8%2=1)=e/\decide (b8 a b c d e f g h/4%2=1)=f/\decide (b8 a b c d e f g h/2%2=1)=g/\decide (b8 a b c d e f g h/1%2=1)=h:=by
 cases a <;> cases b <;> cases c <;> cases d <;> cases e <;> cases f <;> cases g <;> cases h <;> decide
theorem aci(m:zm)(j:Nat)(i:j<8):decide (sQ m/2^(7-j)%2=1)=bt m j:=by
 obtain ⟨h,g,f,e,d,c,b,a⟩:=apf (bt m 0) (bt m 1) (bt m 2) (bt m 3) (bt m 4) (bt m 5) (bt m 6) (bt m 7)
 match j with
 |0=>exact h
 |1=>exact g
 |2=>exact f
 |3=>exact e
 |4=>exact d
 |5=>exact c
 |6=>exact b
 |7=>exact a
 |_+8=>omega
theorem afk:∀m:zm,m.length<8->sQ (m++[false])=sQ m
 |m,h=>Vk λj _=>by unfold bt;grind
theorem ad9:∀m:zm,m.length<8->tX .u8 (sQ m) (iq .u8 128 (m.length:Int))=sQ (m++[true])
 |[],_=>by decide
 |[a],_=>by cases a <;> decide
 |[a,b],_=>by cases a <;> cases b <;> decide
 |[a,b,c],_=>by cases a <;> cases b <;> cases c <;> decide
 |[a,b,c,d],_=>by cases a <;> cases b <;> cases c <;> cases d <;> decide
 |[a,b,c,d,e],_=>by cases a <;> cases b <;> cases c <;> cases d <;> cases e <;> decide
 |[a,b,c,d,e,f],_=>by cases a <;> cases b <;> cases c <;> cases d <;> cases e <;> cases f <;> decide
 |[a,b,c,d,e,f,g],_=>by cases a <;> cases b <;> cases c <;> cases d <;> cases e <;> cases f <;> cases g <;> decide
 |_::_::_::_::_::_::_::_::_,h=>by simp at h;omega
def pk(l:zm):zn:=(List.range ((l.length+7)/8)).map λi=>sQ (l.drop (8*i))
theorem pd(l:zm):(pk l).length=(l.length+7)/8:=by simp [pk]
theorem GB(l:zm)(i:Nat):(pk l)[i]? =if i<(l.length+7)/8 then some (sQ (l.drop (8*i))) else none:=by unfold pk;grind
theorem Uj(l:zm)(k j:Nat):bt (l.drop k) j=bt l (k+j):=by unfold bt;rw [qx]
theorem anP(l:zm)(b:Bool)(j:Nat)(h:j≠l.length):bt (l++[b]) j=bt l j:=by unfold bt;grind
theorem ao2{l m:zm}(hl:l.length=m.length)(h:pk l=pk m):l=m:=by
 refine mN λk=>?_;by_cases hk:k<l.length
 .have a:=congrArg (λx=>x[k/8]?) h;simp [GB] at a;rw [du (by omega),du (by omega)] at a;have c:=iN a;have b:=aci (l.drop (8*(k/8))) (k%8) (by omega);rw [c,aci _ _ (by omega),Uj,Uj,Nat.div_add_mod] at b;unfold bt at b;simp_all
 grind
abbrev By(l:zn):Prop:= ∀x∈l,0<=x/\x<=255
theorem ap3(l:zm):By (pk l):=by intro x hx;simp [pk,List.mem_map] at hx;obtain ⟨i,_,rfl⟩:=hx;exact agv _
theorem Z6(l:zm)(b:Bool)(i:Nat)(h:8*i+8<=l.length):sQ ((l++[b]).drop (8*i))=sQ (l.drop (8*i)):=
 Vk λj a=>by grind [Uj,anP]
theorem akt(l:zm)(b:Bool)(h:l.length%8=0):pk (l++[b])=pk l++[sQ [b]]:=by
 refine mN λi=>?_;rw [GB,tJ,pd,GB,eP,List.length_singleton];by_cases a:i<(l.length+7)/8
 .rw [du (by omega),du a,du a,Z6 _ _ _ (by omega)]
 .rw [df a];by_cases c:i=l.length/8
  .rw [du (by omega),show i-(l.length+7)/8=0 by omega];rw [List.drop_append,qi (by omega),show 8*i-l.length=0 by omega];rfl
  grind
theorem akD(l:zm)(b:Bool)(h:l.length%8≠0):pk (l++[b])=(pk l).set (l.length/8) (sQ (l.drop (8*(l.length/8))++[b])):=by
 refine mN λi=>?_;rw [GB,List.getElem?_set,pd,GB,eP,List.length_singleton];by_cases c:l.length/8=i
 .grind
 .rw [df c];by_cases a:i<(l.length+7)/8
  .rw [du (by omega),du a,Z6 _ _ _ (by omega)]
  grind
theorem add_eq(l:zm)(b:Bool)(hl:l.length<1000000):xp b (pk l) (l.length:Int)=some (pk (l++[b]),((l.length+1:Nat):Int)):=by
 have hd:i64.wrap (Int.tdiv (l.length) 8)=((l.length/8:Nat)):=by rw [show Int.tdiv (l.length) 8=((l.length/8:Nat)) from rfl,bR (by omega)]
 have hm:Int.tmod (l.length) 8=((l.length%8:Nat)):=rfl;have hk:∀c:zn,c.length=l.length/8+1->c[l.length/8]? =some (sQ (l.drop (8*(l.length/8))))->xf b (l.length) c=some (c.set (l.length/8) (sQ (l.drop (8*(l.length/8))++[b])),((l.length+1:Nat):Int)):=by
  intro c e d;have a:(l.drop (8*(l.length/8))).length=l.length%8:=by simp;omega
  unfold xf EZ;simp only [aV];rw [nx (by omega)];cases b
  .rw [ca,afk _ (by omega)];grind [List.getElem?_eq_getElem,Option.some.inj,List.set_getElem_self]
  .rw [cp,hd,hm,fR d,ah,aN (cy (by omega)),ah,lk,<-ad9 _ (by omega),a]
 unfold xp;simp only [aV];rw [hm];by_cases h:l.length%8=0
 .rw [h,show (((0:Nat):Int)==0)=true from rfl,cp,aN (eI (by simp [pd];omega) (by simp [pd];omega)),hk]
  .rw [akt l b h];have:l.length/8=(pk l).length:=by rw [pd];omega
   rw [qi (by omega),this,s5 _ _ (c8 _),Nat.sub_self];rfl
  .simp [pd];omega
  .rw [de (by rw [pd];omega),pd,show l.length/8-(l.length+7)/8=0 by omega,qi (by omega)];rfl
 .rw [show (((l.length%8:Nat):Int)==0)=false by simp;omega,ca,hk]
  .rw [akD l b h]
  .rw [pd];omega
  .rw [GB,du (by omega)]
def be(n:Nat):Nat->zm
 |0=>[]
 |w+1=>decide (n/2^w%2=1)::be n w
theorem CW(n:Nat):∀w,(be n w).length=w
 |0=>rfl
 |w+1=>by simp [be,CW n w]
theorem Qi(n:Nat):∀w t,t<w->(be n w)[t]? =some (decide (n/2^(w-1-t)%2=1))
 |0,t,h=>by omega
 |w+1,0,_=>by simp [be]
 |w+1,t+1,h=>by rw [be,iQ,Qi n w t (by omega)];grind
theorem ahG{n m:Nat}:∀w,n<2^w->m<2^w->be n w=be m w->n=m
 |0,h1,h2,_=>by omega
 |w+1,h1,h2,h=>by
  simp [be,qa] at h;have a:∀n w,be (n%2^w) w=be n w:=by
   intro n w;refine mN λt=>?_;by_cases ht:t<w
   .rw [Qi _ _ _ ht,Qi _ _ _ ht];have:n%2^w/2^(w-1-t)%2=n/2^(w-1-t)%2:=by rw [show 2^w=2^(w-1-t)*2^(t+1) by rw [<-Nat.pow_add];congr 1;omega,Nat.mod_mul_right_div_self];rw [Nat.pow_succ,Nat.mul_comm,Nat.mod_mul_right_mod]
    rw [this]
   grind [List.getElem?_eq_none,CW]
  have d:=ahG (n:=n%2^w) (m:=m%2^w) w (qT _ (Nat.two_pow_pos w)) (qT _ (Nat.two_pow_pos w)) (by grind);have c:n/2^w<2:=Nat.div_lt_of_lt_mul (by grind);have b:m/2^w<2:=Nat.div_lt_of_lt_mul (by grind);grind [Nat.div_add_mod]
theorem aqI{x:Nat}(h:x<18446744073709551616):o8 .u64 (x:Int) 1=((x%2:Nat):Int):=by
 unfold o8;rw [BitVec.toNat_and,BitVec.toNat_ofInt,BitVec.toNat_ofInt];rw [show ((x:Int)%((2^u64.bits:Nat))).toNat=x by show ((x:Int)%((18446744073709551616:Nat))).toNat=x;omega]
 rw [show ((1:Int)%((2^u64.bits:Nat))).toNat=1 from rfl,Nat.and_one_is_mod,Zh (by omega)]
theorem apV{k:IntKind}(hk:k.bits=64)(n i:Nat)(hi:i<64):iq k (n:Int) (i:Int)=((n/2^i:Nat):Int):=by grind [iq,Int.toNat_natCast,Nat.min_eq_left]
theorem Ji(l:zn)(h:l.length<100000000):uM l=some l:=by grind [uM,aN,eI]
theorem apb(l:zm)(n w:Nat)(hl:l.length<100000)(c:w<=64)(hn:n<2^w):IB (pk l,(l.length:Int)) (n:Int) (w:Int)=some ((pk (l++be n w),((l.length+w:Nat):Int)),0):=by
 have a:n<18446744073709551616:=hU hn (ec (Nat.pow_le_pow_right (by omega) c) (by decide));have hb:=afj hn;unfold IB SJ;simp [aV];rw [c9 (by omega),c9 (by omega),Bool.or_self,ca,Rz a,ah,c9 (by omega),ca,
  Ji _ (by rw [pd];omega),ah,ah]
 refine vA (λt=>(pk (l++(be n w).take t),((l.length+t):Int),(w:Int)-1-t)) w (by grind [bR]) (by omega) (λt ht k=>?_) (λk=>?_)
 .have hi:(w:Int)-1-t=((w-1-t:Nat)):=by omega
  have d:(l++(be n w).take t).length=l.length+t:=by grind [List.length_append,List.length_take,CW]
  have ha:=add_eq (l++(be n w).take t) (decide (n/2^(w-1-t)%2=1)) (by omega);have b:(o8 .u64 (iq .u64 (n) ((w-1-t:Nat))) 1==1)=decide (n/2^(w-1-t)%2=1):=by rw [apV rfl _ _ (by omega),aqI (Nat.lt_of_le_of_lt (Nat.div_le_self _ _) a),qB,n4,gj];grind
  simp [Fs,hi,cy (show (0:Int)<=((w-1-t:Nat)) by omega),aN rfl,ha];grind [bR,List.append_assoc,List.take,decide,List.take_add_one,Qi]
 .simp [Fs];rw [c9 (by omega),ca,gx (by rw [CW];omega)]
def tR(s:List Fd)(v:zn):zm:=(List.zip s v).flatMap λp=>be (p.2-p.1.1).toNat (wd p.1)
theorem ael(f:Fd)(s:List Fd)(n:Int)(v:zn):tR (f::s) (n::v)=be (n-f.1).toNat (wd f)++tR s v:=rfl
theorem vY:∀(s:List Fd) (v:zn),v.length=s.length->(tR s v).length=nS s
 |[],[],_=>rfl
 |f::s,n::v,h=>by
  have:=vY s v (by simpa using h);grind [ael,List.length_append,CW,nS]
 |[],_::_,h=>by simp at h
 |_::_,[],h=>by simp at h
theorem aej{s:List Fd}{i:Nat}(c:i<s.length)(b:i<v.length):tR (s.take (i+1)) (v.take (i+1))=tR (s.take i) (v.take i)++be (v[i]-s[i].1).toNat (wd s[i]):=by
 unfold tR;have a (k:Nat):List.zip (s.take k) (v.take k)=(List.zip s v).take k:=by simp [List.zip,List.take_zipWith]
 rw [a,a,qt,b9 (by simp;omega),List.flatMap_append];simp
theorem Z8{s:List Fd}(hi:In s v){i:Nat}(h:i<s.length)(a:i<v.length):(v[i]-s[i].1).toNat<2^wd s[i]:=by
 have:=hi.each i h;have:=aqk (s[i].2-s[i].1).toNat
 unfold wd;omega
def enc(s:List Fd)(v:zn):zn:=pk (tR s v)++List.replicate (gS s-(pk (tR s v)).length) 0
theorem yt{s:List Fd}(h:v.length=s.length):(enc s v).length=gS s:=by grind [vY,enc,List.length_append,List.length_replicate,pd,gS]
theorem PD(s:List Fd)(v:zn):By (enc s v):=by
 intro x hx;rcases List.mem_append.1 hx with h|h
 .exact ap3 _ x h
 grind
theorem Ur:∀{s:List Fd} {v a:zn},In s v->In s a->tR s v=tR s a->v=a
 |[],[],[],_,_,_=>rfl
 |[],_::_,_,h,_,_=>by have:=h.len;simp at this
 |[],_,_::_,_,h,_=>by have:=h.len;simp at this
 |_::_,[],_,h,_,_=>by have:=h.len;simp at this
 |_::_,_,[],_,h,_=>by have:=h.len;simp at this
 |f::s,n::v,n'::a,h,h',e=>by have e':=List.append_inj e (by rw [CW,CW]);have j:=h.each 0 (by simp);have g:=h'.each 0 (by simp);have c:=Z8 h (i:=0) (by simp) (by simp);have b:=Z8 h' (i:=0) (by simp) (by simp);have hn:=ahG _ c b e'.1;have d:=Ur ⟨by have:=h.len;simpa using this,λi hi=>h.each (i+1) (by simp;omega)⟩ ⟨by have:=h'.len;simpa using this,λi hi=>h'.each (i+1) (by simp;omega)⟩ e'.2;grind
theorem abV{s:List Fd}{a:zn}(h:In s v)(b:In s a)(e:enc s v=enc s a):v=a:=by have d:=vY s v h.len;have c:=vY s a b.len;have e':=List.append_inj e (by grind [pd]);grind [Ur,ao2]
theorem In.take{s:List Fd}(h:In s v)(i:Nat):In (s.take i) (v.take i):=
 ⟨by simp [h.len],λj a=>by simp at a ⊢; exact h.each j (by omega)⟩
theorem In.drop{s:List Fd}(h:In s v)(i:Nat):In (s.drop i) (v.drop i):=
 ⟨by simp [h.len],λj a=>by simp at a ⊢; exact h.each (i+j) (by omega)⟩
theorem LN{s:List Fd}(a:jJ s)(c:In s v):kU s v=some (enc s v,0):=by
 have l:=a.dq;have hl:=c.len;have g:=yi a;unfold kU;rw [yY s v (by omega),pG.2 c,ah,show ((0:Int) != 0)=false from rfl,ca,Nv a,ah];refine vA (λi=>(pk (tR (s.take i) (v.take i)),((nS (s.take i)):Int),(i:Int))) s.length (by simp [nS];rfl) (by omega) (λi hi k=>?_) (λk=>?_)
 .have b:i<v.length:=by omega
  have f:=a.each s[i] (eF hi);have e:=c.each i hi;have d:=vY (s.take i) (v.take i) (by simp [hl]);have h:=yi (a.take i);have j:=apb (tR (s.take i) (v.take i)) (v[i]-s[i].1).toNat (wd s[i]) (by grind) (by grind [alR]) (Z8 c hi b);rw [d,<-aej hi b,<-Rn hi] at j;simp [vz,ed,ah];grind [bR,Zh,ah]
 .simp only [vz,YZ a,ah];have hb:gS s<=40:=by unfold gS;omega
  rw [aN (cy (by omega)),aN (eI (by omega) (by omega)),List.take_length,gx (by omega)];grind [wN,enc,tR,gS,pd,vY,List.length_replicate,List.take_of_length_le]
end So
variable {K : x3} {m : Nat}
namespace So
theorem UA:∀{x y:zn},By x->By y->strOf x=strOf y->x=y
 |[],[],_,_,_=>rfl
 |[],_::_,_,_,h=>by simp [strOf] at h
 |_::_,[],_,_,h=>by simp [strOf] at h
 |a::x,b::y,hx,hy,h=>by simp [strOf,eT,qa] at h;have ha:=hx a (by simp);have hb:=hy b (by simp);have e:=congrArg UInt8.toNat h.1;rw [UInt8.toNat_ofNat',UInt8.toNat_ofNat'] at e;rw [UA (λx d=>hx x (by simp [d])) (λy c=>hy y (by simp [c])) h.2,show a=b by omega]
theorem I8{x y:zn}(hx:By x)(a:By y):uS x y=some (decide (x=y)):=by unfold uS;congr 1;grind [decide_eq_false,beq_eq_false_iff_ne,UA]
def kC(h c:Int):Int:=u64.wrap ((Cu .u64 h (u64.wrap c))*1099511628211)
def pr(b:zn)(seed:Int):Int:=
 let h:=b.foldl kC (Cu .u64 seed 11400714819323198485);let h1:=Cu .u64 h (iq .u64 h 29);let h2:=u64.wrap (h1*13787848793156543929)
 Cu .u64 h2 (iq .u64 h2 32)
theorem ags(x:Int):0<=u64.wrap x/\u64.wrap x<18446744073709551616:=by rw [IntKind.wrap_u64];omega
theorem afL(b:zn)(seed:Int):0<=pr b seed/\pr b seed<18446744073709551616:=ags _
theorem abf(b:zn)(seed:Int)(hl:b.length<100000000):Dz b seed=some (pr b seed):=by
 refine vA (λi=>((b.take i).foldl kC (Cu .u64 seed 11400714819323198485),(i:Int))) b.length rfl (by omega) (λi hi k=>?_) (λk=>?_)
 .simp only [Fa,pg hi,dX hi,nx (show i<9223372036854775807 by omega)];rw [qt,b9 hi,List.foldl_append];rfl
 .simp [Fa,AO (nJ _),List.take_length];rfl
def home(key:zn)(n:Nat):Nat:=(pr key 0).toNat%n
theorem sV(b:zn)(seed:Int){n:Nat}(c:0<n)(hn:n<1000000000):vO (pr b seed) (n:Int)=some (((pr b seed).toNat%n:Nat):Int):=by
 unfold vO;have h:=afL b seed;rw [c9 (by omega),ca,Zh (by omega),aN (by simp;omega)];have:Int.tmod (pr b seed) (n)=(((pr b seed).toNat%n:Nat)):=by obtain ⟨m,hm⟩:=qn h.1;rw [hm];rfl
 have a:=qT (pr b seed).toNat c;rw [this,bR (by omega)]
theorem alu{l m:List α}(hl:l.Nodup)(h:∀x∈l,x∈m):l.length<=m.length:=by
 classical
 induction l generalizing m with
 |nil=>simp
 |cons x l ih=>
  have hx:=h x (by simp);have hn:=List.nodup_cons.1 hl;obtain ⟨s,t,rfl⟩:=List.append_of_mem hx;have:=ih (m:=s++t) hn.2 λy a=>by grind
  simp at this ⊢; omega
theorem l6{l:List α}{i j:Nat}{a:α}(h:i<l.length):(l.set i a)[j]? =if i=j then some a else l[j]? :=by grind
theorem Xx{l:List α}(h:l.Nodup){i j:Nat}(hi:i<l.length)(a:j<l.length)(e:l[i]=l[j]):i=j:=by grind [List.pairwise_iff_getElem,Nat.lt_trichotomy,absurd]
theorem uZ{l:List α}{x:α}{i:Nat}(h:l[i]? =some x):i<l.length:=by grind
theorem ZO{l:List α}(h:l.Nodup){i j:Nat}{x:α}(hi:l[i]? =some x)(a:l[j]? =some x):i=j:=by grind [uZ,List.getElem?_eq_getElem,Xx,Option.some.inj,trans]
structure Laid(K:x3)(S:zn)(m:Nat):Prop where
 le:m<=K.length
 lt:m<S.length
 val:∀(p:Nat) (x:Int),S[p]? =some x->x=0\/∃i:Nat,i<m/\x=(i:Int)+1
 uniq:∀(p q:Nat) (x:Int),S[p]? =some x->S[q]? =some x->x≠0->p=q
 path:∀(i:Nat) (k:zn),i<m->K[i]? =some k->∃d,d<S.length/\S[(home k S.length+d)%S.length]? =some ((i:Int)+1)/\∀e,e<d->S[(home k S.length+e)%S.length]? ≠some 0
theorem Laid.free{S:zn}(h:Laid K S m):∃p,p<S.length/\S[p]? =some 0:=by
 by_cases hp:∃p,p<S.length/\S[p]? =some 0
 .exact hp
 .have b  :=λp l k=>hp ⟨p,l,k⟩;have c:S.Nodup:=by refine List.pairwise_iff_getElem.2 λi j hi d g e=>?_;have:=h.uniq i j _ ((b9 hi).trans (congrArg some e)) (b9 d) (λn=>b j d (by grind));omega
  have a:∀x∈S,x∈(List.range m).map λi:Nat=>(i:Int)+1:=by
   intro x hx;obtain ⟨p,f,e⟩:=qu hx;have e':S[p]? =some x:=by grind
   rcases h.val p x e' with rfl|⟨i,hi,rfl⟩
   .grind
   grind
  have:=alu c a;simp at this;have:=h.lt;omega
theorem Ky{S:zn}{cap:Int}(h:Laid K S m)(C:∀k∈K,By k){key:zn}(hk:By key)(hl:key.length<100000000)(hn:S.length<1000000000)(E:K.length<1000000000):
  ∃d,d<S.length/\fD (cap,K,S) key=some (((home key S.length+d)%S.length:Nat):Int)/\(∀e,e<d->S[(home key S.length+e)%S.length]? ≠some 0)/\
   ((S[(home key S.length+d)%S.length]? =some 0/\∀i:Nat,i<m->K[i]? ≠some key)\/∃i:Nat,i<m/\K[i]? =some key/\S[(home key S.length+d)%S.length]? =some ((i:Int)+1)):=by
 have w:0<S.length:=by have:=h.lt;omega
 have c (t:Nat):(home key S.length+t)%S.length<S.length:=qT _ w;have o:home key S.length<S.length:=qT _ w
 -- where it stops
 let q:Nat->Bool:=λt=>match S[(home key S.length+t)%S.length]? with
  |some x=>x==0||K[(x-1).toNat]? ==some key
  |none=>true
 have r (t:Nat) (x:Int) (hx:S[(home key S.length+t)%S.length]? =some x):q t=(x==0||K[(x-1).toNat]? ==some key):=by simp only [q,hx]
 have l:∀t,t<S.length->q t=false->∀k,fS (cap,K,S) key k (((home key S.length+t)%S.length:Nat):Int)=k (((home key S.length+(t+1))%S.length:Nat):Int):=by
  intro t ht a k;have hx:=b9 (c t);rw [r t _ hx] at a;rcases h.val _ _ hx with e|⟨i,hi,e⟩
  .rw [e] at a;simp at a
  .rw [e] at hx a;have g:i<K.length:=by have:=h.le;omega
   have b:K[i]? =some K[i]:=b9 g;have n:¬K[i]=key:=by simp only [n9] at a;have:=a.2;rw [show ((i:Int)+1-1).toNat=i by omega,b] at this;simpa using this
   simp only [fS,aV,fR hx,ah];rw [show ((i:Int)+1==0)=false by simp;omega];simp only [ko,dw];rw [bR (by omega),show (i:Int)+1-1=(i:Int) by omega,fR b,ah,I8 (C _ (eF g)) hk,ah,c9 n,Bool.or_self,ca];have hm:=c t;rw [aN (show ((S.length:Int) != 0)=true from bne_iff_ne.2 (by omega)),nx (show (home key S.length+t)%S.length<9223372036854775807 by omega)];congr 1;show ((((home key S.length+t)%S.length+1)%S.length:Nat):Int)=_;rw [Nat.mod_add_mod,rJ]
 have j:∀t,t<S.length->q t=true->∀k,fS (cap,K,S) key k (((home key S.length+t)%S.length:Nat):Int)=some (((home key S.length+t)%S.length:Nat):Int):=by
  intro t ht a k;have hx:=b9 (c t);rw [r t _ hx] at a;rcases h.val _ _ hx with e|⟨i,hi,e⟩
  .rw [e] at hx;simp only [fS,aV,fR hx,ah];rfl
  .rw [e] at hx a;have g:i<K.length:=by have:=h.le;omega
   have b:K[i]? =some K[i]:=b9 g;have n:K[i]=key:=by rw [show ((i:Int)+1==0)=false by simp;omega,mm,show ((i:Int)+1-1).toNat=i by omega,b] at a;simpa using a
   simp only [fS,aV,fR hx,ah];rw [show ((i:Int)+1==0)=false by simp;omega];simp only [ko,dw];rw [bR (by omega),show (i:Int)+1-1=(i) by omega,fR b,ah,I8 (C _ (eF g)) hk,ah,cy n,Bool.or_true,cp]
 -- it stops somewhere
 have A:∃t,t<S.length/\q t=true:=by
  obtain ⟨p,hp,e⟩:=h.free;refine ⟨(p+S.length-home key S.length)%S.length,qT _ w,?_⟩;have:(home key S.length+(p+S.length-home key S.length)%S.length)%S.length=p:=by rw [Nat.add_mod_mod,show home key S.length+(p+S.length-home key S.length)=p+S.length by omega,Nat.add_mod_right,Nat.mod_eq_of_lt hp]
  rw [r _ 0 (by rw [this];exact e)];rfl
 rcases OS q S.length with ⟨d,hd,u,f⟩|D
 .refine ⟨d,hd,?_,?_,?_⟩
  .unfold fD;rw [abf key 0 hl,ah,sV key 0 w hn,ah];exact vA (λt=>(((home key S.length+t)%S.length:Nat):Int)) d (by rw [Nat.add_zero,Nat.mod_eq_of_lt o];rfl) (by omega) (λt ht=>l t (by omega) (f t ht)) (j d hd u)
  .intro e F H;have:=f e F;rw [r e 0 H] at this;simp at this
  .have hx:=b9 (c d);rcases h.val _ _ hx with e|⟨i,hi,e⟩
   .rw [e] at hx;refine .inl ⟨hx,λi hi b=>?_⟩;obtain ⟨s,I,B,G⟩:=h.path i key hi b;have v:q s=true:=by rw [r s _ B,show ((i:Int)+1-1).toNat=i by omega,b];simp
    have:d<=s:=by
     rcases qE s d with y|z
     .rw [f s y] at v;cases v
     .exact z
    by_cases e':d=s
    .subst e';rw [hx] at B;simp at B;omega
    .exact G d (by omega) hx
   .rw [e] at hx;rw [r d _ hx,show ((i:Int)+1==0)=false by simp;omega,mm,show ((i:Int)+1-1).toNat=i by omega] at u;grind
 .obtain ⟨t,ht,e⟩:=A;grind
theorem Zo{K:x3}{S:zn}{m:Nat}{key:zn}(h:Laid K S m)(hk:K[m]? =some key)(hm:m+1<S.length){d:Nat}(hd:d<S.length)(t:S[(home key S.length+d)%S.length]? =some 0)(hp:∀e,e<d->S[(home key S.length+e)%S.length]? ≠some 0):
  Laid K (S.set ((home key S.length+d)%S.length) ((m:Int)+1)) (m+1):=by
 have n:m<K.length:=by
  rcases qE m K.length with h|h
  .exact h
  .rw [l7 h] at hk;cases hk
 have w:0<S.length:=by omega
 have a:(home key S.length+d)%S.length<S.length:=qT _ w;refine ⟨n,by simpa using hm,λp x hx=>?_,λp q x hx g l=>?_,λi k hi f=>?_⟩
 .rw [l6 a] at hx;split at hx
  .exact .inr ⟨m,by omega,(iN hx).symm⟩
  .rcases h.val p x hx with e|⟨i,hi,e⟩
   .exact .inl e
   .exact .inr ⟨i,by omega,e⟩
 .have c:∀p:Nat,S[p]? =some ((m)+1)->False:=λp hp=>by rcases h.val p _ hp with e|⟨i,hi,e⟩ <;> omega
  rw [l6 a] at hx g;split at hx <;> split at g
  .omega
  .rw [<-iN hx] at g;exact absurd g (λh=>c q h)
  .rw [<-iN g] at hx;exact absurd hx (λh=>c p h)
  .exact h.uniq p q x hx g l
 .rw [qJ];have b:∀p:Nat,S[p]? ≠some 0->(S.set ((home key S.length+d)%S.length) ((m)+1))[p]? ≠some 0:=by
   intro p j e;rw [l6 a] at e;split at e
   .have:=iN e;omega
   .exact j e
  by_cases o:i=m
  .subst o;rw [hk] at f;cases f;refine ⟨d,hd,?_,λe r=>b _ (hp e r)⟩;rw [l6 a,du rfl]
  .obtain ⟨y,v,s,u⟩:=h.path i k (by omega) f;refine ⟨y,v,?_,λe r=>b _ (u e r)⟩;rw [l6 a,df (λe=>by rw [<-e,t] at s;simp at s;omega)];exact s
theorem XV{n:Nat}(hn:0<n):Laid K (List.replicate n 0) 0:=
 ⟨pF _,by simpa using hn,λp x hx=> .inl (by grind),
  λp q x hx _ a=>(by grind),λi k hi=>by omega⟩
theorem agp{S:zn}(h:Laid K S m)(key:zn):Laid (K++[key]) S m:=
 ⟨by simp;have:=h.le;omega,h.lt,h.val,h.uniq,λi k hi hk=>by rw [eb (by have:=h.le;omega)] at hk;exact h.path i k hi hk⟩
theorem amM: @vZ= @fS:=rfl
theorem aju(t:Int×x3×zn)(key:zn):nu t key=fD t key:=by unfold nu fD;rw [amM]
abbrev Tb:=Int×x3×zn
structure Key(k:zn):Prop where
 by_:By k
 short:k.length<100000
structure TI(t:Tb):Prop where
 cap0:0<=t.1
 cap1:t.1<=1048576
 dq:(t.2.1.length:Int)<=t.1
 nd:t.2.1.Nodup
 keys:∀k∈t.2.1,Key k
 eight:8<=t.2.2.length
 half:2*t.2.1.length<=t.2.2.length
 small:t.2.2.length<=8+4*t.2.1.length
 laid:Laid t.2.1 t.2.2 t.2.1.length
theorem TI.n{t:Tb}(h:TI t):t.2.1.length<=1048576:=by have:=h.dq;have:=h.cap1;omega
theorem Rr(most:Int):nr most=if most<0\/1048576<most then some ((0,[],[]),1) else some ((most,[],List.replicate 8 0),0):=by
 unfold nr;simp only [aV];by_cases h:most<0\/1048576<most
 .grind
 .rw [df h,show (decide (most<0)||decide (1048576<most))=false by simp;omega];rfl
theorem PJ{most:Int}(a:0<=most)(b:most<=1048576):TI (most,[],List.replicate 8 0):=
 ⟨a,b,a,qW,λk hk=>by simp at hk,by simp,by simp,by simp,XV (by omega)⟩
theorem lN{t:Tb}(h:TI t){key:zn}(hk:Key key):(∀i:Nat,t.2.1[i]? =some key->dK t key=some ((i:Int),true))/\(key∉t.2.1->dK t key=some (0,false)):=by
 have hn:=h.n;have m:=h.small;obtain ⟨d,p,l,o,c⟩:=Ky h.laid (λk hk=>(h.keys k hk).by_) hk.by_ (by have:=hk.short;omega) (by omega) (by omega);have b:∀x,t.2.2[(home key t.2.2.length+d)%t.2.2.length]? =some x->dK t key=some (max (i64.wrap (x-1)) 0,decide (0<x)):=by intro x hx;unfold dK xP;rw [show ((t.2.2.length:Int)==0)=false from beq_eq_false_iff_ne.2 (by omega),ca,show fD t key=_ from l,ah,fR hx,ah,ah]
 refine ⟨λi hi=>?_,λe=>?_⟩
 .rcases c with ⟨_,a⟩|⟨j,f,a,g⟩
  .grind
  .have  :=by exact ZO h.nd hi a
   rw [b _ g,bR (by omega),cy (by omega)];congr 2;omega
 .rcases c with ⟨a,_⟩|⟨j,f,a,_⟩
  .rw [b _ a];rfl
  grind
theorem Uo{l:zn}(h:l.length<1000000000):bw l=some l:=by grind [bw,aN,eI]
theorem L4(l:List α):aT l 0 (l.length:Int)=l:=by unfold aT;simp
theorem Jb(l:List α):(kg 0 (l.length:Int) (l.length:Int) l.length&&((l.length:Int)==(l.length:Int)))=true:=by simp [kg]
theorem al5(nd:K.Nodup)(j:∀k∈K,Key k)(hn:K.length<=1048577){n:Nat}(v:K.length<n)(u:n<100000000)(cap:Int)(t:zn):∃S,pT (n:Int) cap K t=some (K,S)/\S.length=n/\Laid K S K.length:=by
 have key:∀(d i:Nat) (S:zn) (M:Nat),i+d=K.length->d<M->S.length=n->Laid K S i->∃f,ao (mM cap K) M (K,S,(i))=some (K,f)/\f.length=n/\Laid K f K.length:=by
  intro d
  induction d with
  |zero=>
   intro i S M hi q hS g;obtain ⟨m,rfl⟩:∃m,M=m+1:=⟨M-1,by omega⟩;simp_all [au,mM,nJ]
  |succ d ih=>
   intro i S M hi q hS g;obtain ⟨m,rfl⟩:∃m,M=m+1:=⟨M-1,by omega⟩;rw [au];have b:i<K.length:=by omega
   have c:=b9 b;have a:=j _ (eF b);obtain ⟨e,s,r,e3,e4⟩:=Ky g (λk hk=>(j k hk).by_) a.by_ (by have:=a.short;omega) (by omega) (by omega);have h:S[(home K[i] S.length+e)%S.length]? =some 0:=by grind [List.getElem?_eq_getElem,Xx,Option.some.inj]
   obtain ⟨f,p,o,l⟩:=ih (i+1) (S.set ((home K[i] S.length+e)%S.length) ((i)+1)) m (by omega) (by omega) (by simpa using hS) (Zo g c (by omega) s h e3);refine ⟨f,?_,o,l⟩;unfold mM;dsimp only;rw [pg b,cp,fR c,ah,aju,r,ah,fR h,ah,lk,nx (by omega)];exact p
 unfold pT;rw [aN (cy (by omega)),aN (eI (by omega) (by omega)),lk];have:=key K.length 0 (List.replicate n 0) ax (by omega) (by show _<2^64;omega) (by simp) (XV (by omega));grind
theorem US{t:Tb}(h:TI t){key:zn}(hk:Key key){i:Nat}(hi:t.2.1[i]? =some key):cg t key=some (t,(i:Int),false,0):=by unfold cg;rw [(lN h hk).1 i hi,ah];rfl
theorem aaL{t:Tb}(h:TI t){key:zn}(hk:Key key)(hn:key∉t.2.1)(a:t.1<=t.2.1.length):cg t key=some (t,0,false,7):=by simp_all [cg,lN,ca]
theorem Iw{t:Tb}(h:TI t){key:zn}(hk:Key key)(hn:key∉t.2.1)(u:(t.2.1.length:Int)<t.1):
  ∃t',cg t key=some (t',(t.2.1.length:Int),true,0)/\t'.1=t.1/\t'.2.1=t.2.1++[key]/\TI t':=by
 have hN:=h.n;have q:=h.small;have v:=h.eight;have r:=h.half;have c:(t.2.1++[key]).Nodup:=List.nodup_append.2 ⟨h.nd,by simp,λa ha b hb=>by grind⟩;have e:∀k∈t.2.1++[key],Key k:=λk f=>by
  rcases List.mem_append.1 f with i|i
  .exact h.keys k i
  grind
 unfold cg;rw [(lN h hk).2 hn,ah,ca,c9 (by omega),ca,aN (Jb _),Ji key (by have:=hk.short;omega),ah,L4,aN (eI (by simp;omega) (by simp;omega))];simp only [aV];rw [nx (by omega),bR (by omega)];by_cases s:t.2.2.length<2*(t.2.1.length+1)
 .rw [cy (by omega),cp,bR (by omega)];obtain ⟨S,m,w,l⟩:=al5 c e (by simp;omega) (n:=2*t.2.2.length) (by simp;omega) (by omega) t.1 t.2.2;rw [show (2*max (t.2.2.length:Int) 8)=((2*t.2.2.length:Nat)) by omega,m,ah];exact ⟨_,rfl,rfl,rfl,h.cap0,h.cap1,by simp;omega,c,e,by grind,by grind,by grind,l⟩
 .rw [c9 (by omega),ca,Uo (by omega),ah];obtain ⟨d,p,o,e3,e4⟩:=Ky h.laid (λk hk=>(h.keys k hk).by_) hk.by_ (by have:=hk.short;omega) (by omega) (by omega);have g:t.2.2[(home key t.2.2.length+d)%t.2.2.length]? =some 0:=by grind
  rw [show fD t key=_ from o,ah,fR g,ah,lk];have j:=Zo (agp h.laid key) (by simp) (by omega) p g e3;exact ⟨_,rfl,rfl,rfl,h.cap0,h.cap1,by simp;omega,c,e,by simpa using h.eight,by simp;omega,by simp;omega,by simpa using j⟩
end So
namespace So
def fl(a b:Bool):Int:=a.toNat+2*b.toNat
abbrev Gf:=Bool->zn->Bool
def lJ(g:Gf)(b:Bool)(v:zn):Gf:=λb' v'=>g b' v'||(b'==b&&v'==v)
structure Flags(V:x3)(g:Gf)(F:zn):Prop where
 len:F.length=V.length
 at_:∀(i:Nat) v,V[i]? =some v->F[i]? =some (fl (g false v) (g true v))
 out:∀b v,v∉V->g b v=false
theorem Flags.nil:Flags [] (λ_ _=>false) []:=⟨rfl,λi v h=>by simp at h,λ_ _ _=>rfl⟩
theorem Flags.add{V:x3}{g:Gf}{F:zn}(h:Flags V g F){v:zn}(c:v∉V):Flags (V++[v]) g (F++[0]):=by
 refine ⟨by simp [h.len],λi u a=>?_,λb u a=>h.out b u (λhm=>a (qh _ hm))⟩;rw [tJ] at a ⊢;rw [h.len];split at a
 next hi=>rw [du hi];exact h.at_ i u a
 .rename_i hi;rw [df hi];have d:i-V.length=0:=by grind
  rw [d] at a ⊢;simp at a;subst a;rw [h.out false v c,h.out true v c];rfl
theorem Flags.set{V:x3}{g:Gf}{F:zn}(h:Flags V g F)(nd:V.Nodup){v:zn}{i:Nat}(hi:V[i]? =some v)(b:Bool):
  Flags V (lJ g b v) (F.set i (fl (g false v|| !b) (g true v||b))):=by
 have c:i<V.length:=by grind
 refine ⟨by simp [h.len],λj u a=>?_,λf u a=>?_⟩
 .rw [l6 (by rw [h.len];exact c)];by_cases e:i=j
  .grind [lJ]
  .rw [df e,h.at_ j u a];have d:u≠v:=by grind [Nat.lt_or_ge,List.getElem?_eq_none,List.getElem?_eq_getElem,Xx,Option.some.inj,trans]
   grind [lJ,beq_eq_false_iff_ne]
 .unfold lJ;rw [h.out f u a,beq_eq_false_iff_ne.2 (λe=>a (e▸gr hi):u≠v)];simp
theorem WM(a b:Bool):tX .u8 (fl a b) 1=fl (a|| !false) (b||false)/\tX .u8 (fl a b) 2=fl (a|| !true) (b||true)/\tX .u8 (fl a b) (kX .u8 1 0)=fl (a|| !false) (b||false)/\tX .u8 (fl a b) (kX .u8 1 1)=fl (a|| !true) (b||true):=by cases a <;> cases b <;> decide
theorem W6(a b:Bool):(o8 .u8 (fl a b) 1 != 0)=a/\(o8 .u8 (fl a b) 2 != 0)=b/\(o8 .u8 (iq .u8 (fl a b) 0) 1==1)=a/\(o8 .u8 (iq .u8 (fl a b) 1) 1==1)=b/\(o8 .u8 (fl a b) (kX .u8 1 0) != 0)=a/\(o8 .u8 (fl a b) (kX .u8 1 1) != 0)=b:=by cases a <;> cases b <;> decide
theorem BW{l:zn}(h:l.length<1000000000):cr l=some l:=by grind [cr,aN,eI]
def vw(cap:Int)(V:x3)(v:zn):x3×Bool×Int:=if v∈V then (V,false,0) else if cap<=V.length then (V,false,7) else (V++[v],true,0)
def gb(V:x3)(v:zn)(flag:Int):Int:=if flag<0\/1<flag then 1 else if v∈V then 0 else 10
def SO(V:x3)(g:Gf)(v:zn)(flag:Int):Gf:=if gb V v flag=0 then lJ g (flag==1) v else g
def Ss(V:x3)(g:Gf)(v:zn)(flag:Int):Bool:=if gb V v flag=0 then g (flag==1) v else false
theorem oR{l:List α}{x:α}(h:x∈l):∃i:Nat,i<l.length/\l[i]? =some x:=by obtain ⟨i,hi,e⟩:=qu h;exact ⟨i,hi,by grind⟩
abbrev Fl:=Tb×zn
structure Eu(s:List Fd)(t:Fl)(V:x3)(g:Gf):Prop where
 tab:TI t.1
 keys:t.1.2.1=V.map (enc s)
 ins:∀v∈V,In s v
 flags:Flags V g t.2
theorem G7{s:List Fd}(a:jJ s){v:zn}(b:In s v):Key (enc s v):=
 ⟨PD s v,by rw [yt b.len];have:=yi a;have:=a.dq;unfold gS;omega⟩
theorem Cc{s:List Fd}{V:x3}(c:∀v∈V,In s v){v:zn}(b:In s v):enc s v∈V.map (enc s)↔v∈V:=by rw [List.mem_map];exact ⟨λ⟨u,a,e⟩=>abV (c u a) b e▸a,λh=>⟨v,h,rfl⟩⟩
theorem Eu.nd{s:List Fd}{t:Fl}{V:x3}{g:Gf}(h:Eu s t V g):V.Nodup:=by have:=h.tab.nd;rw [h.keys] at this;exact (List.pairwise_map.1 this).imp λ{a b} h e=>h (congrArg (enc s) e)
theorem Eu.len{s:List Fd}{t:Fl}{V:x3}{g:Gf}(h:Eu s t V g):t.1.2.1.length=V.length:=by rw [h.keys];simp
theorem Eu.at_{s:List Fd}{t:Fl}{V:x3}{g:Gf}(h:Eu s t V g){v:zn}{i:Nat}(hi:V[i]? =some v):t.1.2.1[i]? =some (enc s v):=by rw [h.keys,qL,hi];rfl
theorem Qy(most:Int):IS most=if most<0\/1048576<most then some (((0,[],[]),[]),1) else some (((most,[],List.replicate 8 0),[]),0):=by unfold IS;rw [Rr];grind
theorem adA(s:List Fd){most:Int}(c:0<=most)(b:most<=1048576):Eu s ((most,[],List.replicate 8 0),[]) [] (λ_ _=>false):=
 ⟨PJ c b,rfl,λv a=>by simp at a,Flags.nil⟩
theorem ada{s:List Fd}(d:jJ s){t:Fl}{V:x3}{g:Gf}(h:Eu s t V g){v:zn}(c:In s v):
  ∃t',yU t (enc s v)=some (t',(vw t.1.1 V v).2)/\Eu s t' (vw t.1.1 V v).1 g/\t'.1.1=t.1.1:=by
 have hk:=G7 d c;have hN:=h.tab.n;unfold yU vw;by_cases hm:v∈V
 .obtain ⟨i,hi,e⟩:=oR hm;rw [US h.tab hk (h.at_ e),ah,du hm];grind
 .have hn:enc s v∉t.1.2.1:=by rw [h.keys,Cc h.ins c];exact hm
  rw [df hm];by_cases b:t.1.1<=(V.length)
  .rw [du b,aaL h.tab hk hn (by rw [h.len];exact b),ah];grind
  .obtain ⟨t',l,k,e3,e4⟩:=Iw h.tab hk hn (by rw [h.len];omega);rw [df b,l,ah];have f:=h.flags.len;have j:=h.len;refine ⟨(t',t.2++[0]),?_,⟨e4,by rw [e3,h.keys];simp,λu a=>?_,h.flags.add hm⟩,k⟩
   .grind [aN,Jb,L4,eI]
   .rcases List.mem_append.1 a with a|a
    .exact h.ins u a
    grind
theorem Yu{s:List Fd}(b:jJ s){t:Fl}{V:x3}{g:Gf}(h:Eu s t V g){v:zn}(a:In s v):
  (∃i:Nat,i<V.length/\V[i]? =some v/\v∈V/\dK t.1 (enc s v)=some ((i:Int),true))\/(v∉V/\dK t.1 (enc s v)=some (0,false)):=by
 have hk:=G7 b a;by_cases hm:v∈V
 .obtain ⟨i,hi,e⟩:=oR hm;exact .inl ⟨i,hi,e,hm,(lN h.tab hk).1 i (h.at_ e)⟩
 .exact .inr ⟨hm,(lN h.tab hk).2 (by rw [h.keys,Cc h.ins a];exact hm)⟩
theorem aht(a:Int):Dw a=some (if a=0 then 1 else if a=1 then 2 else 0):=by unfold Dw;grind
theorem yI(a:Int):(a<0\/1<a)\/a=0\/a=1:=by omega
theorem adD{s:List Fd}(c:jJ s){t:Fl}{V:x3}{g:Gf}(h:Eu s t V g){v:zn}(b:In s v)(a:Int):
  ∃t',Ho t (enc s v) a=some (t',gb V v a)/\Eu s t' V (SO V g v a)/\t'.1.1=t.1.1:=by
 have hN:=h.tab.n;have hl:=h.len;have d:=h.flags.len;unfold Ho HR SO gb;rw [aht,ah];rcases yI a with hb|hb
 .grind
 .rw [df (show ¬(a<0\/1<a) by omega)];rcases Yu c h b with ⟨i,hi,e,hm,ef⟩|⟨hm,ef⟩
  .rw [ef,ah,du hm,du rfl];have f:=h.flags.at_ i v e;simp only [Fm];rw [BW (by omega),ah,fR f,ah,ah,ah,lk];refine ⟨(t.1,t.2.set i (fl (g false v|| !(a==1)) (g true v||(a==1)))),?_,⟨h.tab,h.keys,h.ins,h.flags.set h.nd e _⟩,rfl⟩;have j:=WM (g false v) (g true v);grind
  grind
theorem adM{s:List Fd}(d:jJ s){t:Fl}{V:x3}{g:Gf}(h:Eu s t V g){v:zn}(c:In s v)(a:Int):
  Ix t (enc s v) a=some (Ss V g v a,gb V v a):=by
 unfold Ix R3 Ss gb;rw [aht,ah];rcases yI a with hb|hb
 .grind
 .rw [df (show ¬(a<0\/1<a) by omega)];have b:((if a=0 then 1 else if a=1 then 2 else 0:Int)==0)=false:=by grind
  rw [b,ca];rcases Yu d h c with ⟨i,hi,e,hm,ef⟩|⟨hm,ef⟩
  .rw [ef,ah,du hm,du rfl];simp [qc,ca,FJ];rw [fR (h.flags.at_ i v e),ah,ah,ah];have f:=W6 (g false v) (g true v);grind
  grind
end So
namespace So
abbrev Ag(n:Int):Prop:=0<=n/\n<4294967296
def A3(a:Int)(k:Nat):Int:=u8.wrap (iq .u32 a (k:Int))
def uf(a b:Int):zn:=[A3 a 0,A3 a 8,A3 a 16,A3 a 24,A3 b 0,A3 b 8,A3 b 16,A3 b 24]
theorem Gl(a:Int):A3 a 0=a%256/\A3 a 8=a/256%256/\A3 a 16=a/65536%256/\A3 a 24=a/16777216%256:=by
 refine ⟨?_,?_,?_,?_⟩
 .show u8.wrap (a/1)=_;rw [IntKind.wrap_u8];omega
 .show u8.wrap (a/256)=_;rw [IntKind.wrap_u8]
 .show u8.wrap (a/65536)=_;rw [IntKind.wrap_u8]
 .show u8.wrap (a/16777216)=_;rw [IntKind.wrap_u8]
theorem Xi{a b c d:Int}(ha:Ag a)(hb:Ag b)(e:Ag c)(hd:Ag d)(h:uf a b=uf c d):a=c/\b=d:=by obtain ⟨a0,q,p,o⟩:=Gl a;obtain ⟨n,m,l,k⟩:=Gl b;obtain ⟨j,c1,i,g⟩:=Gl c;obtain ⟨d0,d1,d2,f⟩:=Gl d;simp [uf,qa] at h;omega
theorem Dh(a b:Int):Key (uf a b):=by refine ⟨λx hx=>?_,by simp [uf]⟩;simp [uf,oi,qy] at hx;obtain ⟨a0,i,h,g⟩:=Gl a;obtain ⟨f,e,d,c⟩:=Gl b;grind
theorem agy(a b:Int):(H6 a b).bind tD=some (uf a b):=by rfl
theorem Za(p:Tb)(a b:Int):BS p a b=dK p (uf a b):=by have h:=agy a b;unfold BS;obtain ⟨q,d,c⟩:=ia h;rw [d,ah,c,ah];cases dK p (uf a b) <;> rfl
theorem amL(p:Tb)(a b:Int):w6 p a b=cg p (uf a b):=by have h:=agy a b;unfold w6;obtain ⟨q,d,c⟩:=ia h;rw [d,ah,c,ah];cases cg p (uf a b) <;> rfl
abbrev ajI:(Int->zf)->Int->zf:=λk s=>rn k s
theorem KX:∀(M n:Nat),n<=M->n<1000000->ao ajI (M+1) (n:Int)=some ((n-1:Nat):Int)
 |M,n,h,hn=>by
  have E:ao ajI (M+1) (n)=rn (ao ajI M) (n):=au;rw [E];by_cases a:n<2
  .unfold rn;grind
  .obtain ⟨M,rfl⟩:∃m,M=m+1:=⟨M-1,by omega⟩;have c:=KX M ((n+1)/2) (by omega) (by omega);have b:=KX M (n-(n+1)/2) (by omega) (by omega);unfold rn;grind [ah,bR]
theorem RZ(n:Nat)(hn:n<1000000):vP (n:Int)=some ((n-1:Nat):Int):=by unfold vP;obtain ⟨m,hm⟩:∃m,ax=(m+1000000)+1:=⟨2^64-1000001,rfl⟩;grind [KX]
def Code(P:List Tb):Nat->Nat->zn->Int->Prop
 |0,_,_,_=>False
 |d+1,row,l,c=>(l.length=1/\l[0]? =some c)\/(2<=l.length/\∃a b t,Code P d (row+1) (l.take ((l.length+1)/2)) a/\Code P d (row+1+((l.length+1)/2-1)) (l.drop ((l.length+1)/2)) b/\
   Ag a/\Ag b/\P[row]? =some t/\∃i:Nat,c=(i:Int)/\t.2.1[i]? =some (uf a b))
abbrev Nd(P:List Tb):Prop:= ∀(r:Nat) (t:Tb),P[r]? =some t->t.2.1.Nodup
theorem Code.fn{P:List Tb}(nd:Nd P):∀{d row:Nat} {l:zn} {c j:Int},Code P d row l c->Code P d row l j->c=j
 |0,_,_,_,_,h,_=>h.elim
 |d+1,row,l,c,j,h,h'=>by
  rcases h with ⟨o,q⟩|⟨o,a,b,t,ha,hb,_,_,ht,i,rfl,hi⟩ <;> rcases h' with ⟨g,n⟩|⟨g,v,u,t',f,e,_,_,k,p,rfl,m⟩
  .grind
  .omega
  .omega
  .have s:=Code.fn nd ha f;have r:=Code.fn nd hb e;grind [ZO]
theorem Code.inj{P:List Tb}:∀{d row:Nat} {l l':zn} {c:Int},l.length=l'.length->Code P d row l c->Code P d row l' c->l=l'
 |0,_,_,_,_,_,h,_=>h.elim
 |d+1,row,l,l',c,hl,h,h'=>by
  rcases h with ⟨v,y⟩|⟨v,a,b,t,ha,hb,r,q,ht,i,rfl,hi⟩ <;> rcases h' with ⟨p,u⟩|⟨p,A,z,t',m,k,o,n,f,s,e,g⟩
  .refine mN λj=>?_;grind
  .omega
  .omega
  .have:i=s:=by omega
   subst this;rw [ht] at f;cases f;rw [hi] at g;obtain ⟨x,w⟩:=Xi r q o n (iN g);subst x;subst w;rw [<-hl] at m k;have e3:=Code.inj (by simp [hl]) ha m;have e4:=Code.inj (by simp [hl]) hb k;grind [List.take_append_drop]
def Ext(P P':List Tb):Prop:= ∀(r:Nat) (t:Tb),P[r]? =some t->∃t',P'[r]? =some t'/\t.2.1 <+: t'.2.1
theorem Ext.refl(P:List Tb):Ext P P:=λa t h=>⟨t,h,qY _⟩
theorem Ext.trans{P Q R:List Tb}(h:Ext P Q)(b:Ext Q R):Ext P R:=λr t ht=>by obtain ⟨t1,a,e⟩:=h r t ht;obtain ⟨t2,d,c⟩:=b r t1 a;grind
theorem W0{l l':List α}(h:l <+: l'){i:Nat}{x:α}(hi:l[i]? =some x):l'[i]? =some x:=by obtain ⟨r,rfl⟩:=h;grind
theorem Code.ext{P g:List Tb}(f:Ext P g):∀{d row:Nat} {l:zn} {c:Int},Code P d row l c->Code g d row l c
 |0,_,_,_,h=>h.elim
 |d+1,row,l,c,h=>by
  rcases h with h|⟨o,a,b,t,ha,hb,k,j,ht,i,e,hi⟩
  .exact .inl h
  .obtain ⟨t',n,m⟩:=f row t ht;exact .inr ⟨o,a,b,t',ha.ext f,hb.ext f,k,j,n,i,e,W0 m hi⟩
structure yM(P:List Tb)(cap:Int):Prop where
 ti:∀(r:Nat) (t:Tb),P[r]? =some t->TI t
 cap:∀(r:Nat) (t:Tb),P[r]? =some t->t.1=cap
theorem yM.nd{P:List Tb}{cap:Int}(h:yM P cap):Nd P:=λr t ht=>(h.ti r t ht).nd
theorem ahw{n:Nat}(h:2<=n)(hn:n<1000):i64.wrap (Int.tdiv (i64.wrap ((n:Int)+1)) 2)=(((n+1)/2:Nat):Int):=by rw [nx (by omega),show Int.tdiv ((n+1:Nat)) 2=(((n+1)/2:Nat)) from rfl,bR (by omega)]
theorem GY{i j n:Nat}(h:i<=j)(a:j<=n):cR (i:Int) (j:Int) n=true:=by grind [cR]
theorem agB{j n:Nat}(h:j<=n):cR 0 (j:Int) n=true:=by grind [cR]
theorem ZA(l:List α)(k:Nat):aT l 0 (k:Int)=l.take k:=by unfold aT;simp
theorem Zm(l:List α)(k:Nat):aT l (k:Int) (l.length:Int)=l.drop k:=by grind [aT,Int.toNat_natCast,List.take_of_length_le]
abbrev Qx:((Int×zn×List Tb)->Option y2)->(Int×zn×List Tb)->Option y2:=λk s=>mo k s.1 s.2.1 s.2.2
theorem Uq{P:List Tb}{cap:Int}(r:yM P cap):∀(d M row:Nat) (l:zn),1<=l.length->l.length<=d->l.length<1000->row+l.length<=1000000->d<=M->row+(l.length-1)<=P.length->(∀x∈l,Ag x)->
  (∃c,Ag c/\Code P d row l c/\ao Qx M ((row:Int),l,P)=some (.ok c))\/
  ((∀c,¬Code P d row l c)/\∃e,ao Qx M ((row:Int),l,P)=some (.error e))
 |0,_,_,_,h1,h2,_,_,_,_,_=>by omega
 |d+1,M,row,l,h1,h2,hn,hr,hM,hlen,hu=>by
  obtain ⟨M,rfl⟩:∃m,M=m+1:=⟨M-1,by omega⟩;have E:ao Qx (M+1) ((row:Int),l,P)=mo (ao Qx M) (row:Int) l P:=au;rw [E];have w:=λrow l=>Uq r d M row l;generalize ao Qx M=k at w ⊢;clear E;unfold mo;by_cases h:l.length=1
  .have y:l[0]? =some (l[0]'(by omega)):=b9 _;refine .inl ⟨l[0]'(by omega),hu _ (eF _),.inl ⟨h,y⟩,?_⟩;rw [show ((l.length:Int)==1)=true by simp;omega,cp,IP y,ah]
  .rw [show ((l.length:Int)==1)=false by simp;omega,ca,ahw (by omega) hn,aN (agB (by omega)),ZA,nx (by omega)];have I:(l.take ((l.length+1)/2)).length=(l.length+1)/2:=by simp;omega
   have G:(l.drop ((l.length+1)/2)).length=l.length-(l.length+1)/2:=by simp
   rcases w (row+1) (l.take ((l.length+1)/2)) (by omega) (by omega) (by omega) (by omega) (by omega) (by omega) (λx hx=>hu x (tx hx)) with ⟨a,F,ha,v⟩|⟨ha,e,v⟩
   .rw [v];simp only [Bz,ah];rw [aN (GY (by omega) (c8 _)),Zm,RZ _ (by omega),ah,bR (by omega)];rw [show ((row+1:Nat):Int)+(((l.length+1)/2-1:Nat))=((row+1+((l.length+1)/2-1):Nat)) by omega];rcases w (row+1+((l.length+1)/2-1)) (l.drop ((l.length+1)/2)) (by omega) (by omega) (by omega) (by omega) (by omega) (by omega) (λx hx=>hu x (qU hx)) with ⟨b,D,hb,u⟩|⟨hb,e,u⟩
    .rw [u];simp;have p:row<P.length:=by omega
     have f  :=b9 p;have t:=r.ti row _ f;unfold oO;rw [fR f,ah,Za];by_cases hm:uf a b∈P[row].2.1
     .obtain ⟨i,hi,A⟩:=oR hm;have:=t.n;refine .inl ⟨(i),⟨by omega,by omega⟩,.inr ⟨by omega,a,b,P[row],ha,hb,F,D,f,i,rfl,A⟩,?_⟩;rw [(lN t (Dh a b)).1 i A,ah,qc,ca,ah,aeN (by omega)]
     .refine .inr ⟨λc q=>?_,⟨(row),?_⟩⟩
      .rcases q with ⟨z,_⟩|⟨_,C,B,t',j,g,_,_,o,H,_,s⟩
       .omega
       .rw [f] at o;cases o;rw [ha.fn r.nd j,hb.fn r.nd g] at hm;exact hm (gr s)
      .rw [(lN t (Dh a b)).2 hm,ah];rfl
    .rw [u];refine .inr ⟨λc q=>?_,⟨e,rfl⟩⟩;rcases q with ⟨z,_⟩|⟨_,_,B,_,_,g,_⟩
     .omega
     .exact hb B g
   .rw [v];refine .inr ⟨λc q=>?_,⟨e,rfl⟩⟩;rcases q with ⟨z,_⟩|⟨_,C,_,_,j,_⟩
    .omega
    .exact ha C j
end So
namespace So
theorem acT{t:Tb}(h:TI t){k:zn}(hk:Key k)(a:k∈t.2.1\/(t.2.1.length:Int)<t.1):
  ∃t' f e,∃i:Nat,cg t k=some (t',(i:Int),f,e)/\TI t'/\t'.1=t.1/\t.2.1 <+: t'.2.1/\t'.2.1[i]? =some k/\t'.2.1.length<=t.2.1.length+1:=by
 by_cases hm:k∈t.2.1
 .obtain ⟨i,hi,e⟩:=oR hm;exact ⟨t,_,_,i,US h hk e,h,rfl,qY _,e,by omega⟩
 grind [Iw]
abbrev Ws:((Int×zn×List Tb)->Option (Int×List Tb))->(Int×zn×List Tb)->Option (Int×List Tb):=λk s=>jM k s.1 s.2.1 s.2.2
structure Grown(P P':List Tb)(cap:Int)(lo hi:Nat):Prop where
 tabs:yM P' cap
 ext:Ext P P'
 len:P'.length=P.length
 out:∀r,(r<lo\/hi<=r)->P'[r]? =P[r]?
 one:∀(r:Nat) (t t':Tb),P[r]? =some t->P'[r]? =some t'->t'.2.1.length<=t.2.1.length+1
theorem ab1{P:List Tb}{cap:Int}(h:yM P cap){row:Nat}{t:Tb}(ht:P[row]? =some t){a b:Int}(j:(t.2.1.length:Int)<cap):
  ∃c P',∃i:Nat,mA (row:Int) a b P=some (c,P')/\c=(i:Int)/\Ag c/\Grown P P' cap row (row+1)/\∃t',P'[row]? =some t'/\t'.2.1[i]? =some (uf a b):=by
 have o:=h.ti row t ht;have g:=uZ ht;obtain ⟨t',f,e,i,v,l,p,s,k,q⟩:=acT o (Dh a b) (.inr (by rw [h.cap row t ht];exact j));have hi:=uZ k;have hn:=l.n;refine ⟨(i),P.set row t',i,?_,rfl,⟨by omega,by omega⟩,⟨⟨λr u d=>?_,λr u d=>?_⟩,λr u d=>?_,by simp,λr j=>?_,λr u u' d m=>?_⟩,t',by grind,k⟩
 .grind [mA,fR,ah,amL,Int.toNat_natCast,aeN]
 .rw [l6 g] at d;split at d
  .cases d;exact l
  .exact h.ti r u d
 .rw [l6 g] at d;split at d
  .cases d;rw [p];exact h.cap row t ht
  .exact h.cap r u d
 .grind
 .grind
 grind
theorem Zj{cap:Int}:∀(d M row:Nat) (l:zn) (P:List Tb),yM P cap->1<=l.length->l.length<=d->l.length<1000->row+l.length<=1000000->d<=M->row+(l.length-1)<=P.length->(∀x∈l,Ag x)->
  (∀(r:Nat) (t:Tb),row<=r->r<row+(l.length-1)->P[r]? =some t->(t.2.1.length:Int)<cap)->
  ∃c P',ao Ws M ((row:Int),l,P)=some (c,P')/\Ag c/\Code P' d row l c/\Grown P P' cap row (row+(l.length-1))
 |0,_,_,_,_,_,h1,h2,_,_,_,_,_,_=>by omega
 |d+1,M,row,l,P,hP,h1,h2,hn,F,hM,hlen,hu,hroom=>by
  obtain ⟨M,rfl⟩:∃m,M=m+1:=⟨M-1,by omega⟩;have E:ao Ws (M+1) ((row:Int),l,P)=jM (ao Ws M) (row:Int) l P:=au;rw [E];have y:=λrow l P=>Zj (cap:=cap) d M row l P;generalize ao Ws M=k at y ⊢;clear E;unfold jM;by_cases h:l.length=1
  .have A:l[0]? =some (l[0]'(by omega)):=b9 _;refine ⟨l[0]'(by omega),P,?_,hu _ (eF _),.inl ⟨h,A⟩,⟨hP,Ext.refl P,rfl,λ_ _=>rfl,λr t t' e e'=>by rw [e] at e';cases e';omega⟩⟩;rw [show ((l.length:Int)==1)=true by simp;omega,cp,IP A,ah]
  .rw [show ((l.length:Int)==1)=false by simp;omega,ca,ahw (by omega) hn,aN (agB (by omega)),ZA,nx (by omega)];have S:(l.take ((l.length+1)/2)).length=(l.length+1)/2:=by simp;omega
   have G:(l.drop ((l.length+1)/2)).length=l.length-(l.length+1)/2:=by simp
   obtain ⟨a,R,K,D,N,n⟩:=y (row+1) (l.take ((l.length+1)/2)) P hP (by omega) (by omega) (by omega) (by omega) (by omega) (by omega) (λx hx=>hu x (tx hx)) (λr t u s=>hroom r t (by omega) (by omega));rw [K,ah,aN (GY (by omega) (c8 _)),Zm,RZ _ (by omega),ah,bR (by omega)];rw [show ((row+1:Nat):Int)+(((l.length+1)/2-1:Nat))=((row+1+((l.length+1)/2-1):Nat)) by omega];have w:=n.len;obtain ⟨b,Q,J,C,L,j⟩:=y (row+1+((l.length+1)/2-1)) (l.drop ((l.length+1)/2)) R n.tabs (by omega) (by omega) (by omega) (by omega) (by omega) (by omega) (λx hx=>hu x (qU hx))
    (λr t u s ht=>hroom r t (by omega) (by omega) (by rw [<-n.out r (by omega)];exact ht))
   rw [J,ah];have v:=j.len;have o:P[row]? =some (P[row]'(by omega)):=b9 _;have p:Q[row]? =some (P[row]'(by omega)):=by rw [j.out row (by omega),n.out row (by omega)];exact o
   obtain ⟨c,O,i,e3,I,B,g,t',q,hk⟩:=ab1 j.tabs p (hroom row _ (c8 _) (by omega) o);rw [e3,ah];refine ⟨c,O,rfl,B,.inr ⟨by omega,a,b,t',(N.ext j.ext).ext g.ext,L.ext g.ext,D,C,q,i,I,hk⟩,⟨g.tabs,(n.ext.trans j.ext).trans g.ext,by rw [g.len,v,w],λr F=>?_,λr t z ht f=>?_⟩⟩
   .rw [g.out r (by omega),j.out r (by omega),n.out r (by omega)]
   .by_cases H:r=row
    .subst H;rw [o] at ht;cases ht;exact g.one r _ _ p f
    .rw [g.out r (by omega)] at f;by_cases e':row+1+((l.length+1)/2-1)<=r
     .rw [<-n.out r (by omega)] at ht;exact j.one r t z ht f
     .rw [j.out r (by omega)] at f;exact n.one r t z ht f
def u4(P:List Tb)(l:zn)(c:Int):Prop:=(l.length=1/\∃x t,∃i:Nat,l[0]? =some x/\P[0]? =some t/\c=(i:Int)/\t.2.1[i]? =some (uf x 0))\/(2<=l.length/\Code P l.length 0 l c)
theorem u4.top{P:List Tb}{l:zn}{c:Int}(h:u4 P l c):∃t,∃i:Nat,P[0]? =some t/\c=(i:Int)/\i<t.2.1.length:=by
 rcases h with ⟨_,x,t,i,_,ht,e,hi⟩|⟨f,h⟩
 .grind
 .obtain ⟨d,hd⟩:∃d,l.length=d+1:=⟨l.length-1,by omega⟩;rw [hd] at h;rcases h with ⟨g,_⟩|⟨_,a,b,t,_,_,_,_,ht,i,e,hi⟩
  .omega
  grind
theorem u4.inj{P:List Tb}{l l':zn}{c:Int}(hl:l.length=l'.length)(o:∀x∈l,Ag x)(f:∀x∈l',Ag x)(h:u4 P l c)(u:u4 P l' c):l=l':=by
 rcases h with ⟨s,x,t,i,g,r,v,p⟩|⟨s,g⟩ <;> rcases u with ⟨k,m,t',n,a,d,q,b⟩|⟨k,a⟩
 .have:i=n:=by omega
  subst this;rw [r] at d;cases d;rw [p] at b;have e:=(Xi (o x (gr g)) (by decide) (f m (gr a)) (by decide) (iN b)).1;refine mN λj=>?_;grind
 .omega
 .omega
 .rw [<-hl] at a;exact g.inj hl a
theorem u4.ext{P e:List Tb}(d:Ext P e){l:zn}{c:Int}(h:u4 P l c):u4 e l c:=by
 rcases h with ⟨b,x,t,i,a,j,g,f⟩|⟨b,a⟩
 .obtain ⟨t',m,k⟩:=d 0 t j;exact .inl ⟨b,x,t',i,a,m,g,W0 k f⟩
 .exact .inr ⟨b,a.ext d⟩
theorem adY{P:List Tb}{cap:Int}(k:yM P cap){l:zn}(r:1<=l.length)(hn:l.length<1000)(j:max 1 (l.length-1)<=P.length)(q:∀x∈l,Ag x):
  (∃c,Ag c/\u4 P l c/\nC l P=some (.ok c))\/((∀c,¬u4 P l c)/\∃e,nC l P=some (.error e)):=by
 unfold nC;by_cases h:l.length=1
 .have m:l[0]? =some (l[0]'(by omega)):=b9 _;have a:P[0]? =some (P[0]'(by omega)):=b9 _;have f:=k.ti 0 _ a;rw [show ((l.length:Int)==1)=true by simp;omega,cp,IP m,ah];unfold oO;rw [IP a,ah,Za];by_cases hm:uf (l[0]'(by omega)) 0∈(P[0]'(by omega)).2.1
  .obtain ⟨i,hi,o⟩:=oR hm;have:=f.n;refine .inl ⟨(i),⟨by omega,by omega⟩,.inl ⟨h,_,_,i,m,a,rfl,o⟩,?_⟩;rw [(lN f (Dh _ _)).1 i o,ah];rw [aeN (by omega)];rfl
  .refine .inr ⟨λc b=>?_,⟨((0:Nat)),?_⟩⟩
   .rcases b with ⟨_,x,t,i,hx,ht,_,hi⟩|⟨d,_⟩
    .grind
    .omega
   .rw [(lN f (Dh _ _)).2 hm,ah];rfl
 .rw [show ((l.length:Int)==1)=false by simp;omega,ca];rcases Uq k l.length ax 0 l r (c8 _) hn (by omega) (by show l.length<=2^64;omega) (by omega) q with ⟨c,p,b,e⟩|⟨b,e,ee⟩
  .refine .inl ⟨c,p,.inr ⟨by omega,b⟩,?_⟩;have g:tH 0 l P=some (.ok c):=e;rw [g];rfl
  .refine .inr ⟨λc d=>?_,e,?_⟩
   .rcases d with ⟨d,_⟩|⟨_,d⟩
    .omega
    .exact b c d
   .have g:tH 0 l P=some (.error e):=ee;rw [g];rfl
theorem agT{P:List Tb}{cap:Int}(k:yM P cap){l:zn}(q:1<=l.length)(hn:l.length<1000)(j:max 1 (l.length-1)<=P.length)(o:∀x∈l,Ag x)
  (a:∀(r:Nat) (t:Tb),P[r]? =some t->(t.2.1.length:Int)<cap):
  ∃c b,nD l P=some (c,b)/\u4 b l c/\∃hi,Grown P b cap 0 hi:=by
 unfold nD;by_cases h:l.length=1
 .have m:l[0]? =some (l[0]'(by omega)):=b9 _;have d:P[0]? =some (P[0]'(by omega)):=b9 _;rw [show ((l.length:Int)==1)=true by simp;omega,cp,IP m,ah];obtain ⟨c,b,i,e,s,n,g,t',f,hk⟩:=ab1 k d (a 0 _ d);rw [show ((0:Nat):Int)=0 from rfl] at e;rw [e,ah];exact ⟨c,b,rfl,.inl ⟨h,_,t',i,m,f,s,hk⟩,_,g⟩
 .rw [show ((l.length:Int)==1)=false by simp;omega,ca];obtain ⟨c,b,e,n,p,g⟩:=Zj l.length ax 0 l P k q (c8 _) hn (by omega) (by show l.length<=2^64;omega) (by omega) o (λr t _ _=>a r t);have u:uu 0 l P=some (c,b):=e;rw [u,ah];exact ⟨c,b,rfl,.inr ⟨by omega,p⟩,_,g⟩
def Fo(s:List Fd)(v:zn):zn:=List.zipWith (λf n=>n-f.1) s v
theorem yn{s:List Fd}(h:v.length=s.length):(Fo s v).length=s.length:=by simp [Fo,h]
theorem Ml{s:List Fd}(h:v.length=s.length){i:Nat}(hi:i<s.length):(Fo s v)[i]? =some ((v[i]'(by omega))-s[i].1):=by grind [Fo,List.getElem?_eq_getElem]
theorem GH{s:List Fd}(b:jJ s){v:zn}(a:In s v):∀x∈Fo s v,Ag x:=by intro x hx;obtain ⟨i,hi,e⟩:=oR hx;rw [yn a.len] at hi;rw [Ml a.len hi] at e;have d:=a.each i hi;have c:=b.each s[i] (eF hi);grind
theorem WW{s:List Fd}{b:zn}(c:In s v)(a:In s b)(h:Fo s v=Fo s b):v=b:=by
 refine tt (by rw [c.len,a.len]) λi d f=>?_;have hi:i<s.length:=by rw [<-c.len];exact d
 have e:=congrArg (λl=>l[i]?) h;simp [Ml c.len hi,Ml a.len hi,et] at e;omega
theorem abX{s:List Fd}(c:jJ s){v:zn}(b:In s v):xA s v=some (Fo s v):=by
 have d:=c.dq;have hl:=b.len;refine vA (λi=>((Fo s v).take i,(i:Int))) s.length (by simp) (by omega) (λi hi k=>?_) (λk=>?_)
 .have a:i<v.length:=by omega
  have f:=b.each i hi;have e:=c.each s[i] (eF hi);simp [xC,dX hi,dX a,ah];grind [bR,aeN,aN,eI,List.take_add_one,Ml]
 simp_all [xC,gx,yn]
abbrev Tr:=List Tb×zn
structure tT(s:List Fd)(cap:Int)(t:Tr)(V:x3)(g:Gf):Prop where
 tabs:yM t.1 cap
 len:t.1.length=max 1 (s.length-1)
 dq:∀(r:Nat) (x:Tb),t.1[r]? =some x->x.2.1.length<=V.length
 top:∀(x:Tb),t.1[0]? =some x->x.2.1.length=V.length
 ins:∀v∈V,In s v
 nd:V.Nodup
 code:∀(i:Nat) v,V[i]? =some v->u4 t.1 (Fo s v) (i:Int)
 flags:Flags V g t.2
theorem tT.aoS{s:List Fd}{cap:Int}{t:Tr}{V:x3}{g:Gf}(h:tT s cap t V g):∃x,t.1[0]? =some x/\x.2.1.length=V.length/\TI x/\x.1=cap:=by have a:t.1[0]? =some (t.1[0]'(by rw [h.len];omega)):=b9 _;exact ⟨_,a,h.top _ a,h.tabs.ti 0 _ a,h.tabs.cap 0 _ a⟩
theorem PC{s:List Fd}(a:jJ s)(most:Int):IN s most=if most<0\/1048576<most then some (([],[]),1) else some ((List.replicate (max 1 (s.length-1)) (most,[],List.replicate 8 0),[]),0):=by
 have b:=a.dq;unfold IN JY;rw [Rr];by_cases h:most<0\/1048576<most
 .grind
 .rw [df h,df h,ah,ah];simp only [show ((0:Int) != 0)=false from rfl,ca];rw [RZ _ (by omega),ah];refine vA (λi=>(List.replicate i (most,[],List.replicate 8 0),(i:Int))) (max 1 (s.length-1)) (by simp) (by omega) (λi hi k=>?_) (λk=>?_)
  .simp only [Fz];rw [cy (by omega),cp,aN (eI (by simp;omega) (by simp;omega)),nx (by omega)];grind [List.replicate_succ']
  .simp [Fz];grind
theorem aeg(s:List Fd){most:Int}(d:0<=most)(c:most<=1048576):tT s most (List.replicate (max 1 (s.length-1)) (most,[],List.replicate 8 0),[]) [] (λ_ _=>false):=by
 have b:∀(r:Nat) (x:Tb),(List.replicate (max 1 (s.length-1)) ((most,[],List.replicate 8 0)))[r]? =some x->x=(most,[],List.replicate 8 0):=by grind
 exact ⟨⟨λr x hx=>by grind [PJ],λr x hx=>by rw [b r x hx]⟩,by simp,λr x hx=>by grind,λx hx=>by grind,λv a=>by simp at a,qW,λi v h=>by simp at h,Flags.nil⟩
theorem YA{s:List Fd}(a:nE s){cap:Int}{t:Tr}{V:x3}{g:Gf}(h:tT s cap t V g){v:zn}(f:In s v):
  (∃i:Nat,i<V.length/\V[i]? =some v/\v∈V/\vR t s v=some ((i:Int),true))\/(v∉V/\vR t s v=some (0,false)):=by
 have m:=a.dq;have hp:=a.pos;have b:=yn f.len;unfold vR;rw [abX a.fds f,ah];rcases adY h.tabs (by omega) (by omega) (by rw [h.len,b];omega) (GH a.fds f) with ⟨c,l,j,e⟩|⟨j,e,ee⟩
 .obtain ⟨x,i,hx,rfl,hi⟩:=j.top;rw [h.top x hx] at hi;have k  :=b9 hi;have d:=h.ins _ (eF hi);have:=(h.code i _ k).inj (by rw [yn d.len,b]) (GH a.fds d) (GH a.fds f) j;grind [WW,List.mem_of_getElem?,fZ,ah,bR]
 .refine .inr ⟨λhm=>?_,by rw [ee];rfl⟩;obtain ⟨i,hi,e'⟩:=oR hm;exact j _ (h.code i v e')
theorem aaq{l:List Tb}(h:l.length<1000000):eO l=some l:=by grind [eO,aN,eI]
theorem afq{s:List Fd}(l:nE s){cap:Int}{t:Tr}{V:x3}{g:Gf}(h:tT s cap t V g){v:zn}(f:In s v):
  ∃t',Ad t s v=some (t',(vw cap V v).2)/\tT s cap t' (vw cap V v).1 g:=by
 have Q:=l.dq;have hp:=l.pos;have p:=yn f.len;obtain ⟨x0,k,A,D,B⟩:=h.aoS;unfold Ad vw;rw [yY s v (by have:=f.len;omega),pG.2 f,ah,show ((0:Int) != 0)=false from rfl,ca];rcases YA l h f with ⟨i,hi,e,hm,ef⟩|⟨hm,ef⟩
 .rw [ef,ah,du hm];exact ⟨t,rfl,h⟩
 .rw [ef,ah,df hm];rw [IP k,ah];have M:ES t=some (V.length:Int):=by unfold ES;rw [show ((t.1.length:Int)==0)=false from beq_eq_false_iff_ne.2 (by rw [h.len];omega),ca,IP k,ah];unfold IJ xy;rw [ah,ah,A]
  rw [M,ah,B];by_cases H:cap<=(V.length)
  .grind
  .rw [c9 H,df H,ca,aaq (by rw [h.len];omega),ah,abX l.fds f,ah];obtain ⟨c,P,O,m,J,o⟩:=agT h.tabs (by omega) (by omega) (by rw [h.len,p];omega) (GH l.fds f) (λr x hx=>by have:=h.dq r x hx;omega);have K:=h.flags.len;have L  :=by have:=D.n;omega
   rw [O,ah,aN (Jb _),L4,aN (eI (by simp;omega) (by simp;omega))]
   -- the new place
   obtain ⟨I,i,z,N,G⟩:=m.top;have F:=o.one 0 x0 I k z;have y:V.length<=i:=by
    rcases qE i V.length with q|y
    .have C  :=b9 q;have w:=h.ins _ (eF q);rw [N] at m;have:=((h.code i _ C).ext o.ext).inj (by rw [yn w.len,p]) (GH l.fds w) (GH l.fds f) m;grind [WW,List.getElem_mem]
    .exact y
   refine ⟨(P,t.2++[0]),rfl,⟨o.tabs,by rw [o.len,h.len],λr x hx=>?_,λx hx=>?_,λu d=>?_,?_,λj u d=>?_,h.flags.add hm⟩⟩
   .have E:r<t.1.length:=by rw [<-o.len];exact uZ hx
    have:=o.one r _ x (b9 E) hx;have:=h.dq r _ (b9 E);simp;omega
   .grind
   .rcases List.mem_append.1 d with d|d
    .exact h.ins u d
    grind
   .exact List.nodup_append.2 ⟨h.nd,by simp,λa ha b hb=>by grind⟩
   .rw [tJ] at d;split at d
    .exact (h.code j u d).ext o.ext
    grind
theorem Uw{s:List Fd}(c:nE s){cap:Int}{t:Tr}{V:x3}{g:Gf}(h:tT s cap t V g){v:zn}(b:In s v)(a:Int):
  (gb V v a≠0/\B9 t s v a=some (0,gb V v a))\/(gb V v a=0/\(a=0\/a=1)/\∃i:Nat,i<V.length/\V[i]? =some v/\B9 t s v a=some ((i:Int),0)):=by
 unfold B9 gb;have:=c.dq;rw [yY s v (by have:=b.len;omega),pG.2 b,ah,show ((0:Int) != 0)=false from rfl,ca];simp [aV];rcases yI a with hb|hb
 .grind
 .rcases YA c h b with ⟨i,hi,e,hm,ef⟩|⟨hm,ef⟩
  .grind
  grind
theorem ad3{s:List Fd}(k:nE s){cap:Int}{t:Tr}{V:x3}{g:Gf}(h:tT s cap t V g){v:zn}(f:In s v)(a:Int):
  ∃t',Ih t s v a=some (t',gb V v a)/\tT s cap t' V (SO V g v a):=by
 obtain ⟨x0,j,l,c,o⟩:=h.aoS;unfold Ih SO;rcases Uw k h f a with ⟨b,e⟩|⟨b,hb,i,hi,ev,e⟩
 .grind
 .have m:=h.flags.len;have:=c.n;rw [e,ah,du b,b];rw [BW (by omega),ah,fR (h.flags.at_ i v ev),ah,aN (cy (by omega)),ah,lk];refine ⟨(t.1,t.2.set i (fl (g false v|| !(a==1)) (g true v||(a==1)))),?_,⟨h.tabs,h.len,h.dq,h.top,h.ins,h.nd,h.code,h.flags.set h.nd ev _⟩⟩;have d:=WM (g false v) (g true v);rcases hb with rfl|rfl
  .rw [d.2.2.1];rfl
  .rw [d.2.2.2];rfl
theorem aed{s:List Fd}(d:nE s){cap:Int}{t:Tr}{V:x3}{g:Gf}(h:tT s cap t V g){v:zn}(c:In s v)(a:Int):
  Ii t s v a=some (Ss V g v a,gb V v a):=by
 unfold Ii Ss;rcases Uw d h c a with ⟨b,e⟩|⟨b,hb,i,hi,ev,e⟩
 .grind
 .rw [e,ah,du b,b];rw [fR (h.flags.at_ i v ev),ah,aN (cy (by omega))];have f:=W6 (g false v) (g true v);rcases hb with rfl|rfl
  .rw [f.2.2.2.2.1];rfl
  grind
end So
namespace So
def Bf(a:Int)(k:Nat):Int:=u8.wrap (iq .i64 a (k:Int))
def GP(n:Nat):zn:=[Bf n 0,Bf n 8,Bf n 16,Bf n 24]
theorem adl(n:Nat):Bf n 0=(n:Int)%256/\Bf n 8=(n:Int)/256%256/\Bf n 16=(n:Int)/65536%256/\Bf n 24=(n:Int)/16777216%256:=by
 refine ⟨?_,?_,?_,?_⟩
 .show u8.wrap ((n)/1)=_;rw [IntKind.wrap_u8];omega
 .show u8.wrap ((n)/256)=_;rw [IntKind.wrap_u8]
 .show u8.wrap ((n)/65536)=_;rw [IntKind.wrap_u8]
 .show u8.wrap ((n)/16777216)=_;rw [IntKind.wrap_u8]
theorem amE{a b:Nat}(ha:a<4294967296)(hb:b<4294967296)(h:GP a=GP b):a=b:=by obtain ⟨a0,j,i,g⟩:=adl a;obtain ⟨f,e,d,c⟩:=adl b;simp [GP,qa] at h;omega
theorem aoD(n:Nat):By (GP n):=λx hx=>by simp [GP,qy] at hx;obtain ⟨a0,c,b,a⟩:=adl n;grind
theorem ahY(row:zn)(n:Nat)(c:row.length<100000):uI row [(n:Int)]=some (row++GP n):=by
 have b:∀k:(zn×Int)->Option zn,ao (yv 0 k (n)) ax (row,0)=k (row++GP n,1):=by
  intro k;refine vA (λi=>(row++(GP n).take i,(i:Int))) 4 (by simp) (by omega) (λi hi a=>?_) (λa=>?_)
  .unfold yv;dsimp only;rw [cy (by omega),cp,bR (by omega),aN (cy (by omega)),aN (eI (by grind) (by grind)),nx (by omega),cb]
   match i,hi with
   |0,_=>rfl
   |1,_=>rfl
   |2,_=>rfl
   |3,_=>rfl
   |_+4,hi=>omega
  .rfl
 refine vA (λi=>(if i=0 then row else row++GP n,(i:Int))) 1 rfl (by omega) (λi hi k=>?_) (λk=>?_)
 .have:i=0:=by omega
  subst this;unfold yh;dsimp only;rw [show decide (((0:Nat):Int)<(([(n:Int)]:zn).length))=true from rfl,cp,show idx [(n:Int)] ((0:Nat))=some (n:Int) from rfl,ah];exact b k
 .unfold yh;grind
def rowOf(ps:zo):zn:=ps.flatMap GP
theorem LB(ps:zo):(rowOf ps).length=4*ps.length:=by
 induction ps with
 |nil=>rfl
 |cons p ps ih=>simp [rowOf,qS,eP,ei] at *; show 4+_=_;omega
theorem PT(ps:zo)(n:Nat):rowOf (ps++[n])=rowOf ps++GP n:=by simp [rowOf]
theorem K4:∀{a b:zo},a.length=b.length->(∀x∈a,x<4294967296)->(∀x∈b,x<4294967296)->rowOf a=rowOf b->a=b
 |[],[],_,_,_,_=>rfl
 |[],_::_,h,_,_,_=>by simp at h
 |_::_,[],h,_,_,_=>by simp at h
 |a::aa,b::bb,h,ha,hb,e=>by have e':=List.append_inj (show GP a++rowOf aa=GP b++rowOf bb from e) rfl;rw [amE (ha a (by simp)) (hb b (by simp)) e'.1,K4 (by simpa using h) (λx hx=>ha x (by simp [hx])) (λx hx=>hb x (by simp [hx])) e'.2]
theorem Vo{ps:zo}(h:ps.length<100):Key (rowOf ps):=by refine ⟨λx hx=>?_,by rw [LB];omega⟩;simp [rowOf,List.mem_flatMap] at hx;obtain ⟨n,_,hx⟩:=hx;exact aoD n x hx
def ch{α:Type}(l:List α)(i:Nat):List α:=(l.drop (2*i)).take 2
def ig(s:List Fd):Nat:=(s.length+1)/2
theorem QM(l:List α){n i:Nat}(hn:n=l.length)(h:2*i<n):aT l ((2*i:Nat):Int) ((min n (2*i+2):Nat):Int)=ch l i:=by unfold aT ch;grind [min,List.take_of_length_le]
theorem Me{s:List Fd}(h:In s v)(i:Nat):In (ch s i) (ch v i):=(h.drop (2*i)).take 2
theorem PK{s:List Fd}(h:jJ s)(i:Nat):jJ (ch s i):=(h.drop (2*i)).take 2
theorem aog{l l':zn}{n:Nat}(hl:l.length=n)(a:l'.length=n)(h:∀i,i<(n+1)/2->ch l i=ch l' i):l=l':=by
 refine mN λk=>?_;by_cases hk:k<n
 .have e:=congrArg (λx=>x[k%2]?) (h (k/2) (by omega));simp [ch,ql] at e;grind
 grind
structure Pl(P:List Tb)(s:List Fd)(v:zn)(m:Nat)(ps:zo):Prop where
 len:ps.length=m
 at_:∀i,i<m->∃p t,ps[i]? =some p/\P[i]? =some t/\t.2.1[p]? =some (enc (ch s i) (ch v i))
theorem Pl.fn{P:List Tb}(nd:Nd P){s:List Fd}{v:zn}{m:Nat}{ps a:zo}(h:Pl P s v m ps)(b:Pl P s v m a):ps=a:=by
 refine mN λi=>?_;by_cases hi:i<m
 .obtain ⟨p,t,g,f,e3⟩:=h.at_ i hi;obtain ⟨p',t',e,d,c⟩:=b.at_ i hi;grind [ZO]
 .rw [l7 (by have:=h.len;omega),l7 (by have:=b.len;omega)]
theorem Pl.inj{P:List Tb}{s:List Fd}{v e:zn}(f:In s v)(a:In s e){ps:zo}(h:Pl P s v (ig s) ps)(g:Pl P s e (ig s) ps):v=e:=by refine aog f.len a.len λi hi=>?_;obtain ⟨p,t,k,j,e3⟩:=h.at_ i hi;obtain ⟨p',t',d,c,b⟩:=g.at_ i hi;rw [j] at c;cases c;rw [k] at d;cases d;rw [e3] at b;exact abV (Me f i) (Me a i) (iN b)
theorem Pl.ext{P a:List Tb}(b:Ext P a){s:List Fd}{v:zn}{m:Nat}{ps:zo}(h:Pl P s v m ps):Pl a s v m ps:=
 ⟨h.len,λi hi=>by obtain ⟨p,t,f,c,e3⟩:=h.at_ i hi;obtain ⟨t',e,d⟩:=b i t c;grind [W0]⟩
theorem Pl.snoc{P:List Tb}{s:List Fd}{p:Nat}{t:Tb}{ps:zo}(h:Pl P s v m ps)(ht:P[m]? =some t)(hp:t.2.1[p]? =some (enc (ch s m) (ch v m))):Pl P s v (m+1) (ps++[p]):=by
 refine ⟨by simp [h.len],λi hi=>?_⟩;by_cases e:i<m
 .obtain ⟨p',t',b,a,e3⟩:=h.at_ i e;grind
 .have:i=m:=by omega
  subst this;exact ⟨p,t,by rw [de (by rw [h.len];omega),h.len];simp,ht,hp⟩
theorem Pl.small{P:List Tb}{cap:Int}(b:yM P cap){s:List Fd}{v:zn}{m:Nat}{ps:zo}(h:Pl P s v m ps):∀x∈ps,x<4294967296:=by intro x hx;obtain ⟨i,hi,e⟩:=oR hx;obtain ⟨p,t,a,c,e3⟩:=h.at_ i (by rw [<-h.len];exact hi);rw [e] at a;cases a;have:=uZ e3;have:=(b.ti i t c).n;omega
abbrev Co:=List Tb×Tb×zn
structure Np(s:List Fd)(cap:Int)(c:Co)(V:x3)(g:Gf):Prop where
 tabs:yM c.1 cap
 plen:c.1.length=ig s
 dq:∀(r:Nat) (x:Tb),c.1[r]? =some x->x.2.1.length<=V.length
 rows:TI c.2.1
 rcap:c.2.1.1=cap
 rlen:c.2.1.2.1.length=V.length
 ins:∀v∈V,In s v
 nd:V.Nodup
 code:∀(j:Nat) v,V[j]? =some v->∃ps,Pl c.1 s v (ig s) ps/\c.2.1.2.1[j]? =some (rowOf ps)
 flags:Flags V g c.2.2
theorem ahK{s:List Fd}(g:jJ s){v:zn}(f:In s v){c:Co}{cap:Int}(l:yM c.1 cap)(hl:c.1.length=ig s)(q:TI c.2.1):
  ∀(d i:Nat) (x:Int) (ps:zo) (M:Nat),i+d=ig s->d<M->Pl c.1 s v i ps->
   (∃a,Pl c.1 s v (ig s) a/\ao (oI c s (s,v)) M ((i:Int),x,rowOf ps)=(dK c.2.1 (rowOf a)).bind λr=>bif (!r.2) then some (-1) else some r.1)\/
   ((∀a,¬Pl c.1 s v (ig s) a)/\ao (oI c s (s,v)) M ((i:Int),x,rowOf ps)=some (-1)):=by
 have u:=g.dq;intro d
 induction d with
 |zero=>
  intro i x ps M hi n b;obtain ⟨m,rfl⟩:∃m,M=m+1:=⟨M-1,by omega⟩;rw [au];have:i=ig s:=by omega
  subst this;refine .inl ⟨ps,b,?_⟩;unfold oI;dsimp only;unfold ig;rw [bR (by omega),c9 (by omega),ca]
 |succ d ih=>
  intro i x ps M hi n b;obtain ⟨m,rfl⟩:∃m,M=m+1:=⟨M-1,by omega⟩;rw [au];have h:i<ig s:=by omega
  have e:2*i<s.length:=by grind [ig]
  have ht:c.1[i]? =some (c.1[i]'(by omega)):=b9 _;have j:=l.ti i _ ht;have hk:=G7 (PK g i) (Me f i);unfold oI;dsimp only;rw [bR (by omega),cy (by omega),cp,nx (by omega),bR (by omega),
   show (i:Int)*2=((2*i:Nat)) by omega,show min (s.length:Int) (((i+1:Nat))*2)=((min s.length (2*i+2):Nat)) by omega,
   aN (GY (by omega) (by omega)),aN (GY (by omega) (by rw [f.len];omega)),QM s rfl e,QM v f.len.symm e,LN (PK g i) (Me f i),ah,fR ht,ah]
  by_cases hm:enc (ch s i) (ch v i)∈(c.1[i]'(by omega)).2.1
  .obtain ⟨p,hp,k⟩:=oR hm;rw [(lN j hk).1 p k,ah];rw [qc,ca,ahY _ _ (by rw [LB,b.len];omega),ah,ca,<-PT];exact ih (i+1) x (ps++[p]) m (by omega) (by omega) (b.snoc ht k)
  .rw [(lN j hk).2 hm,ah];refine .inr ⟨λa o=>?_,rfl⟩;obtain ⟨p,t,_,w,e3⟩:=o.at_ i h;grind
theorem Xm{s:List Fd}(x:jJ s){cap:Int}{c:Co}{V:x3}{g:Gf}(h:Np s cap c V g){v:zn}(w:In s v):
  (∃i:Nat,i<V.length/\V[i]? =some v/\v∈V/\sU c s v=some (i:Int))\/(v∉V/\sU c s v=some (-1)):=by
 have A:=x.dq;have y:ig s<=9:=by unfold ig;omega
 have p:=h.tabs.nd;have z:sU c s v=ao (oI c s (s,v)) ax (((0:Nat)),0,rowOf []):=by rfl
 rw [z];rcases ahK x w h.tabs h.plen h.rows (ig s) 0 0 [] ax (by omega) (by show ig s<2^64;omega) ⟨rfl,λi hi=>by omega⟩ with ⟨ps,a,e⟩|⟨o,e⟩
 .rw [e];have d:=Vo (by rw [a.len];omega);by_cases hm:rowOf ps∈c.2.1.2.1
  .obtain ⟨j,q,m⟩:=oR hm;have k:j<V.length:=by rw [<-h.rlen];exact q
   have b  :=b9 k;obtain ⟨f,l,u⟩:=h.code j _ b;rw [m] at u;have n:=K4 (by rw [a.len,l.len]) (a.small h.tabs) (l.small h.tabs) (iN u);subst n;have r:=h.ins _ (eF k);have:=l.inj r w a;rw [this] at b;exact .inl ⟨j,k,b,gr b,by rw [(lN h.rows d).1 j m];rfl⟩
  .refine .inr ⟨λt=>?_,by rw [(lN h.rows d).2 hm];rfl⟩;obtain ⟨j,q,m⟩:=oR t;obtain ⟨f,l,u⟩:=h.code j v m;rw [a.fn p l] at hm;grind
 .refine .inr ⟨λt=>?_,e⟩;obtain ⟨j,q,m⟩:=oR t;obtain ⟨f,l,_⟩:=h.code j v m;exact o f l
theorem akC{s:List Fd}(A:jJ s){v:zn}(y:In s v){c:Co}{cap:Int}(J:c.2.2.length<100000000):
  ∀(d i:Nat) (P:List Tb) (ps:zo) (M:Nat),i+d=ig s->d<M->yM P cap->P.length=ig s->Pl P s v i ps->(∀(r:Nat) (x:Tb),i<=r->P[r]? =some x->(x.2.1.length:Int)<cap)->
   ∃w j,Pl w s v (ig s) j/\Grown P w cap i (ig s)/\ao (lO c s (s,v)) M ((i:Int),P,rowOf ps)=(cg c.2.1 (rowOf j)).bind λr=>some ((w,r.1,c.2.2++[0]),true,0):=by
 have S:=A.dq;intro d
 induction d with
 |zero=>
  intro i P ps M hi I l hl k _;obtain ⟨m,rfl⟩:∃m,M=m+1:=⟨M-1,by omega⟩;rw [au];have:i=ig s:=by omega
  subst this;refine ⟨P,ps,k,⟨l,Ext.refl P,rfl,λ_ _=>rfl,λr t t' e e'=>by rw [e] at e';cases e';omega⟩,?_⟩;unfold lO;dsimp only;rw [bR (show _/\((ig s:Nat):Int)*2<=_ by unfold ig;omega),c9 (by unfold ig;omega),ca,L4];cases cg c.2.1 (rowOf ps) with
  |none=>rfl
  |some r=>rw [ah,ah,aN (Jb _),aN (eI (by simp;omega) (by simp;omega))]
 |succ d ih=>
  intro i P ps M hi I l hl k h;obtain ⟨m,rfl⟩:∃m,M=m+1:=⟨M-1,by omega⟩;rw [au];have B:i<ig s:=by omega
  have q:2*i<s.length:=by unfold ig at B;omega
  have G:ig s<=9:=by unfold ig;omega
  have b:i<P.length:=by omega
  have ht:P[i]? =some P[i]:=b9 b;have H:=l.ti i _ ht;have hk:=G7 (PK A i) (Me y i);obtain ⟨t',f,e,p,R,Q,O,N,L,K⟩:=acT H hk (.inr (by rw [l.cap i _ ht];exact h i _ (c8 _) ht));have z:Grown P (P.set i t') cap i (i+1):=by
   refine ⟨⟨λr u a=>?_,λr u a=>?_⟩,λr u a=>?_,by simp,λr C=>?_,λr u u' a g=>?_⟩
   .rw [l6 b] at a;split at a
    .cases a;exact Q
    .exact l.ti r u a
   .rw [l6 b] at a;split at a
    .cases a;rw [O];exact l.cap i _ ht
    .exact l.cap r u a
   .by_cases e:i=r
    .subst e;rw [ht] at a;cases a;exact ⟨t',by rw [l6 b,du rfl],N⟩
    .exact ⟨u,by rw [l6 b,df e];exact a,qY _⟩
   .rw [l6 b,df (by omega)]
   .rw [l6 b] at g;split at g
    next e=>subst e;cases g;rw [ht] at a;cases a;exact K
    .rw [a] at g;cases g;omega
  obtain ⟨w,j,k1,n,E⟩:=ih (i+1) (P.set i t') (ps++[p]) m (by omega) (by omega) z.tabs (by simpa using hl) ((k.ext z.ext).snoc (by grind) L) (λr x C hx=>h r x (by omega) (by grind));refine ⟨w,j,k1,⟨n.tabs,z.ext.trans n.ext,by rw [n.len];simp,λr C=>?_,λr t D F o=>?_⟩,?_⟩
  .rw [n.out r (by omega),z.out r (by omega)]
  .by_cases T:r=i
   .rw [n.out r (by omega)] at o;grind
   .exact n.one r t D (by grind) o
  .rw [<-E];unfold lO;dsimp only;rw [bR (by omega),cy (by omega),cp,nx (by omega),bR (by omega),
    show (i:Int)*2=((2*i:Nat)) by omega,show min (s.length:Int) (((i+1:Nat))*2)=((min s.length (2*i+2):Nat)) by omega,
    aN (GY (by omega) (by omega)),aN (GY (by omega) (by rw [y.len];omega)),QM s rfl q,QM v y.len.symm q,LN (PK A i) (Me y i),ah,fR ht,ah]
   rw [R,ah];rw [ahY _ _ (by rw [LB,k.len];omega),ah,ah,qc,ca,<-PT,lk]
theorem adg{l:List Tb}(h:l.length<1000000):dv l=some l:=by grind [dv,aN,eI]
theorem aap{s:List Fd}{cap:Int}{c:Co}{V:x3}{g:Gf}(h:Np s cap c V g):AE c=some (V.length:Int):=by unfold AE xy;rw [ah,h.rlen]
theorem afh{s:List Fd}(y:jJ s){cap:Int}{c:Co}{V:x3}{g:Gf}(h:Np s cap c V g){v:zn}(l:In s v):
  ∃c',yX c s v=some (c',(vw cap V v).2)/\Np s cap c' (vw cap V v).1 g:=by
 have R:=y.dq;have I:ig s<=9:=by unfold ig;omega
 unfold yX vw;rw [yY s v (by have:=l.len;omega),pG.2 l,ah,show ((0:Int) != 0)=false from rfl,ca];rcases Xm y h l with ⟨i,hi,e,hm,ef⟩|⟨hm,ef⟩
 .rw [ef,ah,du hm,cy (by omega)];exact ⟨c,rfl,h⟩
 .rw [ef,ah,df hm,c9 (by omega),ca,aap h,ah,h.rcap];by_cases t:cap<=(V.length)
  .rw [cy t,du t];exact ⟨c,rfl,h⟩
  .have J:=h.flags.len;have K:V.length<=1048576:=by have:=h.rows.n;have:=h.rlen;omega
   rw [c9 t,df t,ca,adg (by rw [h.plen];omega),ah];obtain ⟨P,ps,k1,f,H⟩:=akC y l (c:=c) (by omega) (ig s) 0 c.1 [] ax (by omega) (by show ig s<2^64;omega) h.tabs h.plen ⟨rfl,λi hi=>by omega⟩ (λr x _ hx=>by have:=h.dq r x hx;omega);have O:((uH s v).bind λw=>ao (lO c s w) ax (0,c.1,[]))=ao (lO c s (s,v)) ax (((0:Nat)),c.1,rowOf []):=by rfl
   rw [O,H];have p:=Vo (by rw [k1.len];omega);have m:rowOf ps∉c.2.1.2.1:=λo=>by
    obtain ⟨j,A,L⟩:=oR o;have k:j<V.length:=by rw [<-h.rlen];exact A
    have B  :=b9 k;obtain ⟨G,E,D⟩:=h.code j _ B;rw [L] at D;have q:=E.ext f.ext;have z:=K4 (by rw [k1.len,E.len]) (k1.small f.tabs) (q.small f.tabs) (iN D);subst z;have:=q.inj (h.ins _ (eF k)) l k1;exact hm (this▸eF k)
   obtain ⟨t',N,M,e3,e4⟩:=Iw h.rows p m (by rw [h.rlen,h.rcap];omega);rw [N,ah];refine ⟨(P,t',c.2.2++[0]),rfl,⟨f.tabs,by rw [f.len,h.plen],λr x hx=>?_,e4,by rw [M,h.rcap],by rw [e3];simp [h.rlen],λu d=>?_,?_,λj u d=>?_,h.flags.add hm⟩⟩
   .have C:r<c.1.length:=by rw [<-f.len];exact uZ hx
    have:=f.one r _ x (b9 C) hx;have:=h.dq r _ (b9 C);simp;omega
   .rcases List.mem_append.1 d with d|d
    .exact h.ins u d
    grind
   .exact List.nodup_append.2 ⟨h.nd,by simp,λa ha b hb=>by grind⟩
   .rw [tJ] at d;split at d
    .obtain ⟨qs,F,Q⟩:=h.code j u d;exact ⟨qs,F.ext f.ext,by grind⟩
    .have A:j-V.length=0:=by grind
     rw [A] at d;simp at d;subst d;exact ⟨ps,k1,by rw [e3,show j=c.2.1.2.1.length by rw [h.rlen];omega];simp⟩
theorem Vd{s:List Fd}(d:jJ s){cap:Int}{c:Co}{V:x3}{g:Gf}(h:Np s cap c V g){v:zn}(b:In s v)(a:Int):
  (gb V v a≠0/\Ca c s v a=some (0,gb V v a))\/(gb V v a=0/\(a=0\/a=1)/\∃i:Nat,i<V.length/\V[i]? =some v/\Ca c s v a=some ((i:Int),0)):=by
 unfold Ca gb;have:=d.dq;rw [yY s v (by have:=b.len;omega),pG.2 b,ah,show ((0:Int) != 0)=false from rfl,ca];simp [aV];rcases yI a with hb|hb
 .grind
 .rcases Xm d h b with ⟨i,hi,e,hm,ef⟩|⟨hm,ef⟩
  .grind
  grind
theorem aex{s:List Fd}(j:jJ s){cap:Int}{c:Co}{V:x3}{g:Gf}(h:Np s cap c V g){v:zn}(f:In s v)(a:Int):
  ∃c',Hz c s v a=some (c',gb V v a)/\Np s cap c' V (SO V g v a):=by
 unfold Hz SO;rcases Vd j h f a with ⟨b,e⟩|⟨b,hb,i,hi,ev,e⟩
 .grind
 .have k:=h.flags.len;have:=h.rows.n;have:=h.rlen;rw [e,ah,du b,b];rw [BW (by omega),ah,fR (h.flags.at_ i v ev),ah,aN (cy (by omega)),ah,lk];refine ⟨(c.1,c.2.1,c.2.2.set i (fl (g false v|| !(a==1)) (g true v||(a==1)))),?_,⟨h.tabs,h.plen,h.dq,h.rows,h.rcap,h.rlen,h.ins,h.nd,h.code,h.flags.set h.nd ev _⟩⟩;have d:=WM (g false v) (g true v);rcases hb with rfl|rfl
  .rw [d.2.2.1];rfl
  .rw [d.2.2.2];rfl
theorem aeE{s:List Fd}(j:jJ s){cap:Int}{c:Co}{V:x3}{g:Gf}(h:Np s cap c V g){v:zn}(f:In s v)(a:Int):
  Iq c s v a=some (Ss V g v a,gb V v a):=by
 unfold Iq Ss;rcases Vd j h f a with ⟨b,e⟩|⟨b,hb,i,hi,ev,e⟩
 .grind
 .rw [e,ah,du b,b];rw [fR (h.flags.at_ i v ev),ah,aN (cy (by omega))];have d:=W6 (g false v) (g true v);rcases hb with rfl|rfl
  .rw [d.2.2.1];rfl
  .rw [d.2.2.2.1];rfl
theorem Qg{s:List Fd}(a:jJ s)(most:Int):HV s most=if most<0\/1048576<most then some (([],(0,[],[]),[]),1) else some ((List.replicate (ig s) (most,[],List.replicate 8 0),(most,[],List.replicate 8 0),[]),0):=by
 have b:=a.dq;unfold HV;rw [Rr];by_cases h:most<0\/1048576<most
 .grind
 .rw [df h,df h,ah];simp;have hb:i64.wrap (Int.tdiv (i64.wrap ((i64.wrap ((s.length)+2))-1)) 2)=((ig s:Nat)):=by rw [bR (show _/\(s.length:Int)+2<=_ by omega),show (s.length:Int)+2-1=((s.length+1:Nat)) by omega,bR (show _/\((s.length+1:Nat):Int)<=_ by omega),show Int.tdiv ((s.length+1:Nat)) 2=((ig s:Nat)) from rfl,bR (by unfold ig;omega)]
  refine vA (λi=>(List.replicate i (most,[],List.replicate 8 0),(i:Int))) (ig s) (by simp) (by unfold ig;omega) (λi hi k=>?_) (λk=>?_)
  .have:ig s<=9:=by unfold ig;omega
   unfold Fy;dsimp only;rw [hb,pg hi,cp,Rr,df h,ah];rw [aN (eI (by simp;omega) (by simp;omega)),nx (by omega),<-List.replicate_succ']
  simp_all [Fy,nJ]
theorem aeP(s:List Fd){most:Int}(d:0<=most)(c:most<=1048576):Np s most (List.replicate (ig s) (most,[],List.replicate 8 0),(most,[],List.replicate 8 0),[]) [] (λ_ _=>false):=by
 have b:∀(r:Nat) (x:Tb),(List.replicate (ig s) ((most,[],List.replicate 8 0)))[r]? =some x->x=(most,[],List.replicate 8 0):=by grind
 exact ⟨⟨λr x hx=>by grind [PJ],λr x hx=>by rw [b r x hx]⟩,by simp,λr x hx=>by grind,PJ d c,rfl,rfl,λv a=>by simp at a,qW,λi v h=>by simp at h,Flags.nil⟩
end So
variable {h : zn}
namespace Df
theorem ah(x:α)(k:α->Option ρ):(some x).bind k=k x:=rfl
theorem aV(x:α)(k:α->Option ρ):ai x k=k x:=rfl
theorem aN(k:Option ρ):aM true k=k:=rfl
theorem dw(d:α)(m:Option α)(k:α->Option ρ):bF true d m k=m.bind k:=rfl
theorem lP(d:α)(m:Option α)(k:α->Option ρ):bF false d m k=k d:=rfl
theorem ed(xs:List α)(k:Nat):idx xs (k:Int)=xs[k]? :=by simp [idx]
theorem dX{α:Type}{xs:List α}{k:Nat}(h:k<xs.length):idx xs (k:Int)=some xs[k]:=by rw [ed,b9 h]
theorem oP{xs:List α}{i:Int}(a:0<=i)(h:i<xs.length):∃x,idx xs i=some x:=by obtain ⟨k,rfl⟩:=qn a;simp_all [dX]
theorem yS{l pre r:List α}{x:α}(h:l=pre++x::r):idx l (pre.length:Int)=some x:=by subst h;simp [idx]
theorem abD{xs:List α}{i j:Int}{x:α}(a:0<=i)(hi:i<xs.length):idx (xs.set i.toNat x) j=if j=i then some x else idx xs j:=by grind [idx]
theorem pg{l pre r:List α}{x:α}(h:l=pre++x::r):decide ((pre.length:Int)<(l.length:Int))=true:=by subst h;simp;omega
theorem AO{l pre:List α}(h:l=pre++[]):decide ((pre.length:Int)<(l.length:Int))=false:=by subst h;simp
theorem wc{n:Nat}(h:n<4611686018427387904):i64.wrap ((n:Int)+1)=((n+1:Nat):Int):=by grind [bR]
theorem eI{k b:Nat}(h:k*b<=140737488355328)(a:k<=9223372036854775807):aH k b=true:=by simp_all [aH,an]
theorem xl{l m:List α}(hl:l.Nodup)(h:∀x∈l,x∈m):l.length<=m.length:=by
 classical
 induction l generalizing m with
 |nil=>simp
 |cons x l ih=>
  have hx:=h x (by simp);have hn:=List.nodup_cons.1 hl;obtain ⟨s,t,rfl⟩:=List.append_of_mem hx;have:=ih (m:=s++t) hn.2 λy a=>by grind
  simp at this ⊢; omega
theorem RD{i j:Int}(b:0<=i)(hi:i<h.length)(a:0<=j)(c:j<h.length):∃h',gO h i j=some h'/\h'.Perm h/\h'.length=h.length:=by obtain ⟨i,rfl⟩:=qn b;obtain ⟨j,rfl⟩:=qn a;simp_all [List.set_set_perm,gO,dX,oP]
theorem SZ{i j:Int}(c:0<=i)(hi:i<h.length)(a:0<=j)(d:j<h.length):∃b,gP h i j=some b:=by unfold gP;obtain ⟨x,hx⟩:=oP c hi;obtain ⟨y,e⟩:=oP a d;simp_all
theorem alU:∀(n:Nat) (l:zn) (j:Nat),j<l.length->l.length<4611686018427387904->j<n->∃l',ao mY n (l,(j:Int))=some l'/\l'.Perm l
 |0,_,_,_,_,h=>by omega
 |n+1,l,j,hj,hl,hn=>by
  rw [au];unfold mY;simp [aV];rw [bR (x:=(j)-1) (by omega)];by_cases g:j=0
  .subst g;refine ⟨l,?_,.refl _⟩;rfl
  .have hi:i64.wrap (Int.tdiv ((j)-1) 2)=(((j-1)/2:Nat)):=by rw [show (j:Int)-1=((j-1:Nat)) by omega];rw [show Int.tdiv ((j-1:Nat)) 2=(((j-1)/2:Nat)) from rfl];exact bR (by omega)
   rw [hi];have a:((((j-1)/2:Nat):Int)==(j))=false:=by simp;omega
   rw [a];obtain ⟨b,hb⟩:=SZ (h:=l) (i:=(j)) (j:=(((j-1)/2:Nat))) (by omega) (by omega) (by omega) (by omega);simp only [ko,dw,hb,ah];cases b
   .simp_all
   .obtain ⟨d,f,p1,k⟩:=RD (h:=l) (i:=(((j-1)/2:Nat))) (j:=(j)) (by omega) (by omega) (by omega) (by omega);obtain ⟨c,e,p2⟩:=alU n d ((j-1)/2) (by omega) (by omega) (by omega);refine ⟨c,?_,p2.trans p1⟩;simp only [f];exact e
theorem abI(x:Int)(hl:h.length<1099511627776):∃h',mI x h=some h'/\h'.Perm (x::h):=by unfold mI vf kr pO;rw [eI (by simp;omega) (by simp;omega)];simp [aN,ah];rw [bR (by simp;omega)];obtain ⟨l,a,p⟩:=alU ax (h++[x]) h.length (by simp) (by simp;omega) (by show _<2^64;omega);grind
theorem abz{a:Int}{m:Nat}:∀(n:Nat) (l:zn) (i:Nat),m<l.length->l.length<1099511627776->i<l.length->l.length-i<n->∃b l',ao (gX a (m:Int)) n (l,(i:Int))=some (b,l')/\l'.Perm l/\l'[m]? =l[m]?
 |0,_,_,_,_,_,h=>by omega
 |n+1,l,i,hm,hl,hi,hn=>by
  rw [au];unfold gX;simp only [aV];rw [bR (x:=2*(i)) (by omega),bR (by omega),bR (by omega)];by_cases q:m<=2*i+1
  .have:decide ((m:Int)<=2*(i)+1)=true:=by simp;omega
   rw [this];exact ⟨_,l,rfl,.refl _,rfl⟩
  .have:decide ((m:Int)<=2*(i)+1)=false:=by simp;omega
   rw [this];have K:∀j:Nat,i<j->j<m->∃b l',od a l (i) (ao (gX a (m)) n) (j)=some (b,l')/\l'.Perm l/\l'[m]? =l[m]? :=by
    intro j k g;unfold od;obtain ⟨b,hb⟩:=SZ (h:=l) (i:=(j)) (j:=(i)) (by omega) (by omega) (by omega) (by omega);rw [hb,ah];cases b
    .exact ⟨_,l,rfl,.refl _,rfl⟩
    .obtain ⟨f,c,p1,r⟩:=RD (h:=l) (i:=(i)) (j:=(j)) (by omega) (by omega) (by omega) (by omega);have g0:=c;obtain ⟨b,e,o,p2,d⟩:=abz (m:=m) n f j (by omega) (by omega) (by omega) (by omega);refine ⟨b,e,?_,p2.trans p1,?_⟩
     .simp [c];exact o
     .rw [d];obtain ⟨x,_,g0⟩:=ia g0;obtain ⟨y,_,g0⟩:=ia g0;obtain ⟨z,_,g0⟩:=ia g0;obtain ⟨u,_,g0⟩:=ia g0;cases g0;rw [qK (by omega),qK (by omega)]
   by_cases p:2*i+2<m
   .have:decide (2*(i:Int)+1+1<(m))=true:=by simp;omega
    rw [this];obtain ⟨b,hb⟩:=SZ (h:=l) (i:=2*(i)+1+1) (j:=2*(i)+1) (by omega) (by omega) (by omega) (by omega);simp only [hb,ah];cases b
    .exact K (2*i+1) (by omega) (by omega)
    .exact K (2*i+2) (by omega) (by omega)
   .have:decide (2*(i:Int)+1+1<(m))=false:=by simp;omega
    rw [this];exact K (2*i+1) (by omega) (by omega)
theorem aoq(g:h≠[])(hl:h.length<1099511627776):∃x h',nM h=some (x,h')/\(x::h').Perm h:=by
 have hp  :=List.length_pos_iff.2 g;unfold nM kr;rw [ah,bR (by omega),show ((h.length:Int)-1)=((h.length-1:Nat)) by omega];obtain ⟨d,f,p1,k⟩:=RD (h:=h) (i:=0) (j:=((h.length-1:Nat))) (by omega) (by omega) (by omega) (by omega);rw [f,ah];unfold rE;obtain ⟨b,a,c,p2,_⟩:=abz (m:=h.length-1) ax d 0 (by omega) (by omega) (by omega) (by show _<2^64;omega);have c:ao (gX 0 ((h.length-1:Nat))) ax (d,0)=some (b,a):=c;rw [c,ah];unfold xm;simp;have e:a.length=h.length:=by rw [p2.length_eq,k]
 rw [bR (by omega),show ((a.length:Int)-1)=((a.length-1:Nat)) by omega,dX (by omega)];simp;rw [vo.2 (by omega),aN];have:aT a 0 ((a.length-1:Nat))=a.take (a.length-1):=by simp [aT]
 grind [List.take_append_drop,List.drop_eq_getElem_cons,List.drop_eq_nil_of_le,List.perm_append_comm]
end Df
namespace Df
abbrev Nd:=yx×Int
def nx(N:List Nd)(i:Int):yx:=((idx N i).getD ([],0)).1
def rf(N:List Nd)(i:Int):Int:=((idx N i).getD ([],0)).2
def tg(N:List Nd)(i:Int):zn:=(nx N i).map (·.2)
theorem AA{N:List Nd}{i:Int}(a:0<=i)(h:i<N.length):idx N i=some (nx N i,rf N i):=by obtain ⟨x,hx⟩:=oP a h;simp [nx,rf,hx]
theorem LD{N:List Nd}{i j:Int}{x:Nd}(a:0<=i)(hi:i<N.length):nx (N.set i.toNat x) j=if j=i then x.1 else nx N j:=by unfold nx;grind [abD]
theorem Lw{N:List Nd}{i j:Int}{x:Nd}(a:0<=i)(hi:i<N.length):rf (N.set i.toNat x) j=if j=i then x.2 else rf N j:=by unfold rf;grind [abD]
def AT(l:yx):Prop:=l.Pairwise (λa b=>a.1<b.1)/\∀e∈l,0<=e.1/\e.1<256
def At(N:List Nd)(A:zn):Nat->Int->Prop
 |0,i=>i∈A/\nx N i=[]
 |h+1,i=>i∈A/\nx N i≠[]/\AT (nx N i)/\∀e∈nx N i,At N A h e.2
theorem At.mem{N:List Nd}{A:zn}:∀{h:Nat} {i:Int},At N A h i->i∈A
 |0,_,a=>a.1
 |_+1,_,a=>a.1
theorem At.KM{N:List Nd}{A:zn}:∀{h:Nat} {i:Int},At N A h i->AT (nx N i)
 |0,_,a=>by rw [a.2];exact ⟨List.Pairwise.nil,by simp⟩
 |_+1,_,a=>a.2.2.1
theorem At.cX{N d:List Nd}{A b:zn}(hn:∀j∈b,j∈A->nx d j=nx N j)(c:∀j∈b,j∈A->∀e∈nx N j,e.2∈A->e.2∈b):∀{h:Nat} {i:Int},At N A h i->i∈b->At d b h i
 |0,_,a,m=>⟨m,by rw [hn _ m a.1];exact a.2⟩
 |h+1,i,a,m=>by
  have e:=hn i m a.1;exact ⟨m,by rw [e];exact a.2.1,by rw [e];exact a.2.2.1,λx hx=>by rw [e] at hx;exact At.cX hn c (a.2.2.2 x hx) (c i m a.1 x hx (a.2.2.2 x hx).mem)⟩
theorem At.grow{N c:List Nd}{A d:zn}(b:∀j∈A,j∈d)(hn:∀j∈A,nx c j=nx N j){h:Nat}{i:Int}(a:At N A h i):At c d h i:=
 a.cX (λj _ e=>hn j e) (λ_ _ _ _ _ h=>b _ h) (b _ a.mem)
def acc(N:List Nd):zn->Int->Prop
 |[],_=>True
 |b::w,i=>∃e∈nx N i,e.1=b/\acc N w e.2
theorem acc.same{N c:List Nd}{A:zn}(hn:∀j∈A,nx c j=nx N j):∀{h:Nat} {i:Int},At N A h i->∀{w:zn},w.length=h->(acc c w i↔acc N w i)
 |0,_,_,[],_=>Iff.rfl
 |h+1,i,a,b::w,hw=>by unfold acc;rw [hn i a.1];exact exists_congr λe=>⟨λ⟨m,x,y⟩=>⟨m,x,(acc.same hn (a.2.2.2 e m) (by simpa using hw)).1 y⟩,λ⟨m,x,y⟩=>⟨m,x,(acc.same hn (a.2.2.2 e m) (by simpa using hw)).2 y⟩⟩
theorem YM{l:yx}(h:AT l){a b:Int×Int}(ha:a∈l)(hb:b∈l)(e:a.1=b.1):a=b:=by
 replace h:=h.1
 induction l with
 |nil=>cases ha
 |cons x l ih=>
  grind [List.pairwise_cons]
theorem ail{N:List Nd}{i b:Int}{w:zn}(d:AT (nx N i)){e:Int×Int}(c:e∈nx N i)(hb:e.1=b):acc N (b::w) i↔acc N w e.2:=
 ⟨λ⟨x,hx,a,h⟩=>by grind [YM],λh=>⟨e,c,hb,h⟩⟩
structure Inv(N:List Nd)(F Z A X T:zn)(W:Nat):Prop where
 nd:(A++F++Z).Nodup
 rng:∀i,i∈A++F++Z↔0<=i/\i<N.length
 cnt:∀i,rf N i=((A.flatMap (tg N)++X).count i:Nat)
 dead:∀i,i∉A->rf N i=0
 top:∀i∈A,rf N i=0->i∈T
 dist:∀i∈A,∀j∈A,nx N i=nx N j->i=j
 good:∀i∈A,∃h,h<=W/\At N A h i
variable {N : List Nd} {F Z A X T : zn} {W : Nat}
theorem Inv.range(I:Inv N F Z A X T W){i:Int}(h:i∈A):0<=i/\i<N.length:=(I.rng i).1 (by simp [h])
theorem Inv.closed(I:Inv N F Z A X T W){i:Int}(h:i∈A){e:Int×Int}(b:e∈nx N i):e.2∈A:=by
 obtain ⟨k,_,a⟩:=I.good i h;cases k with
 |zero=>rw [a.2] at b;cases b
 |succ k=>exact (a.2.2.2 e b).mem
theorem Inv.ext(I:Inv N F Z A X T W){i:Int}(h:i∈X):i∈A:=by
 by_cases ha:i∈A
 .exact ha
 .have b:=I.dead i ha;have a:=I.cnt i;grind
theorem Inv.pos(I:Inv N F Z A X T W)(i:Int):0<=rf N i:=by rw [I.cnt];omega
theorem Inv.led(I:Inv N F Z A X T W){j i:Int}(a:j∈A)(h:i∈tg N j):0<rf N i:=by rw [I.cnt];grind [List.count_pos_iff]
end Df
namespace Df
theorem aon(x y:Int):mw x y=some (if x<y then -1 else if y<x then 1 else 0):=by unfold mw tO;grind
theorem alI(e:Int×Int)(y:Int):Ay e y=some (if e.1<y then -1 else if y<e.1 then 1 else 0):=by grind [Ay,aon]
theorem apB{i j:Nat}(h:i+j<4611686018427387904):i64.wrap (iq .u64 (u64.wrap (i64.wrap ((i:Int)+j))) 1)=(((i+j)/2:Nat):Int):=by
 have:u64.wrap ((i)+j)=(i)+j:=by show ((i:Int)+j)%(2^64)=_;omega
 have:iq .u64 ((i)+j) 1=((i)+j)/2:=rfl;grind [bR]
theorem SN{x:yx}{t:Int}(c:x.Pairwise (λa b=>a.1<b.1))(hx:x.length<1099511627776):∀(n i j:Nat),i<=j->j<=x.length->
  (∀k (hk:k<x.length),k<i->x[k].1<t)->(∀k (hk:k<x.length),j<=k->t<=x[k].1)->j-i<n->
  ∃(m:Nat) (b:Bool),ao (cm x t) n ((i:Int),(j:Int))=some ((m:Int),b)/\m<=x.length/\(∀k (hk:k<x.length),k<m->x[k].1<t)/\(∀k (hk:k<x.length),m<=k->t<=x[k].1)/\(b=true↔ ∃h:m<x.length,x[m].1=t)
 |0,_,_,_,_,_,_,h=>by omega
 |n+1,i,j,hij,hj,h1,h2,hn=>by
  rw [au];unfold cm;have hp:=List.pairwise_iff_getElem.1 c;simp only [apB (show i+j<_ by omega),aV];by_cases h:i<j
  .rw [show decide ((i:Int)<(j))=true by simpa using h,cp,dX (by omega),ah,alI,ah];by_cases e:(x[(i+j)/2]'(by omega)).1<t
   .simp only [e,show decide ((-1)<0)=true from rfl];rw [wc (by omega)];exact SN c hx n ((i+j)/2+1) j (by omega) hj (λk hk d=>by
     grind) h2 (by omega)
   .have:decide ((if (x[(i+j)/2]'(by omega)).1<t then (-1) else if t<(x[(i+j)/2]'(by omega)).1 then 1 else 0)<0)=false:=by grind
    rw [this,ca];exact SN c hx n i ((i+j)/2) (by omega) (by omega) h1 (λk hk d=>by
     grind) (by omega)
  .have:i=j:=by omega
   subst this;by_cases hl:i<x.length
   .rw [show decide ((i:Int)<(List.length x))=true by simpa using hl,dw,dX hl,ah,dw,alI,ah];grind
   .rw [show decide ((i:Int)<(List.length x))=false by simpa using hl,lP,lP];grind
theorem alq{x:yx}(t:Int)(c:AT x)(hx:x.length<1099511627776):
  ∃(p q:yx),x=p++q/\(∀e∈p,e.1<t)/\(∀e∈q,t<=e.1)/\
   bC x t=some ((p.length:Int),(q.head?.map (·.1))==some t):=by
 obtain ⟨m,b,h,hm,f,d,hb⟩:=SN (t:=t) c.1 hx ax 0 x.length (by omega) (by omega) (λk _ h=>by omega) (λk h g=>by omega) (by show _<2^64;omega);refine ⟨x.take m,x.drop m,(qv m x).symm,?_,?_,?_⟩
 .intro e a;obtain ⟨k,hk,rfl⟩:=qu a;grind
 .intro e a;obtain ⟨k,hk,rfl⟩:=qu a;grind
 .unfold bC;have h:ao (cm x t) ax (0,(x.length))=some ((m:Int),b):=h;rw [h,dk,j0 hm];congr 2;rw [qB,hb,n4,List.head?_drop];grind
theorem apj:cn=bC:=rfl
theorem an3:KD=Ai:=rfl
theorem alM{d:Int×List Nd×Int×Int×zn}{i:Int}(b:Int)(g:0<=i)(hi:i<d.2.1.length)(c:AT (nx d.2.1 i))(hl:(nx d.2.1 i).length<1099511627776):
  (∃e∈nx d.2.1 i,e.1=b/\Ai d i b=some e.2)\/((∀e∈nx d.2.1 i,e.1≠b)/\Ai d i b=some (-1)):=by
 obtain ⟨p,q,hx,hp,j,h⟩:=alq b c hl;unfold Ai;rw [show (i== -1)=false by simp;omega,ca,AA g hi];simp only [ah];rw [h,ah];cases q with
 |nil=>
  grind
 |cons e q=>
  by_cases hb:e.1=b
  .refine .inl ⟨e,by rw [hx];simp,hb,?_⟩;simp [List.head?_cons,og,hb,qe,qc];rw [yS hx];rfl
  .refine .inr ⟨λx a=>?_,?_⟩
   .rw [hx] at a c;rcases List.mem_append.1 a with a|a
    .have:=hp x a;omega
    .rcases List.mem_cons.1 a with rfl|f
     .exact hb
     .have k:=(List.pairwise_cons.1 (List.pairwise_append.1 c.1).2.1).1 x f;grind
   grind
theorem abK{a b:yx}(hl:a.length=b.length)(hb:a.length<1099511627776):∀(n k:Nat),k<=a.length->a.length-k<n->
  ao (gW a b) n (k:Int)=some (decide (a.drop k=b.drop k))
 |0,_,_,h=>by omega
 |n+1,k,hk,hn=>by
  rw [au];unfold gW;by_cases h:k<a.length
  .rw [show decide ((k:Int)<(List.length a))=true by simpa using h,cp,dX h,dX (hl▸h)];simp only [ah];rw [wc (by omega),pA h,pA (show k<b.length from hl▸h)];unfold agh;by_cases e:a[k]=b[k]'(hl▸h)
   .rw [<-e];simp only [qe,qa,true_and];exact abK hl hb n (k+1) (by omega) (by omega)
   .have:(a[k].1==(b[k]'(hl▸h)).1&&a[k].2==(b[k]'(hl▸h)).2)=false:=by grind
    rw [this];simp only [ko,cp,et];grind
  grind
theorem aqg{a b:yx}(hb:a.length<1099511627776):fA a b=some (decide (a=b)):=by
 unfold fA;by_cases hl:a.length=b.length
 .rw [show ((a.length:Int) != (List.length b))=false by simp [hl],ca];exact abK hl hb ax 0 (by omega) (by show _<2^64;omega)
 .have:a≠b:=λe=>hl (by rw [e]);grind
theorem UW{N:List Nd}{A:zn}{y:List (Int×Bool)}{next:yx}(b:∀i:Int,0<=i->i<N.length->((0<rf N i\/dV (some y) i false=true)↔i∈A))(hb:∀i∈A,(nx N i).length<1099511627776)(hN:N.length<1099511627776):∀(n k:Nat),k<=N.length->N.length-k<n->
  (∃i:Int,ao (ij next N (some y)) n (k:Int)=some (i,true)/\i∈A/\0<=i/\i<N.length/\nx N i=next)\/
  (ao (ij next N (some y)) n (k:Int)=some (-1,false)/\∀i∈A,(k:Int)<=i->i<N.length->nx N i≠next)
 |0,_,_,h=>by omega
 |n+1,k,hk,hn=>by
  rw [au];unfold ij;by_cases h:k<N.length
  .rw [show decide ((k:Int)<(List.length N))=true by simpa using h,cp,AA (by omega) (by omega)];simp [ah,aV];rw [wc (by omega)];have ih:=UW (next:=next) b hb hN n (k+1) (by omega) (by omega);have a:=b (k) (by omega) (by omega);have go:(∀x:Int,x∈A->x=(k)->nx N x≠next)->(∃i:Int,ao (ij next N (some y)) n ((k+1:Nat))=some (i,true)/\i∈A/\0<=i/\i<N.length/\nx N i=next)\/
     (ao (ij next N (some y)) n ((k+1:Nat))=some (-1,false)/\∀i∈A,(k)<=i->i<N.length->nx N i≠next):=by
    grind
   by_cases ha:(k:Int)∈A
   .have:(decide (0<rf N (k))||dV (some y) (k) false)=true:=by simpa using a.2 ha
    rw [this,dw,aqg (hb _ ha),ah];by_cases c:nx N (k)=next
    .grind
    .simp [c,w5];exact go λx _ e=>by rw [e];exact c
   .have:(decide (0<rf N (k))||dV (some y) (k) false)=false:=by grind
    rw [this,lP];exact go λx hx e=>absurd (e▸hx) ha
  grind
end Df
namespace Df
theorem yK{l:yx}(h:AT l):l.length<=256:=by
 have b:(l.map (·.1)).Nodup:=by refine List.pairwise_map.2 (h.1.imp ?_);omega
 have:=xl b (m:=(List.range 256).map Int.ofNat) λx hx=>by obtain ⟨e,a,rfl⟩:=List.mem_map.1 hx;have:=h.2 e a;exact List.mem_map.2 ⟨e.1.toNat,by simp;omega,by simp;omega⟩
 simpa using this
theorem Ey{l:List (Int×Bool)}{r i:Int}:n5 (lB l r true) i=if i=r then some true else n5 l i:=by
 induction l with
 |nil=>
  grind [lB,n5]
 |cons p l ih=>
  unfold lB;by_cases h:r=p.1
  .grind [n5]
  .simp [show (r==p.1)=false by simpa using h];by_cases a:i=p.1
   .simp_all [n5,Ne.symm]
   .simp [n5,show (i==p.1)=false by simpa using a,ca,ih]
theorem PU{l:List (Int×Bool)}{r i:Int}:dV (some (lB l r true)) i false=true↔i=r\/dV (some l) i false=true:=by grind [dV,Ey]
theorem akB{N:List Nd}{F A X T:zn}{W:Nat}(I:Inv N F [] A X T W)(hN:N.length<1099511627775)(e f g:Int)(y:Option (List (Int×Bool))):
  ∃i N1 b,tF e N f g F y=some (i,N1,b)/\(i::(A++b)).Nodup/\(∀j,j∈i::(A++b)↔0<=j/\j<N1.length)/\(∀j,j≠i->nx N1 j=nx N j/\rf N1 j=rf N j)/\rf N i=0/\N1.length<=N.length+1:=by
 unfold tF;have a:=I.nd;have c:=I.rng;simp only [ma] at a c;by_cases d:F=[]
 .subst d;rw [show ((List.length ([]):Int)==0)=true from rfl,cp,eI (by simp;omega) (by simp;omega),aN];have hn:((N.length):Int)∉A:=λh=>by grind
  refine ⟨(N.length),N++[([],0)],[],?_,?_,?_,?_,I.dead _ hn,by simp⟩
  .grind [bR]
  .grind
  .grind
  .intro j k;have:idx (N++[([],0)]) j=idx N j:=by grind [idx,List.getElem?_append_left,List.getElem?_eq_none]
   unfold nx rf;grind
 .rw [show ((F.length:Int)==0)=false by simpa using d,ca];have l  :=by
   have:=xl (List.nodup_append.1 a).2.1 (m:=(List.range N.length).map Int.ofNat) λx hx=>by have:=(c x).1 (by simp [hx]);exact List.mem_map.2 ⟨x.toNat,by simp;omega,by simp;omega⟩
   simpa using this
  obtain ⟨x,b,h,p⟩:=aoq d (by omega);rw [h,ah];have p2  :=(List.perm_middle.symm).trans (List.Perm.append_left A p);refine ⟨x,N,b,rfl,p2.nodup_iff.2 a,λj=>(p2.mem_iff).trans (c j),λ_ _=>⟨rfl,rfl⟩,I.dead x ?_,by omega⟩;grind
theorem aoI{next:yx}{r:Int×List Nd×zn}{m:List (Int×Bool)}(hx:next.length<1099511627776):∀(q p:yx),next=p++q->∀(l:List Nd),(∀e∈q,0<=e.2/\e.2<l.length)->(∀j,0<=rf l j/\rf l j+q.length<1099511627776)->
  ∀n,q.length<n->∃l',ao (l8 next r m) n (l,(p.length:Int))=some (r.1,l',r.2.2,some (lB m r.1 true))/\l'.length=l.length/\(∀j,nx l' j=nx l j)/\∀j,rf l' j=rf l j+((q.map (·.2)).count j:Nat)
 |[],p,h,l,_,_,n,hn=>by
  obtain ⟨n,rfl⟩:∃k,n=k+1:=⟨n-1,by omega⟩;rw [au];unfold l8;grind
 |e::q,p,h,l,hq,hb,n,hn=>by
  obtain ⟨n,rfl⟩:∃k,n=k+1:=⟨n-1,by omega⟩;rw [au];unfold l8;have b:=hq e (by simp);have d:=hb e.2;dsimp only;rw [pg h,cp,yS h];simp;rw [AA b.1 b.2];simp;have hp:p.length<1099511627776:=by grind
  rw [wc (by omega),bR (by omega)];have a:∀j,nx (l.set e.2.toNat (nx l e.2,rf l e.2+1)) j=nx l j:=λj=>by grind [LD]
  have c:∀j,rf (l.set e.2.toNat (nx l e.2,rf l e.2+1)) j=if j=e.2 then rf l j+1 else rf l j:=λj=>by grind [Lw]
  obtain ⟨l',g,o,f,i⟩:=aoI hx q (p++[e]) (by rw [h];simp) (l.set e.2.toNat (nx l e.2,rf l e.2+1)) (λx hx=>by
   grind) (λj=>by
   grind) n (by simp at hn;omega)
  refine ⟨l',?_,by grind,λj=>(f j).trans (a j),λj=>?_⟩
  .rw [show ((p.length+1:Nat))=((p++[e]).length) by simp];exact g
  grind
theorem abH{N:List Nd}{F A X T:zn}{W h:Nat}{y:List (Int×Bool)}{next:yx}(I:Inv N F [] A X T W)(hN:N.length<1099511627775)(hb:∀j,rf N j<549755813888)
  (q:∀i,dV (some y) i false=true->i∈A) (w:∀i∈A,rf N i=0->dV (some y) i false=true)
  (R:AT next) (hW:h<=W) (hk:(h=0/\next=[])\/∃k,h=k+1/\next≠[]/\∀e∈next,At N A k e.2) (U:∀t∈T,t∈next.map (·.2)) (G H K:Int):
  ∃r d F' y' o,p7 next G N H K F (some y)=some (r,d,F',some y')/\Inv d F' [] o X [r] W/\nx d r=next/\(∀j∈A,j∈o/\nx d j=nx N j)/\At d o h r/\
   (∀i,dV (some y') i false=true->i∈o)/\(∀i∈o,rf d i=0->dV (some y') i false=true)/\d.length<=N.length+1/\∀j,rf d j<=256+rf N j:=by
 have S:=yK R;have B:∀e∈next,e.2∈A:=by
  rcases hk with ⟨_,rfl⟩|⟨k,_,_,h⟩
  .intro e l;cases l
  .exact λe l=>(h e l).mem
 have hat:∀{d o},(∀j∈A,j∈o)->(∀j∈A,nx d j=nx N j)->∀r∈o,nx d r=next->At d o h r:=by
  intro d o C s r z hn;rcases hk with ⟨rfl,h⟩|⟨k,rfl,L,h⟩
  .exact ⟨z,by rw [hn,h]⟩
  .exact ⟨z,by rw [hn];exact L,by rw [hn];exact R,λe l=>by rw [hn] at l;exact (h e l).grow C s⟩
 unfold p7;have hv:∀i:Int,0<=i->i<N.length->((0<rf N i\/dV (some y) i false=true)↔i∈A):=λi _ _=>by
  constructor
  .rintro (h|h)
   .by_cases ha:i∈A
    .exact ha
    .have:=I.dead i ha;omega
   .exact q i h
  .intro ha;have:=I.pos i;by_cases D:rf N i=0
   .exact .inr (w i ha D)
   .exact .inl (by omega)
 have hs:=UW (next:=next) hv (λi hi=>by obtain ⟨k,_,a⟩:=I.good i hi;have:=yK a.KM;omega) (by omega) ax 0 (by omega) (by show _<2^64;omega)
 have l:AR next G N H K F (some y)=ao (ij next N (some y)) ax ((0:Nat):Int):=rfl;rw [l];rcases hs with ⟨i,C,s,h3,n,g⟩|⟨C,s⟩
 .rw [C];refine ⟨i,N,F,y,A,rfl,⟨I.nd,I.rng,I.cnt,I.dead,λj c D=>?_,I.dist,I.good⟩,g,λj c=>⟨c,rfl⟩,hat (λ_ h=>h) (λ_ _=>rfl) i s g,q,w,by omega,λj=>by omega⟩;have:=U j (I.top j c D);have:=I.led s (i:=j) (by unfold tg;rw [g];exact this);omega
 .rw [C];simp only [ah,ca];obtain ⟨i,v,E,g1,Y,O,V,g5,g6⟩:=akB I hN G H K (some y);rw [g1];simp only [ah];have hi:=(O i).1 (by simp);obtain ⟨x,hx⟩:=oP hi.1 hi.2;rw [hx];simp only [ah];have NC:i∉A:=λh=>(List.nodup_cons.1 Y).1 (by simp [h]);have Q:∀j,nx (v.set i.toNat (next,0)) j=if j=i then next else nx N j:=λj=>by
   rw [LD hi.1 hi.2];split
   .rfl
   next h=>exact (V j h).1
  have r1:∀j,rf (v.set i.toNat (next,0)) j=rf N j:=λj=>by
   rw [Lw hi.1 hi.2];split
   next h=>rw [h,g5]
   next h=>exact (V j h).2
  obtain ⟨d,P,e2,e3,e4⟩:=aoI (next:=next) (r:=(i,v,E)) (m:=y) (by omega) next [] rfl (v.set i.toNat (next,0)) (λe l=>by
   rw [qJ];exact (O _).1 (by simp [B e l])) (λj=>by
   rw [r1];have:=I.pos j;have:=hb j;omega) ax (by show _<2^64;omega)
  have P:ao (l8 next (i,v,E) y) ax (v.set i.toNat (next,0),0)=some (i,d,E,some (lB y i true)):=P;rw [P];have p:∀j∈A,nx d j=nx N j:=λj c=>by rw [e3,Q,df (λh=>NC (by rw [<-h];exact c))]
  have u:nx d i=next:=by rw [e3,Q,du rfl]
  have J:∀j,rf d j=rf N j+((next.map (·.2)).count j:Nat):=λj=>by rw [e4,r1]
  have Z:∀j∈A,tg d j=tg N j:=λj c=>by unfold tg;rw [p j c]
  have tA:A.flatMap (tg d)=A.flatMap (tg N):=by rw [List.flatMap_def,List.flatMap_def,qO Z]
  have cI:∀j,rf d j=(((i::A).flatMap (tg d)++X).count j:Nat):=λj=>by rw [J,I.cnt,qS,tA,cb,qf (l₁:=tg d i)];unfold tg;rw [u];omega
  refine ⟨i,d,E,lB y i true,i::A,rfl,⟨?_,?_,cI,?_,?_,?_,?_⟩,u,λj c=>⟨by simp [c],p j c⟩,hat (λj c=>by simp [c]) p i (by simp) u,?_,?_,?_,?_⟩
  .simp only [ma];exact Y
  .intro j;simp only [ma];rw [e2,qJ];exact O j
  .intro j c;simp at c;rw [J,I.dead j c.2,List.count_eq_zero.2]
   .rfl
   .intro h;obtain ⟨e,l,rfl⟩:=List.mem_map.1 h;exact c.2 (B e l)
  .intro j c D;rcases List.mem_cons.1 c with rfl|c
   .simp
   .have:=J j;have:=I.pos j;have h:=U j (I.top j c (by omega));have:=List.count_pos_iff.2 h;omega
  .intro a ha b M f;rcases List.mem_cons.1 ha with n|n <;> rcases List.mem_cons.1 M with g|g
   .rw [n,g]
   .rw [n,u,p b g] at f;exact absurd f.symm (s b g (by have:=I.range g;omega) (I.range g).2)
   .rw [g,u,p a n] at f;exact absurd f (s a n (by have:=I.range n;omega) (I.range n).2)
   .rw [p a n,p b g] at f;exact I.dist a n b g f
  .intro j c;rcases List.mem_cons.1 c with rfl|c
   .exact ⟨h,hW,hat (λj c=>by simp [c]) p _ (by simp) u⟩
   .obtain ⟨k,hk,a⟩:=I.good j c;exact ⟨k,hk,a.grow (λj c=>by simp [c]) p⟩
  .intro j c;rcases PU.1 c with rfl|c
   .simp
   .simp [q j c]
  .intro j c D;rw [PU];rcases List.mem_cons.1 c with rfl|c
   .exact .inl rfl
   .have:=I.pos j;grind
  .grind
  grind [List.count_le_length]
end Df
namespace Df
theorem amq{x:yx}(hx:AT x){b r:Int}(hb:0<=b/\b<256)(K:yx->Option ρ):
  ∃y,AT y/\y≠[]/\(∀e,e∈y↔e=(b,r)\/(e∈x/\e.1≠b))/\
   ((cn x b).bind λd=>
    bif d.2 then ((idx x d.1).bind λ_=>K (List.set x (Int.toNat d.1) (b,r)))
    else (aM (A4 d.1 (List.length x))<|aM (aH (List.length x+List.length ([(b,r)]:yx)) 16)<|K (lT x d.1 ([(b,r)]:yx))))=K y:=by
 have hl:=yK hx;obtain ⟨p,q,e,hp,o,h⟩:=alq b hx (by omega);rw [apj,h];simp;have f:=hx;rw [e] at f;have g:=List.pairwise_append.1 f.1;have mk:∀q':yx,q'.Pairwise (λa b=>a.1<b.1)->(∀e∈q',b<e.1)->(∀e∈q',e∈q)->AT (p++(b,r)::q'):=by
  intro q' n m k;refine ⟨List.pairwise_append.2 ⟨g.1,List.pairwise_cons.2 ⟨m,n⟩,?_⟩,?_⟩
  .intro u c v i;rcases List.mem_cons.1 i with rfl|i
   .exact hp u c
   .exact g.2.2 u c v (k v i)
  .intro u c;rcases List.mem_append.1 c with c|c
   .exact f.2 u (by simp [c])
   .rcases List.mem_cons.1 c with rfl|c
    .exact hb
    .exact f.2 u (by simp [k u c])
 have out:∀q':yx,(∀e∈q',b<e.1)->aM (A4 (p.length) (List.length x)) (aM (aH (List.length x+List.length ([(b,r)])) 16) (K (lT x (p.length) [(b,r)])))=K (p++(b,r)::q):=by rw [ZU.2 (by rw [e];simp;omega),eI (by simp;omega) (by simp;omega),aN,aN];simp_all [lT]
 cases q with
 |nil=>
  refine ⟨p++[(b,r)],mk [] .nil (by simp) (by simp),by simp,λu=>?_,?_⟩
  .grind
  .exact out [] (by simp)
 |cons z q=>
  have l:=List.pairwise_cons.1 g.2.1;by_cases j:z.1=b
  .refine ⟨p++(b,r)::q,mk q l.2 (λu c=>by grind) (by simp+contextual),by simp,λu=>?_,?_⟩
   .grind
   .rw [yS e];simp_all
  .refine ⟨p++(b,r)::z::q,mk (z::q) g.2.1 (λu c=>by
    grind) (λ_ h=>h),by simp,λu=>?_,?_⟩
   .grind
   .have:((List.head? (z::q)).map (·.1)==some b)=false:=by simp [j]
    rw [this,ca];exact out [] (by simp)
abbrev SP:=Int×zn×Int×List Nd×Int×Int×zn×Option (List (Int×Bool))
abbrev RP:=Int×List Nd×zn×Option (List (Int×Bool))
def PUT(k:SP->Option RP)(s:SP):Option RP:=lM k s.1 s.2.1 s.2.2.1 s.2.2.2.1 s.2.2.2.2.1 s.2.2.2.2.2.1 s.2.2.2.2.2.2.1 s.2.2.2.2.2.2.2
theorem put_eq(at_:Int)(w:zn)(a:Int)(N:List Nd)(b c:Int)(F:zn)(y:Option (List (Int×Bool))):xB at_ w a N b c F y=ao PUT ax (at_,w,a,N,b,c,F,y):=rfl
theorem am2(x:yx)(k:Int)(e:Int×Int)(K:yx->Option ρ):(SQ 16 x k [e]).bind K=aM (A4 k x.length) (aM (aH (x.length+[e].length) 16) (K (lT x k [e]))):=by show (aM (A4 k x.length&&aH (x.length+[e].length) 16) (some (lT x k [e]))).bind K=_;cases A4 k x.length <;> cases aH (x.length+[e].length) 16 <;> rfl
theorem aoR{l:yx}(h:l.length<1000000000):fB l=some l:=by grind [fB,So.aN,So.eI]
def aiw(N:List Nd)(_F A X:zn)(W:Nat)(w:zn)(at_:Int)(res:Option RP):Prop:=
 ∃r N' F' y' A',res=some (r,N',F',some y')/\Inv N' F' [] A' X [r] W/\(∀j∈A,j∈A'/\nx N' j=nx N j)/\At N' A' w.length r/\
  (∀i,dV (some y') i false=true->i∈A')/\(∀i∈A',rf N' i=0->dV (some y') i false=true)/\N'.length<=N.length+(w.length+1)/\(∀j,rf N' j<=256*((w.length:Int)+1)+rf N j)/\
  ∀v,v.length=w.length->(acc N' v r↔v=w\/(at_≠ -1/\acc N v at_))
theorem agP{W:Nat}(s u B:Int){X:zn}:∀(w:zn) (at_:Int) (N:List Nd) (F A:zn) (y:List (Int×Bool)),(∀b∈w,0<=b/\b<256)->w.length<=W->(at_= -1\/At N A w.length at_)->Inv N F [] A X [] W->
  (∀i,dV (some y) i false=true->i∈A)->(∀i∈A,rf N i=0->dV (some y) i false=true)->N.length+(w.length+1)<1099511627775->(∀j,rf N j+256*((w.length:Int)+1)<549755813888)->∀n,w.length<n->
  aiw N F A X W w at_ (ao PUT n (at_,w,s,N,u,B,F,some y))
 |[],at_,N,F,A,y,_,hW,hat,I,hy1,hy2,hN,hrf,n,hn=>by
  obtain ⟨n,rfl⟩:∃k,n=k+1:=⟨n-1,by simp at hn;omega⟩;rw [au];unfold PUT lM;simp only [qg];rw [show (((0:Nat):Int)==0)=true from rfl,cp];obtain ⟨r,U,F',V,A',h1,h2,K,h4,h5,h6,h7,h8,Q⟩:=abH (h:=0) (next:=[]) I (by simp at hN;omega) (λj=>by have:=hrf j;simp at this;omega) hy1 hy2 ⟨.nil,by simp⟩ (by omega) (.inl ⟨rfl,rfl⟩) (by simp) s u B;rw [h1];refine ⟨r,U,F',V,A',rfl,h2,h4,h5,h6,h7,by simp;omega,λj=>by have:=Q j;simp;omega,λv C=>?_⟩;have:v=[]:=List.length_eq_zero_iff.1 C;subst this;simp [acc]
 |b::w,at_,N,F,A,y,hw,hW,hat,I,hy1,hy2,hN,hrf,n,hn=>by
  obtain ⟨n,rfl⟩:∃k,n=k+1:=⟨n-1,by simp at hn;omega⟩;rw [au];simp only [ei] at hN hW hrf hn hat
  have hb:=hw b (by simp)
  -- the rest of the word, and the node
  have rest:∀(g:Int) (x:yx),AT x->(∀e∈x,At N A w.length e.2)->(g= -1\/At N A w.length g)->(g≠ -1->(b,g)∈x)->(∀e∈x,e.1=b->g≠ -1)->
    (at_≠ -1->nx N at_=x)->(at_= -1->x=[])->Ai (s,N,u,B,F) at_ b=some g->
    aiw N F A X W (b::w) at_ (xx (ao PUT n) at_ (b::w) s N u B F (some y) x):=by
   intro g x hx hk ha2 G O E M hto;unfold xx;rw [show idx (b::w) 0=some b from rfl];simp only [ah];rw [vo.2 (by simp;omega),aN,an3,hto];simp only [ah];rw [show aT (b::w) 1 ((List.length (b::w):Nat):Int)=w by simp [aT]];obtain ⟨r,T,F1,y1,A1,h1,h2,K,h4,h5,h6,h7,h8,Q⟩:=agP s u B w g N F A y (λc hc=>hw c (by simp [hc])) (by omega) ha2 I hy1 hy2 (by omega) (λj=>by have:=hrf j;omega) n (by omega);rw [h1];simp only [ah,aV,am2];obtain ⟨z,hz,Z,l,Y⟩:=amq hx hb (r:=r) (xu s u B (r,T,F1,some y1));rw [Y];unfold xu;have kz:∀e∈z,At T A1 w.length e.2:=by
    intro e f;rcases (l e).1 f with rfl|⟨f,_⟩
    .exact h4
    .exact (hk e f).grow (λj p=>(K j p).1) (λj p=>(K j p).2)
   obtain ⟨r',U,F',V,A',g1,g2,S,g4,g5,g6,g7,g8,g9⟩:=abH (h:=w.length+1) (next:=z) h2 (by omega) (λj=>by have:=hrf j;have:=h8 j;omega) h5 h6 hz hW (.inr ⟨w.length,rfl,Z,kz⟩) (λt ht=>by simp only [mj] at ht;subst ht;exact List.mem_map.2 ⟨(b,t),(l _).2 (.inl rfl),rfl⟩) s u B
   simp only [];rw [g1];refine ⟨r',U,F',V,A',rfl,g2,λj p=>⟨(g4 j (K j p).1).1,by rw [(g4 j (K j p).1).2,(K j p).2]⟩,g5,g6,g7,by simp;omega,λj=>by have:=h8 j;have:=g9 j;simp;omega,?_⟩;intro v C;cases v with
   |nil=>simp at C
   |cons c v=>
    have C:v.length=w.length:=by simpa using C
    have R:∀e∈z,(acc U v e.2↔acc T v e.2):=λe f=>acc.same (λj p=>(g4 j p).2) (kz e f) C;have s2:∀e∈x,(acc T v e.2↔acc N v e.2):=λe f=>acc.same (λj p=>(K j p).2) (hk e f) C;constructor
    .rintro ⟨e,f,o,ha⟩;rw [S] at f;rw [R e f] at ha;rcases (l e).1 f with rfl|⟨D,P⟩
     .rcases (Q v C).1 ha with rfl|⟨q,ha⟩
      .left;rw [<-o]
      .right;have m:at_≠ -1:=λh=>by have:=G q;rw [M h] at this;cases this
       exact ⟨m,(b,g),by rw [E m];exact G q,o,ha⟩
     .right;have m:at_≠ -1:=λh=>by rw [M h] at D;cases D
      exact ⟨m,e,by rw [E m];exact D,o,(s2 e D).1 ha⟩
    .rintro (h|⟨m,e,f,o,ha⟩)
     .cases h;refine ⟨(b,r),by rw [S];exact (l _).2 (.inl rfl),rfl,?_⟩;rw [R _ ((l _).2 (.inl rfl))];exact (Q w rfl).2 (.inl rfl)
     .rw [E m] at f;by_cases J:e.1=b
      .have q:=O e f J;have  :=YM hx f (G q) J;subst this;refine ⟨(b,r),by rw [S];exact (l _).2 (.inl rfl),o,?_⟩;rw [R _ ((l _).2 (.inl rfl))];exact (Q v C).2 (.inr ⟨q,ha⟩)
      .have L:=(l e).2 (.inr ⟨f,J⟩);exact ⟨e,by rw [S];exact L,o,(R e L).2 ((s2 e f).2 ha)⟩
  show aiw N F A X W (b::w) at_ (lM (ao PUT n) at_ (b::w) s N u B F (some y));unfold lM;simp only [aV];rw [show ((List.length (b::w):Int)==0)=false by simp;omega,ca];by_cases q:at_= -1
  .subst q;rw [show ((-1) != -1)=false from rfl,ca];exact rest (-1) [] ⟨.nil,by simp⟩ (by simp) (.inl rfl) (by simp) (by simp) (by simp) (by simp) rfl
  .have a:=hat.resolve_left q;have hm:=I.range a.mem;rw [show (at_ != -1)=true by grind,cp,AA hm.1 hm.2];simp;have hl:=yK a.KM;rw [aoR (by omega)];rcases alM (d:=(s,N,u,B,F)) b hm.1 hm.2 a.KM (by simp;omega) with ⟨e,f,H,h⟩|⟨P,h⟩
   .have ae:=a.2.2.2 e f;have hpos:=(I.range ae.mem).1;exact rest e.2 (nx N at_) a.KM a.2.2.2 (.inr ae) (λ_=>by rw [<-H];exact f) (λ_ _ _=>by omega) (λ_=>rfl) (λh=>absurd h q) h
   .exact rest (-1) (nx N at_) a.KM a.2.2.2 (.inl rfl) (by simp) (λe f H=>absurd H (P e f)) (λ_=>rfl) (λh=>absurd h q) h
end Df
namespace Df
abbrev SL:=Int×Int×List Nd×Int×Int×zn×Option (List (Int×Bool))
abbrev RL:=List Nd×zn
def My(k:SL->Option RL)(s:SL):Option RL:=pM k s.1 s.2.1 s.2.2.1 s.2.2.2.1 s.2.2.2.2.1 s.2.2.2.2.2.1 s.2.2.2.2.2.2
theorem ai4(i a:Int)(N:List Nd)(b c:Int)(F:zn)(y:Option (List (Int×Bool))):tC i a N b c F y=ao My ax (i,a,N,b,c,F,y):=rfl
def Leaves(N:List Nd)(Z A X:zn)(W:Nat)(res:Option RL):Prop:=
 ∃N' F' A',res=some (N',F')/\Inv N' F' Z A' X [] W/\N'.length=N.length/\(∀j∈A',j∈A/\nx N' j=nx N j)/\∀j,rf N' j<=rf N j
theorem Inv.XR{N:List Nd}{F Z A X T:zn}{W:Nat}(I:Inv N F Z A X T W):F.length<=N.length:=by
 have:=xl (List.nodup_append.1 (List.nodup_append.1 I.nd).1).2.1 (m:=(List.range N.length).map Int.ofNat) λx hx=>by have:=(I.rng x).1 (by simp [hx]);exact List.mem_map.2 ⟨x.toNat,by simp;omega,by simp;omega⟩
 simpa using this
theorem Inv.perm{N:List Nd}{F Z A X a T:zn}{W:Nat}(I:Inv N F Z A X T W)(p:a.Perm X):Inv N F Z A a T W:=
 ⟨I.nd,I.rng,λi=>by rw [I.cnt i,qf,qf,p.count_eq],I.dead,I.top,I.dist,I.good⟩
theorem QA{W k n:Nat}{t v w i:Int}{y:Option (List (Int×Bool))}{Z X:zn}{x:Nd}
  (ih:x.1≠[]->∀(i:Int) (N:List Nd) (F Z A X:zn),At N A k i->Inv N F Z A (i::X) [] W->N.length<1099511627775->(∀j,rf N j<549755813888)->Leaves N Z A X W (ao My n (i,t,N,v,w,F,y))) (hx:x.1.length<1099511627776):
  ∀(q p:yx),x.1=p++q->∀(l:List Nd) (F A:zn),(∀e∈q,e.2∈A->At l A k e.2)->Inv l F (i::Z) A (q.map (·.2)++X) [] W->l.length<1099511627775->(∀j,rf l j<549755813888)->∀m,q.length<m->
   Leaves l Z A X W (ao (oB (ao My n) i t v w y x) m (l,F,(p.length:Int)))
 |[],p,h,l,F,A,_,I,hl,hr,m,hm=>by
  obtain ⟨m,rfl⟩:∃k,m=k+1:=⟨m-1,by omega⟩;rw [au];unfold oB;dsimp only;rw [AO h,ca];have hi  :=(I.rng i).1 (by simp);have NC:i∉A:=λh=>by have:=(List.nodup_append.1 I.nd).2.2 i (by simp [h]) i (by simp);exact this rfl
  rw [AA hi.1 hi.2,ah];obtain ⟨o,J,T⟩:=abI i (h:=F) (by have:=I.XR;omega);rw [J,ah];have E:∀j,j≠i->nx (l.set i.toNat ([],0)) j=nx l j:=λj h=>by rw [LD hi.1 hi.2,df h]
  have d  :=λj h=>E j λe=>NC (e▸h);have g:∀j,rf (l.set i.toNat ([],0)) j=rf l j:=λj=>by
   rw [Lw hi.1 hi.2];split
   next h=>rw [h,I.dead i NC]
   .rfl
  have S:∀j∈A,tg (l.set i.toNat ([],0)) j=tg l j:=λj c=>by unfold tg;rw [d j c]
  have D:A.flatMap (tg (l.set i.toNat ([],0)))=A.flatMap (tg l):=by grind [List.map_congr_left]
  have pp:(A++o++Z).Perm (A++F++(i::Z)):=by grind
  refine ⟨l.set i.toNat ([],0),o,A,rfl,⟨pp.nodup_iff.2 I.nd,λj=>?_,λj=>?_,λj c=>?_,λj c h=>?_,λa ha b hb h=>?_,λj c=>?_⟩,by simp,λj c=>⟨c,d j c⟩,λj=>by rw [g];omega⟩
  .rw [pp.mem_iff,I.rng,qJ]
  .rw [g,D,I.cnt];rfl
  .rw [g,I.dead j c]
  .rw [g] at h;exact I.top j c h
  .rw [d a ha,d b hb] at h;exact I.dist a ha b hb h
  .obtain ⟨h,H,a⟩:=I.good j c;exact ⟨h,H,a.grow (λ_ h=>h) d⟩
 |e::q,p,h,l,F,A,ha,I,hl,hr,m,hm=>by
  obtain ⟨m,rfl⟩:∃k,m=k+1:=⟨m-1,by omega⟩;rw [au];have r:=I.ext (i:=e.2) (by simp);obtain ⟨C,o,R,K,B,Y,s,V⟩:=ih (by rw [h];simp) e.2 l F (i::Z) A _ (ha e (by simp) r) I hl hr;have hp:p.length<1099511627776:=by grind
  obtain ⟨N2,P,Q,O,M,g3,L,g5⟩:=QA ih hx q (p++[e]) (by rw [h];simp) C o R (λz G f=>by
   have:=ha z (by simp [G]) (s _ f).1;exact this.cX (λj c _=>(s j c).2) (λj c _ u U _=>by
    have:u∈nx C j:=by grind
    exact B.closed c this) f) B (by omega) (λj=>by grind) m (by simp at hm;omega)
  refine ⟨N2,P,Q,?_,M,by omega,λj c=>⟨(s j (L j c).1).1,by grind⟩,λj=>by grind⟩;unfold oB;dsimp only;rw [pg h,cp,yS h];simp;rw [K];rw [wc (by omega),show ((p.length+1:Nat))=((p++[e]).length) by simp];exact O
theorem air{W:Nat}{L M O:Int}{y:Option (List (Int×Bool))}:∀(h n:Nat),h<n->∀(i:Int) (N:List Nd) (F Z A X:zn),At N A h i->Inv N F Z A (i::X) [] W->N.length<1099511627775->(∀j,rf N j<549755813888)->Leaves N Z A X W (ao My n (i,L,N,M,O,F,y)):=by
 intro h
 induction h with
 |zero=>?_
 |succ k ih=>?_
 all_goals
  intro n hn i N F Z A X a I hN V;obtain ⟨n,rfl⟩:∃k,n=k+1:=⟨n-1,by omega⟩;rw [au];unfold My pM;dsimp only;have hi:=I.range a.mem;have R:0<rf N i:=by rw [I.cnt];have:0<(A.flatMap (tg N)++i::X).count i:=List.count_pos_iff.2 (by simp);omega
  rw [AA hi.1 hi.2];simp only [ah];rw [bR (x:=rf N i-1) (by have:=V i;omega)];have g:nx (N.set i.toNat (nx N i,rf N i-1))=nx N:=by
   funext j;rw [LD hi.1 hi.2];split
   next h=>rw [h]
   .rfl
  have r1:∀j,rf (N.set i.toNat (nx N i,rf N i-1)) j=if j=i then rf N i-1 else rf N j:=λj=>by rw [Lw hi.1 hi.2]
  have m:(N.set i.toNat (nx N i,rf N i-1)).length=N.length:=by simp
  have t1:tg (N.set i.toNat (nx N i,rf N i-1))=tg N:=by unfold tg;rw [g]
  have c1:∀j,rf (N.set i.toNat (nx N i,rf N i-1)) j=((A.flatMap (tg N)++X).count j:Nat):=λj=>by
   rw [r1];have o:=I.cnt j;rw [qf,List.count_cons] at o;rw [qf];split
   next h=>subst h;simp at o;omega
   .rename_i h;have:(i==j)=false:=by simp;exact λe=>h e.symm
    rw [this] at o;simp at o;omega
  rw [AA (N:=N.set i.toNat (nx N i,rf N i-1)) hi.1 (by rw [m];exact hi.2)];simp only [ah];rw [r1,du rfl,g];have d:∀j,nx (N.set i.toNat (nx N i,rf N i-1)) j=nx N j:=λj=>by rw [g]
  generalize N.set i.toNat (nx N i,rf N i-1)=r at*;by_cases Q:0<rf N i-1
  .rw [show decide (0<rf N i-1)=true by simpa using Q,cp];refine ⟨r,F,A,rfl,⟨I.nd,λj=>by rw [m];exact I.rng j,λj=>by rw [t1];exact c1 j,λj c=>?_,λj c h=>?_,λu C v B h=>?_,λj c=>?_⟩,m,λj c=>⟨c,d j⟩,λj=>by rw [r1];split <;> rename_i h <;> first|(rw [h];omega)|omega⟩
   .rw [r1,df (λh=>c (by rw [h];exact a.mem))];exact I.dead j c
   .rw [r1] at h;split at h
    .omega
    .exact I.top j c h
   .rw [g] at h;exact I.dist u C v B h
   .obtain ⟨k,hk,a⟩:=I.good j c;exact ⟨k,hk,a.grow (λ_ h=>h) λj _=>d j⟩
  .rw [show decide (0<rf N i-1)=false by simpa using Q,ca];have h1:rf N i=1:=by omega
   have K:(A.flatMap (tg N)++X).count i=0:=by have:=c1 i;rw [r1,du rfl] at this;omega
   have D:=List.count_eq_zero.1 K;have s:A.Perm (i::A.erase i):=List.perm_cons_erase a.mem;have t:A.Nodup:=(List.nodup_append.1 (List.nodup_append.1 I.nd).1).1;have H  :=(List.nodup_cons.1 (s.nodup_iff.1 t)).1;have l:∀j,j∈A.erase i->j∈A:=λj c=>List.mem_of_mem_erase c;have P:∀j,j∈A->j≠i->j∈A.erase i:=λj c h=>(List.mem_erase_of_ne h).2 c;have pp:(A.erase i++F++(i::Z)).Perm (A++F++Z):=by refine List.perm_middle.trans ?_;rw [cb,cb];exact (List.Perm.append_right (F++Z) s).symm
   have U:∀{h:Nat} {j:Int},At N A h j->j∈A.erase i->At r (A.erase i) h j:=λb hb=>b.cX (λj _ _=>d j) (λj _ c e J f=>P _ f λh=>D (by simp;exact .inl ⟨j,c,List.mem_map.2 ⟨e,J,h⟩⟩)) hb
   have I1:Inv r F (i::Z) (A.erase i) ((nx N i).map (·.2)++X) [] W:=⟨pp.nodup_iff.2 I.nd,λj=>by rw [pp.mem_iff,I.rng,m],λj=>by
     rw [c1,t1];have:=(s.flatMap_right (tg N)).count_eq j;rw [qS,qf] at this;rw [qf,qf,qf,this];unfold tg;omega,λj c=>by
     rw [r1];split
     .omega
     next h=>exact I.dead j λG=>c (P j G h),λj c h=>by
     rw [r1,df (λh=>H (by have S:=c;rw [h] at S;exact S))] at h;exact I.top j (l j c) h,λu C v B h=>by
     rw [g] at h;exact I.dist u (l u C) v (l v B) h,λj c=>by
     obtain ⟨k,hk,b⟩:=I.good j (l j c);grind⟩
   have hl:=yK a.KM;obtain ⟨w,E,z⟩:∃w,(∀e∈nx N i,At N A w e.2)/\(nx N i≠[]->∀(i:Int) (N:List Nd) (F Z A X:zn),At N A w i->Inv N F Z A (i::X) [] W->N.length<1099511627775->(∀j,rf N j<549755813888)->Leaves N Z A X W (ao My n (i,L,N,M,O,F,y))):=by
    first
    |exact ⟨0,by rw [a.2];simp,λh=>absurd a.2 h⟩
    |exact ⟨k,a.2.2.2,λ_=>ih n (by omega)⟩
   obtain ⟨N',F',A',g1,Y,g3,T,g5⟩:=QA (x:=(nx N i,rf N i-1)) (p:=[]) (q:=nx N i) z (by simp;omega) rfl r F (A.erase i) (λe J f=>U (E e J) f) I1 (by omega) (λj=>by grind) ax (by show _<2^64;omega);exact ⟨N',F',A',g1,Y,by omega,λj c=>⟨l j (T j c).1,by rw [(T j c).2,g]⟩,λj=>by grind⟩
end Df
namespace Df
abbrev D:=Int×List Nd×Int×Int×zn
structure Good(d:D)(W m:Nat)(A:zn):Prop where
 wide:d.1=W
 w1:1<=W/\W<=64
 m4:m<=2097152
 inv:Inv d.2.1 d.2.2.2.2 [] A (if d.2.2.1= -1 then [] else [d.2.2.1]) [] W
 root:(d.2.2.1= -1/\A=[])\/At d.2.1 A W d.2.2.1
 long:d.2.1.length<=66*m
 refs:∀j,rf d.2.1 j<=16896*(m:Int)
 many:d.2.2.2.1=m
def E7(d:D)(v:zn):Prop:=d.2.2.1≠ -1/\acc d.2.1 v d.2.2.1
theorem ag0{W:Nat}(h:1<=W/\W<=64):Mw (W:Int)=some (((W:Int),[],-1,0,[]),0):=by grind [Mw,aV,decide]
theorem aj7{W:Nat}(h:1<=W/\W<=64):Good ((W:Int),[],-1,0,[]) W 0 [] where
 wide:=rfl
 w1:=h
 m4:=by omega
 inv:=⟨by simp,λi=>by simp;try omega,λi=>by simp [rf,idx],λi _=>by simp [rf,idx],by simp,by simp,by simp⟩
 root:= .inl ⟨rfl,rfl⟩
 long:=by simp
 refs:=λj=>by simp [rf,idx]
 many:=rfl
theorem Yt{d:D}{F Z A X T:zn}{W:Nat}(I:Inv d.2.1 F Z A X T W){w:zn}(v:w.length<1099511627776):∀(q p:zn),w=p++q->∀at_:Int,(at_= -1\/∃h,At d.2.1 A h at_)->∀n,q.length<n->
  ∃r,ao (tI d w) n (at_,(p.length:Int))=some (((w.length:Int)==d.1&&decide (0<d.1))&&r)/\(∀h,At d.2.1 A h at_->q.length=h->(r=true↔acc d.2.1 q at_))/\(at_= -1->r=false)
 |[],p,h,at_,ha,n,hn=>by
  obtain ⟨n,rfl⟩:∃k,n=k+1:=⟨n-1,by omega⟩;rw [au];unfold tI;dsimp only;rw [AO h,ca];refine ⟨at_ != -1,rfl,λh a _=>?_,λh=>by simp [h]⟩;have:=I.range a.mem;simp [acc,iff_true,bne_iff_ne];omega
 |b::q,p,h,at_,ha,n,hn=>by
  obtain ⟨n,rfl⟩:∃k,n=k+1:=⟨n-1,by omega⟩;rw [au];have hp:p.length<1099511627776:=by grind
  have go:∀c:Int,(c= -1\/∃h,At d.2.1 A h c)->Ai d at_ b=some c->(∀h,At d.2.1 A (h+1) at_->(c= -1/\∀e∈nx d.2.1 at_,e.1≠b)\/((b,c)∈nx d.2.1 at_/\At d.2.1 A h c))->(at_= -1->c= -1)->
    ∃r,tI d w (ao (tI d w) n) (at_,(p.length))=some (((w.length)==d.1&&decide (0<d.1))&&r)/\(∀h,At d.2.1 A h at_->(b::q).length=h->(r=true↔acc d.2.1 (b::q) at_))/\(at_= -1->r=false):=by
   intro c o f hk m;obtain ⟨r,y,x,u⟩:=Yt I v q (p++[b]) (by rw [h];simp) c o n (by simp at hn;omega);refine ⟨r,?_,λk a t=>?_,λh=>u (m h)⟩
   .unfold tI;dsimp only;rw [pg h,cp,yS h];simp;rw [f];rw [wc (by omega),show ((p.length+1:Nat))=((p++[b]).length) by simp];exact y
   .obtain ⟨k,rfl⟩:∃j,k=j+1:=⟨k-1,by simp at t;omega⟩;rcases hk k a with ⟨rfl,l⟩|⟨g,z⟩
    .rw [u rfl];simp;rintro ⟨e,g,i,_⟩;exact l e g i
    .rw [x k z (by simpa using t),ail a.2.2.1 g rfl]
  by_cases s:at_= -1
  .subst s;exact go (-1) (.inl rfl) rfl (λh a=>by have:=I.range a.mem;omega) (λ_=>rfl)
  .obtain ⟨k,a⟩:=ha.resolve_left s;have hm:=I.range a.mem;have hl:=yK a.KM;rcases alM b hm.1 hm.2 a.KM (by omega) with ⟨e,g,i,f⟩|⟨l,f⟩
   .obtain ⟨k,rfl⟩:∃j,k=j+1:=by
     cases k with
     |zero=>rw [a.2] at g;cases g
     |succ j=>exact ⟨j,rfl⟩
    exact go e.2 (.inr ⟨k,a.2.2.2 e g⟩) f (λC B=> .inr ⟨by rw [<-i];exact g,B.2.2.2 e g⟩) (λh=>absurd h s)
   grind
theorem ahb{d:D}{W:Nat}{A:zn}(G:Good d W m A){w:zn}(b:w.length<1099511627776):∃r,oX d w=some r/\(r=true↔w.length=W/\E7 d w):=by
 have c:=G.root;obtain ⟨r,f,e,g⟩:=Yt G.inv b w [] rfl d.2.2.1 (by grind) ax (by show _<2^64;omega);refine ⟨_,f,?_⟩;have:=G.w1;rw [G.wide];simp;constructor
 .rintro ⟨⟨hl,_⟩,a⟩;have hl:w.length=W:=by omega
  refine ⟨hl,?_⟩;rcases c with h|h
  .grind
  .have:=G.inv.range h.mem;exact ⟨by omega,(e W h hl).1 a⟩
 .rintro ⟨hl,i,ha⟩;grind
theorem aoY{l:List Nd}(h:l.length<1000000000):dH l=some l:=by grind [dH,So.aN,So.eI]
theorem ahJ{d:D}{W:Nat}{A:zn}(G:Good d W m A)(hm:m<2097152){w:zn}(hb:∀b∈w,0<=b/\b<256)(hl:w.length<1099511627776):
  (w.length≠W/\fu d w=some (d,false,1))\/(w.length=W/\E7 d w/\fu d w=some (d,false,0))\/
  (w.length=W/\ ¬E7 d w/\∃d' y,fu d w=some (d',true,0)/\Good d' W (m+1) y/\∀v,v.length=W->(E7 d' v↔v=w\/E7 d v)):=by
 have hW:=G.w1;obtain ⟨r,hr,C⟩:=ahb G hl;by_cases f:¬w.length=W
 .left;refine ⟨f,?_⟩;unfold fu;simp only [aV];rw [G.wide,show ((w.length:Int) != (W:Int))=true by simp only [bne_iff_ne,ne_eq];omega];rfl
 replace f:w.length=W:=Decidable.not_not.1 f;right;have pre:fu d w=(oX d w).bind λQ=>bif Q then (some (d,false,0)) else ((dH d.2.1).bind λP=>
   (bw d.2.2.2.2).bind λO=>
   (xB d.2.2.1 w d.1 P d.2.2.1 d.2.2.2.1 O (some []:(Option (List (Int×Bool))))).bind λc=>
   (idx c.2.1 c.1).bind λI=>
   (idx c.2.1 c.1).bind λH=>
   bif d.2.2.1 != (-1) then    (tC d.2.2.1 d.1 (List.set c.2.1 (Int.toNat c.1) (H.1,(i64.wrap (I.2+1)))) c.1 d.2.2.2.1 c.2.2.1 c.2.2.2).bind λB=>
   AZ d c B.1 B.2
   else    AZ d c (List.set c.2.1 (Int.toNat c.1) (H.1,(i64.wrap (I.2+1)))) c.2.2.1):=by
  unfold fu;simp only [aV];rw [G.wide,show ((w.length:Int) != (W:Int))=false by simp;omega,show ((W:Int)==0)=false by simp;omega];rfl
 rw [pre,hr];simp only [ah];by_cases ht:E7 d w
 .left;exact ⟨f,ht,by rw [C.2 ⟨f,ht⟩];rfl⟩
 right;refine ⟨f,ht,?_⟩;have R:r=false:=by rw [<-vc];intro h;exact ht (C.1 h).2
 rw [R,ca];have hN:=G.long;have T:=G.refs;have hF:=G.inv.XR;rw [aoY (by omega),So.ah,So.Uo (by omega),So.ah];have s:d.2.2.1= -1\/At d.2.1 A w.length d.2.2.1:=by
  rcases G.root with h|h
  .exact .inl h.1
  .exact .inr (by rw [f];exact h)
 obtain ⟨r,g,X,y',y,h1,o,h3,U,h5,h6,h7,h8,h9⟩:=agP (W:=W) d.1 d.2.2.1 d.2.2.2.1 w d.2.2.1 d.2.1 d.2.2.2.2 A [] hb (by omega) s G.inv (λi h=>by simp [dV,n5] at h) (λi hi z=>absurd (G.inv.top i hi z) (by simp)) (by omega) (λj=>by have:=T j;omega) ax (by show _<2^64;omega);rw [put_eq,h1];simp only [ah];have E:=U.mem;have n:=o.range E;rw [AA n.1 n.2];simp only [ah];have hrr:=h8 r;have hrr2:=T r;have Z:=o.pos r;rw [bR (x:=rf g r+1) (by omega)];have K:nx (g.set r.toNat (nx g r,rf g r+1))=nx g:=by
  funext j;rw [LD n.1 n.2];split
  next h=>rw [h]
  .rfl
 have r1:∀j,rf (g.set r.toNat (nx g r,rf g r+1)) j=if j=r then rf g r+1 else rf g j:=λj=>by rw [Lw n.1 n.2]
 have l1:(g.set r.toNat (nx g r,rf g r+1)).length=g.length:=by simp
 have t1:tg (g.set r.toNat (nx g r,rf g r+1))=tg g:=by unfold tg;rw [K]
 have q:∀j,nx (g.set r.toNat (nx g r,rf g r+1)) j=nx g j:=λj=>by rw [K]
 generalize g.set r.toNat (nx g r,rf g r+1)=t at*
 -- one more leads to the new root
 have L:Inv t X [] y (r::(if d.2.2.1= -1 then [] else [d.2.2.1])) [] W:=⟨o.nd,λj=>by rw [l1];exact o.rng j,λj=>by
   rw [r1,t1];have hc:=o.cnt j;rw [qf] at hc;rw [qf,List.count_cons];split
   next h=>subst h;simp;omega
   .rename_i h;have:(r==j)=false:=by simp;exact λe=>h e.symm
    rw [this];simp;omega,λj l=>by
   rw [r1,df (λh=>l (by rw [h];exact E))];exact o.dead j l,λj l h=>by
   rw [r1] at h;have:=o.pos j;split at h
   .omega
   next S=>have:=o.top j l h;simp at this;exact absurd this S,λu hu v p h=>by rw [K] at h;exact o.dist u hu v p h,λj l=>by
   obtain ⟨k,hk,a⟩:=o.good j l;exact ⟨k,hk,a.grow (λ_ h=>h) λj _=>q j⟩⟩
 have a1:At t y w.length r:=U.grow (λ_ h=>h) λj _=>q j;have F:r≠ -1:=by omega
 have J:∀v:zn,v.length=w.length->(acc t v r↔v=w\/E7 d v):=λv p=>by rw [acc.same (A:=y) (N:=g) (λj _=>q j) U p];exact h9 v p
 have Y:i64.wrap (d.2.2.2.1+1)=((m+1:Nat):Int):=by rw [G.many,bR (by omega)];omega
 by_cases z:d.2.2.1= -1
 .rw [show (d.2.2.1 != -1)=false by simp [z],ca];refine ⟨(d.1,t,r,i64.wrap (d.2.2.2.1+1),X),y,rfl,⟨G.wide,hW,by omega,?_,.inr (by rw [<-f];exact a1),by simp only [];omega,λj=>?_,Y⟩,λv p=>?_⟩
  .simp only [df F];simp only [du z] at L;exact L
  .simp only [];rw [r1];have:=h8 j;have:=T j;split <;> omega
  .show (r≠ -1/\acc t v r)↔_;rw [J v (by omega)];exact ⟨λh=>h.2,λh=>⟨F,h⟩⟩
 .rw [show (d.2.2.1 != -1)=true by grind,cp];simp [df z] at L;have aR:=G.root.resolve_left λh=>z h.1;have V  :=aR.grow (λj l=>(h3 j l).1) λj l=>by rw [K,(h3 j l).2]
  have I2  :=L.perm (List.Perm.swap r d.2.2.1 []);obtain ⟨N2,F2,A2,g1,g2,g3,g4,g5⟩:=air W ax (by show _<2^64;omega) d.2.2.1 t X [] y [r] V I2 (by omega) (λj=>by grind);rw [ai4,g1];have M:=g2.ext (i:=r) (by simp);have a2:At N2 A2 W r:=by rw [<-f];exact a1.cX (λj l _=>(g4 j l).2) (λj l _ e he _=>g2.closed l (by grind)) M
  have acc2:∀v:zn,v.length=W->(acc t v r↔acc N2 v r):=λv p=>acc.same (λj l=>(g4 j l).2.symm) a2 p;refine ⟨(d.1,N2,r,i64.wrap (d.2.2.2.1+1),F2),A2,rfl,⟨G.wide,hW,by omega,?_,.inr a2,by simp;omega,λj=>?_,Y⟩,λv p=>?_⟩
  .grind
  .grind
  .show (r≠ -1/\acc N2 v r)↔_;grind
end Df
variable {L : x3} {W : Nat} {p : zn -> Bool}
namespace So
def DS(d:Df.D)(W:Nat)(L:x3):Prop:= ∃A,Df.Good d W L.length A/\∀w,w.length=W->(Df.E7 d w↔w∈L)
theorem ZX{W:Nat}(h:1<=W/\W<=64):DS ((W:Int),[],-1,0,[]) W []:=
 ⟨[],Df.aj7 h,λw _=>⟨λh=>absurd rfl h.1,λh=>by simp at h⟩⟩
theorem Zt{d:Df.D}(h:DS d W L){w:zn}(a:w.length=W):oX d w=some (decide (w∈L)):=by obtain ⟨A,G,ht⟩:=h;have:=G.w1;obtain ⟨r,c,b⟩:=Df.ahb G (w:=w) (by omega);grind
theorem aqf{d:Df.D}(h:DS d W L){w:zn}(a:w.length=W)(hb:By w)(hm:w∈L)(hl:L.length<2097152):fu d w=some (d,false,0):=by obtain ⟨A,G,ht⟩:=h;have:=G.w1;grind [Df.ahJ,absurd]
theorem agb{d:Df.D}(h:DS d W L){w:zn}(f:w.length=W)(hb:By w)(hm:w∉L)(hl:L.length<2097152):∃a,fu d w=some (a,true,0)/\DS a W (L++[w]):=by
 obtain ⟨A,G,ht⟩:=h;have:=G.w1;rcases Df.ahJ G hl (λb c=>by have:=hb b c;omega) (by omega) with ⟨e,_⟩|⟨_,e,_⟩|⟨_,_,a,j,i,g,l⟩
 .exact absurd f e
 .grind
 .refine ⟨a,i,j,by simpa using g,λv k=>?_⟩;grind
theorem anf{d:Df.D}(h:DS d W L):Hp d=some (L.length:Int):=by obtain ⟨A,G,_⟩:=h;unfold Hp;rw [G.many]
abbrev Wo:=Df.D×Df.D×Df.D
def EW(s:List Fd)(d:Df.D)(V:x3)(p:zn->Bool):Prop:= ∃F:x3,DS d (gS s) (F.map (enc s))/\F.Nodup/\(∀v,v∈F↔p v=true)/\∀v∈F,v∈V
structure OkW(s:List Fd)(cap:Int)(t:Wo)(V:x3)(g:Gf):Prop where
 cap1:cap<=1048576
 dq:(V.length:Int)<=cap
 ins:∀v∈V,In s v
 nd:V.Nodup
 d0:DS t.1 (gS s) (V.map (enc s))
 d1:EW s t.2.1 V (g false)
 d2:EW s t.2.2 V (g true)
theorem ab3{s:List Fd}(a:jJ s):1<=gS s/\gS s<=64:=by have:=yi a;have:=a.dq;unfold gS;omega
theorem EW.add{s:List Fd}{d:Df.D}{V:x3}(h:EW s d V p)(v:zn):EW s d (V++[v]) p:=by obtain ⟨F,f,e,c,b⟩:=h;exact ⟨F,f,e,c,λu a=>qh _ (b u a)⟩
theorem EW.has{s:List Fd}{d:Df.D}{V:x3}(c:∀v∈V,In s v)(h:EW s d V p){v:zn}(a:In s v):oX d (enc s v)=some (p v):=by obtain ⟨F,g,i,f,e⟩:=h;rw [Zt g (yt a.len)];congr 1;rw [qB,gj,Cc (λu b=>c u (e u b)) a,f]
theorem EW.set{s:List Fd}{d:Df.D}{V:x3}(m:∀v∈V,In s v)(hl:V.length<2097152)(h:EW s d V p){v:zn}(g:In s v)(hm:v∈V):
  ∃c b,fu d (enc s v)=some (c,b,0)/\EW s c V (λu=>p u||u==v):=by
 obtain ⟨F,f,e,o,i⟩:=h;have n:=alu e i;by_cases hp:v∈F
 .refine ⟨d,false,aqf f (yt g.len) (PD s v) (List.mem_map.2 ⟨v,hp,rfl⟩) (by simp;omega),F,f,e,λu=>?_,i⟩;grind
 .obtain ⟨c,k,j⟩:=agb f (yt g.len) (PD s v) (by grind [Cc]) (by simp;omega);refine ⟨c,true,k,F++[v],by simpa using j,List.nodup_append.2 ⟨e,by simp,λa ha b hb=>by grind⟩,λu=>?_,λu l=>?_⟩
  .grind
  grind
abbrev St:=Int×List Fd×Int×Fl×Co×Tr×Wo×(Int×Int×Int×(zn×zn×zn))
structure E3(t:St)(s:List Fd)(cap:Int)(V:x3)(g:Gf):Prop where
 sch:t.2.1=s
 cap_:t.2.2.1=cap
 kind:(t.1=0/\Eu s t.2.2.2.1 V g/\t.2.2.2.1.1.1=cap)\/(t.1=1/\Np s cap t.2.2.2.2.1 V g)\/(t.1=2/\tT s cap t.2.2.2.2.2.1 V g)\/(t.1=3/\OkW s cap t.2.2.2.2.2.2.1 V g)
theorem Kt{t:St}{s:List Fd}(b:jJ s)(ht:t.2.1=s){v:zn}(a:In s v):eC t v=some (enc s v):=by grind [eC,LN,ah]
theorem WS{t:St}(a:fj t.2.1 v=some 0):
  (t.1=0->dz t v=kx () t v)/\(t.1=1->dz t v=jK () t v)/\(t.1=2->dz t v=jO () t v)/\(t.1=3->dz t v=kq () t v)/\(t.1=4->dz t v=ky () t v):=by
 have b:∀x:Option (St×Bool×Int),(x.bind λr=>some (r.1,r.2.1,r.2.2))=x:=λx=>by cases x <;> rfl
 have k:∀n:Nat,dF t=some n->dz t v=(bif (Nat.beq n 154) then kx () t v else bif (Nat.beq n 155) then jK () t v else bif (Nat.beq n 156) then jO () t v else bif (Nat.beq n 157) then kq () t v else bif (Nat.beq n 158) then ky () t v else none):=by unfold dz;grind
 refine ⟨λh=>?_,λh=>?_,λh=>?_,λh=>?_,λh=>?_⟩
 .rw [k 154 (by unfold dF ct;rw [h];rfl)];rfl
 .rw [k 155 (by unfold dF ct;rw [h];rfl)];rfl
 .rw [k 156 (by unfold dF ct;rw [h];rfl)];rfl
 .rw [k 157 (by unfold dF ct;rw [h];rfl)];rfl
 .rw [k 158 (by unfold dF ct;rw [h];rfl)];rfl
theorem aiz{t:St}(f:Int)(a:fj t.2.1 v=some 0):
  (t.1=0->gK t v f=nF () t v f)/\(t.1=1->gK t v f=mh () t v f)/\(t.1=2->gK t v f=mG () t v f)/\(t.1=3->gK t v f=nB () t v f)/\(t.1=4->gK t v f=rH () t v f):=by
 have b:∀x:Option (St×Int),(x.bind λr=>some (r.1,r.2))=x:=λx=>by cases x <;> rfl
 have k:∀n:Nat,dF t=some n->gK t v f=(bif (Nat.beq n 154) then nF () t v f else bif (Nat.beq n 155) then mh () t v f else bif (Nat.beq n 156) then mG () t v f else bif (Nat.beq n 157) then nB () t v f else bif (Nat.beq n 158) then rH () t v f else none):=by unfold gK;grind
 refine ⟨λh=>?_,λh=>?_,λh=>?_,λh=>?_,λh=>?_⟩
 .rw [k 154 (by unfold dF ct;rw [h];rfl)];rfl
 .rw [k 155 (by unfold dF ct;rw [h];rfl)];rfl
 .rw [k 156 (by unfold dF ct;rw [h];rfl)];rfl
 .rw [k 157 (by unfold dF ct;rw [h];rfl)];rfl
 .rw [k 158 (by unfold dF ct;rw [h];rfl)];rfl
theorem ak2{t:St}(f:Int)(a:fj t.2.1 v=some 0):
  (t.1=0->eK t v f=nR () t v f)/\(t.1=1->eK t v f=lS () t v f)/\(t.1=2->eK t v f=mD () t v f)/\(t.1=3->eK t v f=nq () t v f)/\(t.1=4->eK t v f=rN () t v f):=by
 have b:∀x:Option (Bool×Int),(x.bind λr=>some (r.1,r.2))=x:=λx=>by cases x <;> rfl
 have k:∀n:Nat,dF t=some n->eK t v f=(bif (Nat.beq n 154) then nR () t v f else bif (Nat.beq n 155) then lS () t v f else bif (Nat.beq n 156) then mD () t v f else bif (Nat.beq n 157) then nq () t v f else bif (Nat.beq n 158) then rN () t v f else none):=by unfold eK;grind
 refine ⟨λh=>?_,λh=>?_,λh=>?_,λh=>?_,λh=>?_⟩
 .rw [k 154 (by unfold dF ct;rw [h];rfl)];rfl
 .rw [k 155 (by unfold dF ct;rw [h];rfl)];rfl
 .rw [k 156 (by unfold dF ct;rw [h];rfl)];rfl
 .rw [k 157 (by unfold dF ct;rw [h];rfl)];rfl
 .rw [k 158 (by unfold dF ct;rw [h];rfl)];rfl
theorem in0{t:St}{s:List Fd}(b:jJ s)(ht:t.2.1=s){v:zn}(a:In s v):fj t.2.1 v=some 0:=by have:=b.dq;have:=a.len;grind [yY,pG]
def OR(s:List Fd)(cap:Int)(V:x3)(v:zn):x3×Bool×Int:=if sZ s v=0 then vw cap V v else (V,false,sZ s v)
def EK(s:List Fd)(V:x3)(v:zn)(flag:Int):Int:=if sZ s v=0 then gb V v flag else sZ s v
def aiA(s:List Fd)(V:x3)(g:Gf)(v:zn)(flag:Int):Gf:=if EK s V v flag=0 then lJ g (flag==1) v else g
def ak0(s:List Fd)(V:x3)(g:Gf)(v:zn)(flag:Int):Bool:=if EK s V v flag=0 then g (flag==1) v else false
theorem agD{s:List Fd}(j:nE s){t:St}{cap:Int}{V:x3}{g:Gf}(h:E3 t s cap V g)(v:zn)(hl:v.length<100000000):
  ∃t',dz t v=some (t',(OR s cap V v).2)/\E3 t' s cap (OR s cap V v).1 g/\t'.1=t.1:=by
 unfold OR;by_cases n:sZ s v=0
 .rw [du n];have c:=pG.1 n;have m:=in0 j.fds h.sch c;have hk:=Kt j.fds h.sch c;obtain ⟨y,k1,x,w,_⟩:=WS m;rcases h.kind with ⟨e,ok,k⟩|⟨e,ok⟩|⟨e,ok⟩|⟨e,ok⟩
  .rw [y e];unfold kx;obtain ⟨f,d,i,r⟩:=ada j.fds ok c;rw [k] at d i r;rw [hk,ah,d,ah];exact ⟨_,rfl,⟨h.sch,h.cap_,.inl ⟨e,i,r⟩⟩,rfl⟩
  .rw [k1 e];unfold jK;obtain ⟨f,d,i⟩:=afh j.fds ok c;rw [h.sch,d,ah];exact ⟨_,rfl,⟨rfl,h.cap_,.inr (.inl ⟨e,i⟩)⟩,rfl⟩
  .rw [x e];unfold jO;obtain ⟨f,d,i⟩:=afq j ok c;rw [h.sch,d,ah];exact ⟨_,rfl,⟨rfl,h.cap_,.inr (.inr (.inl ⟨e,i⟩))⟩,rfl⟩
  .rw [w e];unfold kq vw;have hm:=Cc ok.ins c;rw [hk,ah,Zt ok.d0 (yt c.len),ah];by_cases o:v∈V
   .grind
   .rw [c9 (λp=>o (hm.1 p)),df o,ca,anf ok.d0,ah,h.cap_,qb];by_cases q:cap<=(V.length)
    .grind
    .have d:=ok.cap1;rw [c9 q,df q,ca];obtain ⟨B,A,z⟩:=agb ok.d0 (yt c.len) (PD s v) (λp=>o (hm.1 p)) (by simp;omega);rw [A,ah];refine ⟨_,rfl,⟨h.sch,rfl,.inr (.inr (.inr ⟨e,⟨d,by simp;omega,λu l=>?_,?_,by simpa using z,ok.d1.add v,ok.d2.add v⟩⟩))⟩,rfl⟩
     .rcases List.mem_append.1 l with l|l
      .exact ok.ins u l
      grind
     .exact List.nodup_append.2 ⟨ok.nd,by simp,λa ha b hb=>by grind⟩
 .unfold dz;rw [h.sch,yY s v hl,ah,show (sZ s v != 0)=true by simpa using n,cp];grind
theorem P5{s:List Fd}(c:jJ s){t:St}(ht:t.2.1=s){cap:Int}{V:x3}{g:Gf}(ok:OkW s cap t.2.2.2.2.2.2.1 V g){v:zn}(b:In s v)(a:Int):pY t v a=some (gb V v a):=by
 unfold pY gb;simp [aV];rcases yI a with hb|hb
 .grind
 .rw [df (by omega),show (decide (a<0)||decide (1<a))=false by grind,ca,Kt c ht b,ah,Zt ok.d0 (yt b.len),ah];by_cases hm:v∈V
  .grind
  .rw [c9 (λh=>hm ((Cc ok.ins b).1 h)),df hm];rfl
theorem apg{s:List Fd}(k:nE s){t:St}{cap:Int}{V:x3}{g:Gf}(h:E3 t s cap V g)(v:zn)(hl:v.length<100000000)(a:Int):
  ∃t',gK t v a=some (t',EK s V v a)/\E3 t' s cap V (aiA s V g v a)/\t'.1=t.1:=by
 unfold aiA EK;by_cases m:sZ s v=0
 .rw [du m];have d:=pG.1 m;have n:=in0 k.fds h.sch d;have hk:=Kt k.fds h.sch d;obtain ⟨x,k1,w,r,_⟩:=aiz a n;rcases h.kind with ⟨e,ok,l⟩|⟨e,ok⟩|⟨e,ok⟩|⟨e,ok⟩
  .rw [x e];unfold nF;obtain ⟨f,j,i,y⟩:=adD k.fds ok d a;rw [hk,ah,j,ah];exact ⟨_,rfl,⟨h.sch,h.cap_,.inl ⟨e,i,y.trans l⟩⟩,rfl⟩
  .rw [k1 e];unfold mh;obtain ⟨f,j,i⟩:=aex k.fds ok d a;rw [h.sch,j,ah];exact ⟨_,rfl,⟨rfl,h.cap_,.inr (.inl ⟨e,i⟩)⟩,rfl⟩
  .rw [w e];unfold mG;obtain ⟨f,j,i⟩:=ad3 k ok d a;rw [h.sch,j,ah];exact ⟨_,rfl,⟨rfl,h.cap_,.inr (.inr (.inl ⟨e,i⟩))⟩,rfl⟩
  .rw [r e];unfold nB;have j:=ok.cap1;have i:=ok.dq;rw [P5 k.fds h.sch ok d,ah];by_cases c:gb V v a=0
   .rw [du c,c,show ((0:Int) != 0)=false from rfl,ca];have hb:a=0\/a=1:=by
     rcases yI a with hb|hb
     .unfold gb at c;omega
     .exact hb
    have hm:v∈V:=Decidable.byContradiction λhm=>by unfold gb at c;rw [df (by omega),df hm] at c;omega
    rcases hb with rfl|rfl
    .obtain ⟨q,b,p,o⟩:=ok.d1.set ok.ins (by omega) d hm;rw [show (i64.wrap (1+0)==0)=false from rfl,show (i64.wrap (1+0)==1)=true from rfl,ca,cp,hk,ah,p,ah,ca,cp];refine ⟨_,rfl,⟨h.sch,h.cap_,.inr (.inr (.inr ⟨e,⟨j,i,ok.ins,ok.nd,ok.d0,?_,?_⟩⟩))⟩,rfl⟩
     .show EW s q V (λu=>g false u||(false==(0==1)&&u==v));simpa using o
     .show EW s _ V (λu=>g true u||(true==((0)==1)&&u==v));simpa using ok.d2
    .obtain ⟨q,b,p,o⟩:=ok.d2.set ok.ins (by omega) d hm;rw [show (i64.wrap (1+1)==0)=false from rfl,show (i64.wrap (1+1)==1)=false from rfl,show (i64.wrap (1+1)==2)=true from rfl,ca,ca,cp,hk,ah,p,ah,ca,ca,cp];refine ⟨_,rfl,⟨h.sch,h.cap_,.inr (.inr (.inr ⟨e,⟨j,i,ok.ins,ok.nd,ok.d0,?_,?_⟩⟩))⟩,rfl⟩
     .show EW s _ V (λu=>g false u||(false==((1)==1)&&u==v));simpa using ok.d1
     .show EW s q V (λu=>g true u||(true==((1)==1)&&u==v));simpa using o
   grind
 .unfold gK;rw [h.sch,yY s v hl,ah,show (sZ s v != 0)=true by simpa using m,cp,df m];grind
theorem aow{s:List Fd}(c:nE s){t:St}{cap:Int}{V:x3}{g:Gf}(h:E3 t s cap V g)(v:zn)(hl:v.length<100000000)(a:Int):
  eK t v a=some (ak0 s V g v a,EK s V v a):=by
 unfold ak0 EK;by_cases f:sZ s v=0
 .rw [du f];have b:=pG.1 f;have i:=in0 c.fds h.sch b;have hk:=Kt c.fds h.sch b;obtain ⟨m,k1,l,k,_⟩:=ak2 a i;rcases h.kind with ⟨e,ok,j⟩|⟨e,ok⟩|⟨e,ok⟩|⟨e,ok⟩
  .rw [m e];unfold nR;rw [hk,ah,adM c.fds ok b a,ah];rfl
  .rw [k1 e];unfold lS;rw [h.sch,aeE c.fds ok b a,ah];rfl
  .rw [l e];unfold mD;rw [h.sch,aed c ok b a,ah];rfl
  .rw [k e];unfold nq;rw [P5 c.fds h.sch ok b,ah];by_cases d:gb V v a=0
   .rw [du d,d,show ((0:Int) != 0)=false from rfl,ca];have hb:a=0\/a=1:=by
     rcases yI a with hb|hb
     .simp_all [gb]
     .exact hb
    rcases hb with rfl|rfl
    .rw [show (i64.wrap (1+0)==0)=false from rfl,show (i64.wrap (1+0)==1)=true from rfl,ca,cp,hk,ah,ok.d1.has ok.ins b,ah];rfl
    .rw [show (i64.wrap (1+1)==0)=false from rfl,show (i64.wrap (1+1)==1)=false from rfl,show (i64.wrap (1+1)==2)=true from rfl,ca,ca,cp,hk,ah,ok.d2.has ok.ins b,ah];rfl
   grind
 .rw [df f];unfold eK;rw [h.sch,yY s v hl,ah,show (sZ s v != 0)=true by simpa using f,cp,df f]
end So
namespace So
theorem JP{l:List Fd}(h:l.length<1000000000):cG l=some l:=by grind [cG,aN,eI]
abbrev Op:=Int×Int×Int×Int×Int×Int
def apu:St:=(0,[],0,((0,[],[]),[]),([],(0,[],[]),[]),([],[]),((0,[],0,0,[]),(0,[],0,0,[]),(0,[],0,0,[])),(0,0,0,([],[],[])))
def vj(s:List Fd)(o:Op):St:=(o.1,s,o.2.1,((0,[],[]),[]),([],(0,[],[]),[]),([],[]),((0,[],0,0,[]),(0,[],0,0,[]),(0,[],0,0,[])),(0,0,0,([],[],[])))
def thenS(x:Option (St×Int)):Option (St×Int):=x.bind λr=>bif (r.2 != 0) then some (apu,r.2) else some (r.1,0)
theorem aih{s:List Fd}(d:FI s)(c:nE s)(o:Op):
  (o.1=0->jn s o=thenS (jj () (vj s o) o))/\(o.1=1->jn s o=thenS (iB () (vj s o) o))/\(o.1=2->jn s o=thenS (ir () (vj s o) o))/\
  (o.1=3->jn s o=thenS (gF () (vj s o) o))/\(o.1=4->jn s o=thenS (oG () (vj s o) o)):=by
 have hl:=c.dq;have k:∀n:Nat,(decide (((5:Nat))<=o.1))=false->decide (o.1<0)=false->(ct).bind (λa=>idx a o.1)=some n->jn s o=
   (bif (Nat.beq n 154) then thenS (jj () (vj s o) o) else bif (Nat.beq n 155) then thenS (iB () (vj s o) o) else bif (Nat.beq n 156) then thenS (ir () (vj s o) o) else bif (Nat.beq n 157) then thenS (gF () (vj s o) o) else bif (Nat.beq n 158) then thenS (oG () (vj s o) o) else none):=by
  intro n e f hn;unfold jn;obtain ⟨l,hk,hi⟩:=ia hn;have b:l.length=5:=by grind [ct]
  simp only [aV];rw [Yk d,ah,Uv.2 c,f,hk,qc,mm,ko,dw,ah,b,e,mm,ca,ah,hi,ah,JP (by omega),ah];rfl
 refine ⟨λh=>?_,λh=>?_,λh=>?_,λh=>?_,λh=>?_⟩
 .rw [k 154 (by rw [h];rfl) (by rw [h];rfl) (by rw [h];rfl)];rfl
 .rw [k 155 (by rw [h];rfl) (by rw [h];rfl) (by rw [h];rfl)];rfl
 .rw [k 156 (by rw [h];rfl) (by rw [h];rfl) (by rw [h];rfl)];rfl
 .rw [k 157 (by rw [h];rfl) (by rw [h];rfl) (by rw [h];rfl)];rfl
 .rw [k 158 (by rw [h];rfl) (by rw [h];rfl) (by rw [h];rfl)];rfl
theorem aa8{s:List Fd}(f:jJ s)(t:St)(ht:t.2.1=s)(o:Op)(h:0<=o.2.1)(g:o.2.1<=1048576):
  gF () t o=some ((t.1,t.2.1,t.2.2.1,t.2.2.2.1,t.2.2.2.2.1,t.2.2.2.2.2.1,(((gS s:Int),[],-1,0,[]),((gS s:Int),[],-1,0,[]),((gS s:Int),[],-1,0,[])),t.2.2.2.2.2.2.2),0):=by
 unfold gF;simp [aV];rw [c9 (by omega),c9 (by omega),Bool.or_self,ca];have e:oU t.2.1=some (gS s:Int):=by grind [YZ]
 have hN:=Df.ag0 (ab3 f);obtain ⟨m,hm⟩:∃m,ax=m+4:=⟨2^64-4,rfl⟩;rw [hm,au];generalize a:jf () t=F;have d:∀k a1 a2 a3 a4 a5 b1 b2 b3 b4 b5 c1 c2 c3 c4 c5,F k (a1,a2,a3,a4,a5,b1,b2,b3,b4,b5,c1,c2,c3,c4,c5,0)=k ((gS s),[],-1,0,[],b1,b2,b3,b4,b5,c1,c2,c3,c4,c5,1):=by intros;rw [<-a];unfold jf;dsimp only;rw [e,ah,hN,ah];rfl
 have c:∀k a1 a2 a3 a4 a5 b1 b2 b3 b4 b5 c1 c2 c3 c4 c5,F k (a1,a2,a3,a4,a5,b1,b2,b3,b4,b5,c1,c2,c3,c4,c5,1)=k (a1,a2,a3,a4,a5,(gS s),[],-1,0,[],c1,c2,c3,c4,c5,2):=by intros;rw [<-a];unfold jf;dsimp only;rw [e,ah,hN,ah];rfl
 have b:∀k a1 a2 a3 a4 a5 b1 b2 b3 b4 b5 c1 c2 c3 c4 c5,F k (a1,a2,a3,a4,a5,b1,b2,b3,b4,b5,c1,c2,c3,c4,c5,2)=k (a1,a2,a3,a4,a5,b1,b2,b3,b4,b5,(gS s),[],-1,0,[],3):=by intros;rw [<-a];unfold jf;dsimp only;rw [e,ah,hN,ah];rfl
 rw [d,au,c,au,b,au,<-a];rfl
theorem amt{s:List Fd}(k:FI s)(a:nE s)(o:Op)(hk:0<=o.1/\o.1<4):
  ((o.2.1<0\/1048576<o.2.1)->jn s o=some (apu,1))/\(0<=o.2.1->o.2.1<=1048576->∃t,jn s o=some (t,0)/\E3 t s o.2.1 [] (λ_ _=>false)/\t.1=o.1):=by
 obtain ⟨j,k1,i,g,_⟩:=aih k a o;have c:o.1=0\/o.1=1\/o.1=2\/o.1=3:=by omega
 refine ⟨λhb=>?_,λe d=>?_⟩
 .rcases c with h|h|h|h
  .rw [j h];unfold jj;rw [Qy,du hb];rfl
  .rw [k1 h];unfold iB;rw [show (vj s o).2.1=s from rfl,Qg a.fds,du hb];rfl
  .rw [i h];unfold ir;rw [show (vj s o).2.1=s from rfl,PC a.fds,du hb];rfl
  .rw [g h];unfold gF;simp [aV];rw [show (decide (o.2.1<0)||decide (1048576<o.2.1))=true by simpa using hb];rfl
 .have hb:¬(o.2.1<0\/1048576<o.2.1):=by omega
  rcases c with h|h|h|h
  .rw [j h];unfold jj;rw [Qy,df hb];exact ⟨_,rfl,⟨rfl,rfl,.inl ⟨h,adA s e d,rfl⟩⟩,rfl⟩
  .rw [k1 h];unfold iB;rw [show (vj s o).2.1=s from rfl,Qg a.fds,df hb];exact ⟨_,rfl,⟨rfl,rfl,.inr (.inl ⟨h,aeP s e d⟩)⟩,rfl⟩
  .rw [i h];unfold ir;rw [show (vj s o).2.1=s from rfl,PC a.fds,df hb];exact ⟨_,rfl,⟨rfl,rfl,.inr (.inr (.inl ⟨h,aeg s e d⟩))⟩,rfl⟩
  .rw [g h,aa8 a.fds (vj s o) rfl o e d];have f:=ab3 a.fds;exact ⟨_,rfl,⟨rfl,rfl,.inr (.inr (.inr ⟨h,⟨d,e,λv b=>by simp at b,qW,ZX f,⟨[],ZX f,qW,λv=>by simp,λv b=>by simp at b⟩,⟨[],ZX f,qW,λv=>by simp,λv b=>by simp at b⟩⟩⟩))⟩,rfl⟩
theorem ahL(s:List Fd)(v:zn)(hn:v.length<100000000):lQ s v=some (sZ s v):=by
 unfold lQ;by_cases hl:v.length=s.length
 .rw [show ((v.length:Int) != (s.length:Int))=false by simp;omega,ca];have a:∀i,i<v.length->i<s.length:=λi h=>by omega
  have step:∀i (hi:i<v.length) (k:Int->zf),dU s v k (i:Int)=bif (decide ((s[i]'(a i hi)).1<=v[i])&&decide (v[i]<=(s[i]'(a i hi)).2)) then k ((i+1:Nat):Int) else some 5:=by
   intro i hi k;unfold dU;simp only [aV];rw [pg hi,cp,dX hi,dX (a i hi),ah,ah,nx (show i<9223372036854775807 by omega)];by_cases b:v[i]<(s[i]'(a i hi)).1
   .rw [cy b,qc,lP,lP,wi,cp,c9 (show ¬(s[i]'(a i hi)).1<=v[i] by omega)];rfl
   .rw [c9 b,ko,dw,ah,dw,ah,mm,cy (show (s[i]'(a i hi)).1<=v[i] by omega),mi];by_cases c:(s[i]'(a i hi)).2<v[i]
    .rw [cy c,c9 (show ¬v[i]<=(s[i]'(a i hi)).2 by omega)];rfl
    .rw [c9 c,cy (show v[i]<=(s[i]'(a i hi)).2 by omega)];rfl
  refine (findF (F:=dU s v) (λi=>(i:Int)) (λi=>if h:i<v.length then !(decide ((s[i]'(a i h)).1<=v[i])&&decide (v[i]<=(s[i]'(a i h)).2)) else false) (r:=λi=>if i<v.length then some 5 else some 0) v.length (s:=0) rfl (by omega) (λi hi hp k=>?_) (λi hi hp k=>?_) (λk=>?_)).elim (λ⟨i,b,c,e,d⟩=>?_) (λ⟨b,d⟩=>?_)
  .rw [qX hi,Bool.not_eq_false'] at hp;rw [step i hi,hp,cp]
  .rw [qX hi,nA] at hp;rw [step i hi,hp,ca,du hi]
  .unfold dU;rw [AO (nJ _),ca,df (nJ _)]
  .rw [d,du b,XS hl i (by omega)];rw [qX b] at c;simp at c;omega
  .rw [d,df (by omega),pG.2 ⟨hl,λi hi=>?_⟩];have:=b i (by omega);rw [qX (by omega)] at this;simpa using this
 .rw [show ((v.length:Int) != (s.length:Int))=true by simp;omega,cp];unfold sZ;rw [df hl]
theorem agF(a b:zn)(hn:a.length<100000000):gH a b=some (a==b):=by
 unfold gH;by_cases hl:a.length=b.length
 .rw [show ((a.length:Int) != (b.length:Int))=false by simp;omega,ca];have step:∀i (hi:i<a.length) (k:Int->zc),dG a b k (i:Int)=bif (a[i] != b[i]'(by omega)) then some false else k ((i+1:Nat):Int):=by intro i hi k;unfold dG;rw [pg hi,cp,dX hi,dX (show i<b.length by omega),ah,ah,nx (show i<9223372036854775807 by omega)]
  refine (findF (F:=dG a b) (λi=>(i:Int)) (λi=>if h:i<a.length then a[i] != b[i]'(by omega) else false) (r:=λi=>if i<a.length then some false else some true) a.length (s:=0) rfl (by omega) (λi hi hp k=>?_) (λi hi hp k=>?_) (λk=>?_)).elim (λ⟨i,d,c,f,e⟩=>?_) (λ⟨d,e⟩=>?_)
  .rw [qX hi] at hp;rw [step i hi,hp,ca]
  .rw [qX hi] at hp;rw [step i hi,hp,cp,du hi]
  .unfold dG;rw [AO (nJ _),ca,df (nJ _)]
  .rw [e,du d];rw [qX d] at c;congr 1;rw [eq_comm,qC];rintro rfl;simp at c
  .rw [e,df (nJ _)];congr 1;rw [eq_comm,n4];refine tt hl λi c f=>?_;have:=d i c;rw [qX c] at this;simpa using this
 .rw [show ((a.length:Int) != (b.length:Int))=true by simp;omega,cp];congr 1;rw [eq_comm,qC];rintro rfl;exact hl rfl
end So
variable {p : Nat -> Bool}
namespace So
def Od(e:Int)(k:Nat):Bool:=o8 .u8 e (kX .u8 1 (k:Int)) != 0
theorem aj9:∀e:Fin 256,∀j k:Fin 8,Od (tX .u8 (e.val:Int) (kX .u8 1 (j.val:Int))) k.val=(Od (e.val:Int) k.val||j.val==k.val)/\0<=tX .u8 (e.val:Int) (kX .u8 1 (j.val:Int))/\tX .u8 (e.val:Int) (kX .u8 1 (j.val:Int))<=255:=by decide+kernel
theorem ahZ{e:Int}(b:0<=e)(c:e<=255){j k:Nat}(a:j<8)(hk:k<8):Od (tX .u8 e (kX .u8 1 (j:Int))) k=(Od e k||j==k)/\0<=tX .u8 e (kX .u8 1 (j:Int))/\tX .u8 e (kX .u8 1 (j:Int))<=255:=by obtain ⟨n,rfl⟩:=qn b;exact aj9 ⟨n,by omega⟩ ⟨j,a⟩ ⟨k,hk⟩
structure yN(row:zn)(M:Nat)(p:Nat->Bool):Prop where
 len:row.length=(M+7)/8
 sQ:By row
 bit:∀n e,row[n/8]? =some e->Od e (n%8)=p n
 low:∀n,p n=true->n<M
theorem yN.get{row:zn}{M:Nat}(h:yN row M p){n:Nat}(hn:n<M):∃e,row[n/8]? =some e/\Od e (n%8)=p n/\0<=e/\e<=255:=by
 have hl:n/8<row.length:=by rw [h.len];omega
 have a:=b9 hl;exact ⟨_,a,h.bit n _ a,h.sQ _ (eF hl)⟩
theorem yN.set{row:zn}{M:Nat}(h:yN row M p){n:Nat}(hn:n<M){e:Int}(a:row[n/8]? =some e):
  yN (row.set (n/8) (tX .u8 e (kX .u8 1 ((n%8:Nat):Int)))) M (λm=>p m||m==n):=by
 have hl:=uZ a;have hb:=h.sQ e (gr a);refine ⟨by rw [qJ];exact h.len,λx hx=>?_,λm e' hm=>?_,λm hm=>?_⟩
 .rcases List.mem_or_eq_of_mem_set hx with hx|hx
  .exact h.sQ x hx
  .rw [hx];have:=ahZ hb.1 hb.2 (j:=n%8) (k:=0) (by omega) (by omega);exact this.2
 .rw [l6 hl] at hm;split at hm
  next b=>rw [<-iN hm,(ahZ hb.1 hb.2 (by omega) (by omega)).1,<-h.bit m e (by rw [<-b];exact a)];grind
  next b=>rw [h.bit m e' hm];have:(m==n)=false:=beq_eq_false_iff_ne.2 (λc=>b (by rw [c]));grind
 .rcases Bool.or_eq_true_iff.1 hm with hm|hm
  .exact h.low m hm
  grind
def Ap(key:zn)(seed:Int)(K M:Nat):zo:=(List.range K).map λi:Nat=>(pr key (u64.wrap (seed+u64.wrap (i:Int)))).toNat%M
theorem WU{key:zn}{seed:Int}{K M:Nat}(a:0<M):∀n∈Ap key seed K M,n<M:=by intro n hn;simp [Ap,List.mem_map] at hn;obtain ⟨i,_,rfl⟩:=hn;exact qT _ a
theorem agJ{key:zn}(hk:key.length<100000)(seed:Int){K M:Nat}(c:K<=16)(b:0<M)(a:M<1000000000):nn key seed (K:Int) (M:Int)=some ((Ap key seed K M).map λn:Nat=>(n:Int)):=by
 refine vA (λi=>(((Ap key seed K M).take i).map λn:Nat=>(n:Int),(i:Int))) K (by simp) (by omega) (λi hi k=>?_) (λk=>?_)
 .unfold A0;dsimp only;rw [cy (by omega),cp,abf _ _ (by omega),ah,sV _ _ b a,ah,aN (eI (by grind) (by grind)),nx (by omega)];grind [Ap,pr,List.getElem?_range,List.take_add_one]
 simp_all [A0,gx,Ap]
abbrev Bl:=Int×Int×Int×(zn×zn×zn)
structure OkB(b:Bl)(M K:Nat)(seed:Int)(p0 p1 p2:Nat->Bool):Prop where
 m:b.1=(M:Int)
 k:b.2.1=(K:Int)
 s:b.2.2.1=seed
 m1:1<=M/\M<=4194304
 k1:1<=K/\K<=16
 r0:yN b.2.2.2.1 M p0
 r1:yN b.2.2.2.2.1 M p1
 r2:yN b.2.2.2.2.2 M p2
def Bh(p:Nat->Bool)(l:zo):Nat->Bool:=λn=>p n||l.contains n
theorem aiZ(p:Nat->Bool)(l:zo)(n:Nat):(λm=>Bh p l m||m==n)=Bh p (l++[n]):=by unfold Bh;grind
theorem ajx{row:zn}{M:Nat}(h:yN row M p){ps:zo}(hp:∀n∈ps,n<M)(a:M<=4194304)(hl:ps.length<=16)(F:(Bool×Int->zc)->Bool×Int->zc)
  (b:∀k c (i:Nat) n e,ps[i]? =some n->row[n/8]? =some e->F k (c,(i:Int))=k (c&&Od e (n%8),((i+1:Nat):Int))) (d:∀k c,F k (c,(ps.length:Int))=some c):ao F ax (true,0)=some (ps.all p):=by
 refine vA (λi=>((ps.take i).all p,(i:Int))) ps.length (by simp) (by omega) (λi hi k=>?_) (λk=>by grind);obtain ⟨e,g,f,_⟩:=h.get (hp _ (eF hi));grind [List.take_add_one]
theorem aiD{row:zn}{M:Nat}(h:yN row M p){ps:zo}(hp:∀n∈ps,n<M)(q:M<=4194304)(hl:ps.length<=16):∃a,ao (nP (ps.map λn:Nat=>(n:Int))) ax (row,0)=some a/\yN a M (Bh p ps):=by
 have key:∀(d i:Nat) (r:zn) (m:Nat),i+d=ps.length->d<m->yN r M (Bh p (ps.take i))->∃a,ao (nP (ps.map λn:Nat=>(n))) m (r,(i))=some a/\yN a M (Bh p ps):=by
  intro d
  induction d with
  |zero=>
   intro i r m hi hm g;obtain ⟨m,rfl⟩:∃k,m=k+1:=⟨m-1,by omega⟩;simp_all [au,nP,nJ]
  |succ d ih=>
   intro i r m hi hm g;obtain ⟨m,rfl⟩:∃k,m=k+1:=⟨m-1,by omega⟩;rw [au];have b:i<ps.length:=by omega
   have hn:=b9 b;have c:=hp _ (eF b);obtain ⟨e,o,_⟩:=g.get c;have f:=g.set c o;rw [aiZ] at f;obtain ⟨a,l,j⟩:=ih (i+1) (r.set (ps[i]/8) (tX .u8 e (kX .u8 1 ((ps[i]%8:Nat))))) m (by omega) (by omega) (by simp_all);refine ⟨a,?_,j⟩;rw [<-l];unfold nP;dsimp only;rw [qb,pg b,cp,ed,qL,hn,og,ah,show Int.tdiv ((ps[i]:Nat)) 8=((ps[i]/8:Nat)) from rfl,bR (by omega),fR o,ah,show Int.tmod ((ps[i]:Nat)) 8=((ps[i]%8:Nat)) from rfl,aN (cy (by omega)),lk,nx (by omega)]
 obtain ⟨a,l,j⟩:=key ps.length 0 row ax (by omega) (by show ps.length<2^64;omega) (by
  have:Bh p (ps.take 0)=p:=by funext n;simp [Bh]
  rw [this];exact h)
 grind
variable {b : Bl} {M K : Nat} {seed : Int} {p0 p1 p2 : Nat -> Bool}
theorem acQ(key:zn)(seed:Int)(K M:Nat):(Ap key seed K M).length=K:=by simp [Ap]
theorem OkB.pl(h:OkB b M K seed p0 p1 p2){key:zn}(hk:Key key):nn key b.2.2.1 b.2.1 b.1=some ((Ap key seed K M).map λn:Nat=>(n:Int)):=by rw [h.m,h.k,h.s];exact agJ hk.short seed h.k1.2 (by have:=h.m1;omega) (by have:=h.m1;omega)
theorem amv(h:OkB b M K seed p0 p1 p2){key:zn}(hk:Key key):uD b key=some ((Ap key seed K M).all p0):=by
 have hm:=h.m1;have hl:=acQ key seed K M;have f:=h.k1;unfold uD Oa J1;rw [h.pl hk,ah];rw [ajx (ps:=Ap key seed K M) h.r0 (WU (by omega)) hm.2 (by omega) _ (λk c i n e hn d=>?_) (λk c=>?_),ah,ah]
 .have a:=WU (by omega) n (gr hn);have:=uZ hn;unfold Cv;simp only [aV];rw [qb,pg (uZ hn),cp,ed,qL,hn,og,ah,show Int.tdiv ((n:Nat)) 8=((n/8:Nat)) from rfl,bR (by omega),fR d,ah,show Int.tmod ((n:Nat)) 8=((n%8:Nat)) from rfl,aN (cy (by omega)),nx (by omega)];rfl
 simp_all [Cv,nJ]
theorem amC(h:OkB b M K seed p0 p1 p2){key:zn}(hk:Key key):∃b',y5 b key=some (b',!(Ap key seed K M).all p0)/\OkB b' M K seed (Bh p0 (Ap key seed K M)) p1 p2:=by
 have hm:=h.m1;have hl:=acQ key seed K M;have e:=h.k1;unfold y5;rw [amv h hk,ah];cases ha:(Ap key seed K M).all p0
 .obtain ⟨a,d,c⟩:=aiD h.r0 (WU (by omega)) hm.2 (by omega) (ps:=Ap key seed K M);unfold Oj xk;rw [ca,BW (by rw [h.r0.len];omega),ah];rw [h.pl hk,ah,d,ah,ah];exact ⟨_,rfl,⟨h.m,h.k,h.s,h.m1,h.k1,c,h.r1,h.r2⟩⟩
 .have:Bh p0 (Ap key seed K M)=p0:=by
   funext n
   simp_all [Bh,qo]
  grind
structure OkL(t:St)(s:List Fd)(M K:Nat)(seed:Int)(p0 p1 p2:Nat->Bool):Prop where
 sch:t.2.1=s
 kind:t.1=4
 ok:OkB t.2.2.2.2.2.2.2 M K seed p0 p1 p2
def plS(s:List Fd)(v:zn)(seed:Int)(K M:Nat):zo:=Ap (enc s v) seed K M
def aj4(s:List Fd)(v:zn)(seed:Int)(K M:Nat)(p0:Nat->Bool):Bool:=(plS s v seed K M).all p0
variable {s : List Fd} {t : St}
theorem ame(c:jJ s)(h:OkL t s M K seed p0 p1 p2)(v:zn)(hl:v.length<100000000):
  ∃t',dz t v=some (t',if sZ s v=0 then (!aj4 s v seed K M p0,0) else (false,sZ s v))/\OkL t' s M K seed (if sZ s v=0 then Bh p0 (plS s v seed K M) else p0) p1 p2:=by
 by_cases a:sZ s v=0
 .have b:=pG.1 a;rw [du a,du a,(WS (in0 c h.sch b)).2.2.2.2 h.kind];unfold ky;obtain ⟨f,e,d⟩:=amC h.ok (G7 c b);rw [Kt c h.sch b,ah,e,ah];exact ⟨_,rfl,⟨h.sch,h.kind,d⟩⟩
 .rw [df a,df a];unfold dz;rw [h.sch,yY s v hl,ah,show (sZ s v != 0)=true by simpa using a,cp];exact ⟨t,rfl,h⟩
end So
theorem Hf(e:Ex):1<=e.sz:=by rw [Ex.aj6];omega
theorem afB{x:Ex}:∀{l:List Ex},x∈l->x.sz<=EJ l
 |y::l,h=>by
  simp [EJ];rcases List.mem_cons.1 h with rfl|h
  .omega
  .have:=afB h;omega
theorem ab5:∀(l:List Ex),l.length<=EJ l
 |[]=>c8 _
 |x::l=>by have:=ab5 l;grind [Hf,EJ,List.length_cons]
theorem Is{e x:Ex}(h:x∈e.l):x.sz<e.sz:=by have:=afB h;rw [Ex.aj6 e];omega
theorem af4(e:Ex):e.l.length<e.sz:=by grind [ab5,Ex.aj6]
theorem ah(x:α)(k:α->Option ρ):(some x).bind k=k x:=rfl
theorem aV(x:α)(k:α->Option ρ):ai x k=k x:=rfl
theorem dw(d:α)(m:Option α)(k:α->Option ρ):bF true d m k=m.bind k:=rfl
theorem lP(d:α)(m:Option α)(k:α->Option ρ):bF false d m k=k d:=rfl
theorem yS{l pre r:List Ex}{x:Ex}(h:l=pre++x::r):idx l (pre.length:Int)=some x:=by subst h;simp [idx]
theorem wc{n:Nat}(h:n<4611686018427387904):i64.wrap ((n:Int)+1)=((n+1:Nat):Int):=by grind [bR]
theorem pg{l pre r:List Ex}{x:Ex}(h:l=pre++x::r):decide ((pre.length:Int)<(l.length:Int))=true:=by subst h;simp;omega
theorem AO{l pre:List Ex}(h:l=pre++[]):decide ((pre.length:Int)<(l.length:Int))=false:=by subst h;simp
def apR(op a:Int)(i b t:Bool):Int×Int×Int:=
 bif decide (op<=6)&&i then (1,0,0)
 else bif decide (6<op)&&decide (op<=12)&&i||op==13||op==14||decide (15<=op)&&decide (op<=19)&&b then (2,0,0)
 else bif decide (15<=op)&&t then (3,0,0) else (0,4,a)
mutual
def ty:Ex->Int×Int×Int
 | .mk op _ a l=>tyA op a l true true true
def tyA(op a:Int):List Ex->Bool->Bool->Bool->Int×Int×Int
 |[],i,b,t=>apR op a i b t
 |x::r,i,b,t=>bif (ty x).2.1 != 0 then (0,(ty x).2.1,(ty x).2.2) else tyA op a r (i&&(ty x).1==1) (b&&(ty x).1==2) (t&&(ty x).1 != 1)
end
def p6(op:Int):Int:=bif op==1||op==2||op==13||op==14 then 0 else bif op==6||op==15||op==20||op==21||op==22 then 1 else 2
def xM(op n len want vars:Int):Bool:=
 !(decide (op<1)||decide (24<op)||len != want)&& !((op==1)&&(decide (n<0)||decide (1073741824<n))||(op==2)&&(decide (n<0)||decide (vars<=n))||decide (2<op)&&n != 0)
mutual
def jy(vars:Int):Ex->Bool
 | .mk op n _ l=>xM op n (l.length:Int) (p6 op) vars&&CE vars l
def CE(vars:Int):List Ex->Bool
 |[]=>true
 |x::r=>jy vars x&&CE vars r
end
theorem abT(a:Int)(e:Ex):jy a e=(xM e.op e.n (e.l.length:Int) (p6 e.op) a&&CE a e.l):=by cases e;simp [jy,Ex.op,Ex.n,Ex.l]
def tr(b:Bool):Int:=bif b then 1 else 0
def NN(op n:Int)(v:zn)(a b:Int):Int:=
 bif op==1 then n else bif op==2 then (bif decide (n<0)||decide ((v.length:Int)<=n) then 0 else v.getD n.toNat 0)
 else bif op==3 then i64.wrap (a+b) else bif op==5 then i64.wrap (a*b) else bif op==6 then i64.wrap (0-a) else bif op==4 then i64.wrap (a-b)
 else bif op==8 then tr ((a==b) != true) else bif op==7 then tr ((a==b) != false) else bif op==19 then tr ((a==b) != false)
 else bif op==12 then tr (decide (a<b) != true) else bif op==9 then tr (decide (a<b) != false) else bif op==11 then tr (decide (a<=b) != true) else bif op==10 then tr (decide (a<=b) != false)
 else bif op==13 then 1 else bif op==15 then i64.wrap (1-a) else bif op==16 then i64.wrap (a*b) else bif op==17 then max a b else bif op==18 then max (i64.wrap (1-a)) b else 0
mutual
def ev(v:zn):Ex->Int
 | .mk op n _ l=>NN op n v (Bk v l) (C9 v l)
def Bk(v:zn):List Ex->Int
 |[]=>0
 |x::_=>ev v x
def C9(v:zn):List Ex->Int
 |[]=>0
 |_::r=>Bk v r
end
theorem ae3(v:zn)(e:Ex):ev v e=NN e.op e.n v (Bk v e.l) (C9 v e.l):=by cases e;simp [ev,Ex.op,Ex.n,Ex.l]
def L3(op a len i b t:Int):Int×Int×Int:=
 bif decide (op<=6)&&(i==len) then (1,0,0)
 else bif decide (7<=op)&&decide (op<=12)&&(i==len)||op==13||op==14 then (2,0,0)
 else bif decide (15<=op)&&decide (op<=19)&&(b==len) then (2,0,0)
 else bif decide (15<=op)&&(b+t==len) then (3,0,0) else (0,4,a)
mutual
def rt:Ex->Int×Int×Int
 | .mk op _ a l=>rP op a (l.length:Int) l 0 0 0
def rP(op a len:Int):List Ex->Int->Int->Int->Int×Int×Int
 |[],i,b,t=>L3 op a len i b t
 |x::r,i,b,t=>bif (rt x).2.1 != 0 then (0,(rt x).2.1,(rt x).2.2) else rP op a len r (bif (rt x).1==1 then i+1 else i) (bif (rt x).1==2 then b+1 else b) (bif (rt x).1==3 then t+1 else t)
end
theorem rt_eq(e:Ex):rt e=rP e.op e.at_ (e.l.length:Int) e.l 0 0 0:=by cases e;simp [rt,Ex.op,Ex.at_,Ex.l]
theorem abx(g:Bool)(d v:α)(k:α->Option ρ):bF g d (some v) k=k (bif g then v else d):=by cases g <;> rfl
theorem Mm(op a len:Int):∀(l:List Ex) (i b t:Int),(rP op a len l i b t).1=2->7<=op/\op<=19
 |[],i,b,t,h=>by
  simp [rP,L3] at h;grind
 |x::r,i,b,t,h=>by
  simp [rP] at h;cases c:((rt x).2.1 != 0)
  .rw [c] at h;exact Mm op a len r _ _ _ h
  grind
theorem XC(op a len:Int)(e:15<=op)(d:op<=19):∀(l:List Ex) (i b t:Int),b+l.length<len->(rP op a len l i b t).1≠2
 |[],i,b,t,hb,h=>by
  simp [rP,L3] at h;grind
 |x::r,i,b,t,hb,h=>by
  simp [rP] at h;cases c:((rt x).2.1 != 0)
  .rw [c] at h;refine XC op a len e d r _ _ _ ?_ h;grind
  grind
theorem Mk(op a len:Int)(e:15<=op)(d:op<=19):∀(l:List Ex) (i b t:Int),b+l.length<=len->(rP op a len l i b t).1=2->∀x∈l,(rt x).1=2/\(rt x).2.1=0
 |[],_,_,_,_,_,x,hx=>by cases hx
 |y::r,i,b,t,hb,h,x,hx=>by
  simp [rP] at h;cases c:((rt y).2.1 != 0)
  .rw [c] at h;cases f:((rt y).1==2)
   .exact absurd h (XC op a len e d r _ _ _ (by grind))
   .rcases List.mem_cons.1 hx with rfl|hx
    .grind
    .exact Mk op a len e d r _ _ _ (by grind) h x hx
  grind
theorem O5(b:Bool):tr b=0\/tr b=1:=by cases b;exact .inl rfl;exact .inr rfl
theorem aoV(v:zn){l:List Ex}(h:∀x∈l,ev v x=0\/ev v x=1):(Bk v l=0\/Bk v l=1)/\(C9 v l=0\/C9 v l=1):=by
 match l,h with
 |[],_=>grind [Bk,C9]
 |[x],h=>grind [Bk,C9]
 |x::y::r,h=>grind [Bk,C9]
theorem aqd(op n:Int)(v:zn)(a b:Int)(e:7<=op)(d:op<=19)(c:15<=op->(a=0\/a=1)/\(b=0\/b=1)):NN op n v a b=0\/NN op n v a b=1:=by
 have:op=7\/op=8\/op=9\/op=10\/op=11\/op=12\/op=13\/op=14\/op=15\/op=16\/op=17\/op=18\/op=19:=by omega
 rcases this with rfl|rfl|rfl|rfl|rfl|rfl|rfl|rfl|rfl|rfl|rfl|rfl|rfl
 .exact O5 _
 .exact O5 _
 .exact O5 _
 .exact O5 _
 .exact O5 _
 .exact O5 _
 .exact .inr rfl
 .exact .inl rfl
 .obtain ⟨ha,_⟩:=c (by omega);rcases ha with rfl|rfl
  .exact .inr rfl
  .exact .inl rfl
 .obtain ⟨ha,hb⟩:=c (by omega);rcases ha with rfl|rfl <;> rcases hb with rfl|rfl
  .exact .inl rfl
  .exact .inl rfl
  .exact .inl rfl
  .exact .inr rfl
 .obtain ⟨ha,hb⟩:=c (by omega);rcases ha with rfl|rfl <;> rcases hb with rfl|rfl
  .exact .inl rfl
  .exact .inr rfl
  .exact .inr rfl
  .exact .inr rfl
 .obtain ⟨ha,hb⟩:=c (by omega);rcases ha with rfl|rfl <;> rcases hb with rfl|rfl
  .exact .inr rfl
  .exact .inr rfl
  .exact .inl rfl
  .exact .inr rfl
 .exact O5 _
theorem an1(v:zn):∀(N:Nat) (e:Ex),e.sz<=N->(rt e).1=2->ev v e=0\/ev v e=1:=by
 intro N
 induction N with
 |zero=>grind [Hf]
 |succ N ih=>
  intro e h b;rw [rt_eq] at b;obtain ⟨d,a⟩:=Mm _ _ _ _ _ _ _ b;rw [ae3];refine aqd _ _ _ _ _ d a (λc=>aoV v (λx hx=>?_));have:=Mk _ _ _ c a _ _ _ _ (by omega) b x hx;exact ih x (by have:=Is hx;omega) this.1
theorem Kg{a:Int}{e:Ex}(h:jy a e=true):(1<=e.op/\e.op<=24)/\(e.l.length:Int)=p6 e.op/\(e.op=1->0<=e.n/\e.n<=1073741824)/\(e.op=2->0<=e.n/\e.n<a)/\∀x∈e.l,jy a x=true:=by
 rw [abT] at h;simp [xM,an,nA,n9,q6,bne_eq_false_iff_eq,Bool.and_eq_false_imp,n4] at h;obtain ⟨⟨⟨⟨i,g⟩,c⟩,⟨f,d⟩,_⟩,b⟩:=h;refine ⟨by omega,c,λh=>by omega,λh=>by omega,?_⟩;have:∀(l:List Ex),CE a l=true->∀x∈l,jy a x=true:=λl=>by
  induction l with
  |nil=>intro _ x hx;cases hx
  |cons y r ih=>
   intro h x hx;simp [CE] at h;grind
 exact this _ b
theorem ab0(op a len:Int)(c:op<=12):∀(l:List Ex) (i b t:Int),i+l.length<len->(rP op a len l i b t).1=0
 |[],i,b,t,hb=>by
  simp [rP,L3];grind
 |x::r,i,b,t,hb=>by
  simp [rP];cases ((rt x).2.1 != 0)
  .refine ab0 op a len c r _ _ _ ?_;grind
  .rfl
theorem W8(op a len:Int)(d:op<=12):∀(l:List Ex) (i b t:Int),i+l.length<=len->(rP op a len l i b t).1≠0->∀x∈l,(rt x).1=1
 |[],_,_,_,_,_,x,hx=>by cases hx
 |y::r,i,b,t,hb,h,x,hx=>by
  simp [rP] at h;cases c:((rt y).2.1 != 0)
  .rw [c] at h;cases e:((rt y).1==1)
   .exact absurd (ab0 op a len d r _ _ _ (by grind)) h
   .rcases List.mem_cons.1 hx with rfl|hx
    .simpa using e
    .exact W8 op a len d r _ _ _ (by grind) h x hx
  grind
theorem SB(op a len:Int):∀(l:List Ex) (i b t:Int),(rP op a len l i b t).1=1->op<=6
 |[],i,b,t,h=>by
  simp [rP,L3] at h;grind
 |x::r,i,b,t,h=>by
  simp [rP] at h;cases c:((rt x).2.1 != 0)
  .rw [c] at h;exact SB op a len r _ _ _ h
  grind
theorem aav{a:Int}{e:Ex}(hm:jy a e=true)(h:(rt e).1=1\/(rt e).1=2):∀x∈e.l,(rt x).1=1\/(rt x).1=2:=by
 intro x hx;obtain ⟨_,g,_⟩:=Kg hm;rw [rt_eq] at h;by_cases d:e.op<=12
 .exact .inl (W8 e.op e.at_ (e.l.length) d e.l 0 0 0 (by omega) (by grind) x hx)
 .have f:(rP e.op e.at_ (e.l.length) e.l 0 0 0).1=2:=by
   rcases h with h|h
   .have:=SB _ _ _ _ _ _ _ h;omega
   .exact h
  have b:=Mm _ _ _ _ _ _ _ f;by_cases c:15<=e.op
  .exact .inr (Mk _ _ _ c b.2 _ _ _ _ (by omega) f x hx).1
  grind [p6,List.eq_nil_of_length_eq_zero]
end
end Go.Proofs.YtcgihjbfppkcfaaGreatDoor
