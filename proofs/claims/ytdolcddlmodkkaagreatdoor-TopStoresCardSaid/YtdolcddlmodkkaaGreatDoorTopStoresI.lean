/- Own texts for TopStores, cut and joined by a program. -/
import Derived.Test.YtdolcddlmodkkaaGreatDoorTopStoresH
set_option linter.all false
namespace Go.Proofs.YtdolcddlmodkkaaGreatDoor
open IntKind (i64 u32 u64 u8)
noncomputable section
open Go.Proofs
noncomputable section
set_option maxRecDepth 100000
open Tryz
def Ft:au:=⟨5,[fF,aq,(.sli Ur)],.bool,[],U3 jQ⟩
theorem BU:Ko Ft:=
 ay (.c .o (.l ⟨[(false,9,aq)],[]⟩ (.c (.c .o (.c .o (.r [30000,20012] (.l ⟨[(true,10,akj),(true,12,(.bx 79 0 true [fF,aq,xC,(.sli (.p .bo .bo))])),(false,14,aq)],[]⟩ (.c (.c .o (.j ⟨[(true,10,akj),(true,12,(.bx 79 0 true [fF,aq,xC,(.sli (.p .bo .bo))]))],[]⟩ (.c (.r [40000] (.r [40000] .o)) (.r [40000] (.r [40000] .o))) (.l ⟨[(false,25,aq)],[]⟩ .o))) .o))))) .o))) call5 func5 (al Iz (al EI (al tM (al Hr (al RN (al CQ (al I8 (al Ir (al uE (al C3 (al Jt (al Ih ao))))))))))))
end
variable {v : zB} {α ρ : Type}
namespace So
theorem an(x:α)(k:α->Option ρ):(some x).bind k=k x:=id rfl
theorem cR(x:α)(k:α->Option ρ):aj x k=k x:=id rfl
theorem bQ{c:Bool}(h:c=true)(k:Option ρ):aJ c k=k:=by rw [h];rfl
theorem fk(d:α)(m:Option α)(k:α->Option ρ):bm true d m k=m.bind k:=id rfl
theorem gU(d:α)(m:Option α)(k:α->Option ρ):bm false d m k=k d:=id rfl
theorem Dj(xs:List α)(k:Nat):idx xs (k:Int)=xs[k]? :=by simp [idx]
theorem dU{α:Type}{xs:List α}{k:Nat}(h:k<xs.length):idx xs (k:Int)=some xs[k]:=by rw [Dj,aT h]
theorem eT{α:Type}{xs:List α}{k:Nat}{x:α}(h:xs[k]? =some x):idx xs (k:Int)=some x:=by rw [Dj,h]
theorem K6{xs:List α}{x:α}(h:xs[0]? =some x):idx xs 0=some x:=eT (k:=0) h
theorem lR{k n:Nat}(h:k<n):decide ((k:Int)<(n:Int))=true:=cu (by omega)
theorem pd{k n:Nat}(h:¬k<n):decide ((k:Int)<(n:Int))=false:=cM (by omega)
theorem nx{n:Nat}(h:n<9223372036854775807):i64.wrap ((n:Int)+1)=((n+1:Nat):Int):=by rw [dP (by omega)];omega
theorem dH{k b:Nat}(h:k*b<=140737488355328)(a:k<=9223372036854775807):aH k b=true:=by simp only [aH,ah];exact ⟨qc h,qc a⟩
theorem auW{σ ρ:Type}{F:(σ->Option ρ)->σ->Option ρ}(f:Nat->σ){r:Option ρ}(n:Nat)(a:∀i,i<n->∀k,F k (f i)=k (f (i+1)))(b:∀k,F k (f n)=r):
  ∀(d i M:Nat),i+d=n->d<M->ax F M (f i)=r
 |0,i,M,h,hM=>by
  obtain ⟨m,rfl⟩:∃m,M=m+1:=⟨M-1,by omega⟩;rw [bF,show i=n by omega];exact b _
 |d+1,i,M,h,hM=>by obtain ⟨m,rfl⟩:∃m,M=m+1:=⟨M-1,by omega⟩;rw [bF,a i (by omega)];exact auW f n a b d (i+1) m (by omega) (by omega)
theorem yT{σ:Type}{F:(σ->Option ρ)->σ->Option ρ}(f:Nat->σ){r:Option ρ}(n:Nat){s:σ}(c:s=f 0)(d:n<9223372036854775807)(a:∀i,i<n->∀k,F k (f i)=k (f (i+1)))(b:∀k,F k (f n)=r):
  ax F aA s=r:=by
 rw [c];exact auW f n a b n 0 aA (by omega) (by show n<2^64;omega)
theorem V2(p:Nat->Bool):∀n,(∃i,i<n/\p i=true/\∀j,j<i->p j=false)\/∀j,j<n->p j=false
 |0=> .inr λj h=>by omega
 |n+1=>by
  rcases V2 p n with ⟨i,d,b,a⟩|h
  .exact .inl ⟨i,by omega,b,a⟩
  .cases hp:p n
   .refine .inr λj c=>?_;by_cases e:j=n
    .rw [e];exact hp
    .exact h j (by omega)
   .exact .inl ⟨n,by omega,hp,h⟩
theorem findF{σ:Type}{F:(σ->Option ρ)->σ->Option ρ}(f:Nat->σ)(p:Nat->Bool){r:Nat->Option ρ}(n:Nat){s:σ}(g:s=f 0)(l:n<9223372036854775807)
  (b:∀i,i<n->p i=false->∀k,F k (f i)=k (f (i+1))) (hx:∀i,i<n->p i=true->∀k,F k (f i)=r i) (m:∀k,F k (f n)=r n):
  (∃i,i<n/\p i=true/\(∀j,j<i->p j=false)/\ax F aA s=r i)\/((∀j,j<n->p j=false)/\ax F aA s=r n):=by
 rcases V2 p n with ⟨i,e,d,c⟩|h
 .exact .inl ⟨i,e,d,c,yT f i g (by omega) (λj a=>b j (by omega) (c j a)) (hx i e d)⟩
 .exact .inr ⟨h,yT f n g l (λj a=>b j a (h j a)) m⟩
abbrev Fd:=Int×Int
def uT(f:Fd):Bool:=decide (-1073741824<=f.1)&&decide (f.2<=1073741824)&&decide (f.1<=f.2)&&decide (f.2-f.1<=65535)
def rX(s:List Fd):Bool:=decide (1<=s.length)&&decide (s.length<=17)&&s.all uT
structure ij(s:List Fd):Prop where
 pos:1<=s.length
 few:s.length<=17
 each:∀f∈s,-1073741824<=f.1/\f.2<=1073741824/\f.1<=f.2/\f.2-f.1<=65535
theorem GR{s:List Fd}:rX s=true↔ij s:=by
 simp only [rX,uT,ah,j6,qw];constructor
 .rintro ⟨⟨d,c⟩,b⟩;exact ⟨d,c,λf a=>by have:=b f a;omega⟩
 .rintro ⟨d,c,b⟩;exact ⟨⟨d,c⟩,λf a=>by have:=b f a;omega⟩
abbrev I64(n:Int):Prop:= -9223372036854775808<=n/\n<=9223372036854775807
abbrev FI(s:List Fd):Prop:= ∀f∈s,I64 f.1/\I64 f.2
theorem amT{f:Fd}(b:I64 f.1)(a:I64 f.2):mI f=some (uT f):=by
 unfold mI uT;simp only [cR,cH];rw [qh];simp only [ah,gj,qy,j6,decide_eq_false_iff_not];by_cases h:f.1< -1073741824\/1073741824<f.2
 .omega
 .by_cases c:f.1<=f.2
  .rw [dP (by omega)];omega
  .omega
theorem ahe{d:α}{s:List Fd}{g:Fd->α}(F:(List α×Int->Option (List α))->List α×Int->Option (List α))(a:∀i (hi:i<s.length) (k:List α×Int->Option (List α)) (l:List α),i<l.length->F k (l,(i:Int))=k (l.set i (g s[i]),((i+1:Nat):Int)))
  (b:∀(k:List α×Int->Option (List α)) (l:List α),F k (l,(s.length:Int))=some l) (c:s.length<4611686018427387904):ax F aA (List.replicate (Int.toNat (s.length:Int)) d,0)=some (s.map g):=by
 refine yT (λi=>((s.take i).map g++List.replicate (s.length-i) d,(i:Int))) s.length (by simp) (by omega) (λi hi k=>?_) (λk=>?_)
 .rw [a i hi k _ (by simp only [cO,qi,b9,y2];omega)];refine congrArg k (Prod.ext ?_ rfl);show List.set _ i _=_;rw [List.set_append,cx (by rw [qi,b9];omega)];rw [show s.length-i=(s.length-(i+1))+1 by omega,qM];rw [show i-((s.take i).map g).length=0 by rw [qi,b9];omega,List.set_cons_zero,qL,q0,aT hi];simp
 .rw [b];simp
theorem agV{s:List Fd}(a:FI s)(c:s.length<100000000):oP s=some (s.map uT):=by
 unfold oP;rw [bQ (cu (by omega)),bQ (dH (by simp;omega) (by simp;omega))];refine ahe (d:=false) _ (λi hi k l b=>?_) (λk l=>?_) (by omega)
 .have:=a s[i] (j0 hi);simp only [rC,lR hi,cr,dU hi,an,amT this.1 this.2,dU b,nx (show i<9223372036854775807 by omega),e9]
 .simp only [rC,pd (l9 _),aZ]
theorem contains_eq{l:zA}(g:l.length<100000000)(b:Bool):dY l b=some (l.contains b):=by
 unfold dY mY;refine (findF (F:=fB l b) (λi=>(i:Int)) (λi=>l[i]? ==some b) (r:=λi=>if i<l.length then some (i:Int) else some (-1)) l.length (s:=0) rfl (by omega) (λi hi hp k=>?_) (λi hi hp k=>?_) (λk=>?_)).elim (λ⟨i,a,d,j,c⟩=>?_) (λ⟨a,c⟩=>?_)
 .simp only [fB,lR hi,cr,dU hi,an,nx (show i<9223372036854775807 by omega)];rw [aT hi] at hp;have:(b==l[i])=false:=by simp at hp ⊢; exact λe=>hp e.symm
  rw [this,aZ]
 .simp only [fB,lR hi,cr,dU hi,an,cN hi];rw [aT hi] at hp;have:(b==l[i])=true:=by simp at hp ⊢; exact hp.symm
  rw [this,cr]
 .simp only [fB,pd (l9 _),aZ,cx (l9 _)]
 .rw [c,cN a,an,cu (by omega)];rw [aT a] at d;have:l[i]=b:=by simpa using d
  rw [<-this,List.contains_iff_mem.2 (j0 a)]
 .rw [c,cx (by omega),an,cM (by omega)];have:¬b∈l:=λf=>by obtain ⟨i,hi,e⟩:=qq f;have:=a i hi;rw [aT hi,e] at this;simp at this
  rw [show l.contains b=false by rw [<-qU];exact λh=>this (List.contains_iff_mem.1 h)]
theorem agv{s:List Fd}(a:FI s):s7 s=some (rX s):=by
 unfold s7 rX;simp only [cR];by_cases h:1<=s.length/\s.length<=17
 .rw [cu (show (1:Int)<=s.length by omega),cu (show (s.length:Int)<=17 by omega),cu h.1,cu h.2,Bool.and_self,fk,agV a (by omega),an,fk,contains_eq (by simp;omega),an];simp only [qm,cH];rw [qh];simp
 .have e:(decide ((1:Int)<=(s.length:Int))&&decide ((s.length:Int)<=17))=false:=by rw [<-qU,ah,j6,j6];omega
  have e':(decide (1<=s.length)&&decide (s.length<=17))=false:=by rw [<-qU,ah,j6,j6];omega
  rw [e,e',gU,gU,q6,q6]
def wG(s:List Fd)(v:zB):Bool:=(List.zip s v).all λp=>decide (p.1.1<=p.2)&&decide (p.2<=p.1.2)
def nE(s:List Fd)(v:zB):Int:=if v.length=s.length then (if wG s v=true then 0 else 5) else 1
structure In(s:List Fd)(v:zB):Prop where
 len:v.length=s.length
 each:∀i (h:i<s.length),s[i].1<=v[i]/\v[i]<=s[i].2
theorem pR{s:List Fd}(b:v.length=s.length):wG s v=true↔In s v:=by
 simp only [wG,qw,ah,j6];constructor
 .intro h;refine ⟨b,λi hi=>?_⟩;exact h (s[i],v[i]) (List.mem_iff_getElem.2 ⟨i,by simp;omega,by simp⟩)
 .rintro ⟨_,h⟩ ⟨f,n⟩ a;obtain ⟨i,hi,e⟩:=List.mem_iff_getElem.1 a;simp at hi e;have:=h i (by omega);rw [e.1,e.2] at this;exact this
theorem oQ{s:List Fd}:nE s v=0↔In s v:=by
 unfold nE;by_cases a:v.length=s.length
 .rw [cN a];by_cases h:wG s v=true
  .rw [cN h];exact ⟨λ_=>(pR a).1 h,λ_=>rfl⟩
  .rw [cx h];exact ⟨λh=>by omega,λb=>absurd ((pR a).2 b) h⟩
 .rw [cx a];exact ⟨λh=>by omega,λh=>absurd h.len a⟩
theorem agQ{s:List Fd}(a:v.length=s.length)(i:Nat)(hi:i<s.length)(h:¬(s[i].1<=v[i]/\v[i]<=s[i].2)):nE s v=5:=by unfold nE;rw [cN a,cx (λb=>h (((pR a).1 b).each i hi))]
theorem u5(s:List Fd)(v:zB)(f:v.length<100000000):dB s v=some (nE s v):=by
 unfold dB;by_cases c:v.length=s.length
 .rw [show ((v.length:Int) != (s.length:Int))=false by simp;omega,aZ];have a:∀i,i<v.length->i<s.length:=λi h=>by omega
  refine (findF (F:=ss s v) (λi=>(i:Int)) (λi=>if h:i<v.length then !(decide ((s[i]'(a i h)).1<=v[i])&&decide (v[i]<=(s[i]'(a i h)).2)) else false) (r:=λi=>if i<v.length then some 5 else some 0) v.length (s:=0) rfl (by omega) (λi hi hp k=>?_) (λi hi hp k=>?_) (λk=>?_)).elim (λ⟨i,b,e,g,d⟩=>?_) (λ⟨b,d⟩=>?_)
  .simp only [qz hi,Bool.not_eq_false'] at hp;simp only [ss,j3,cR,lR hi,cr,dU hi,dU (a i hi),an,hp,mN,aZ,nx (show i<9223372036854775807 by omega)]
  .simp only [qz hi,gj] at hp;simp only [ss,j3,cR,lR hi,cr,dU hi,dU (a i hi),an,hp,qo,cN hi]
  .simp only [ss,pd (l9 _),aZ,cx (l9 _)]
  .rw [d,cN b,agQ c i (by omega)];rw [qz b] at e;simp at e;omega
  .rw [d,cx (by omega),oQ.2 ⟨c,λi hi=>?_⟩];have:=b i (by omega);rw [qz (by omega)] at this;simpa using this
 .rw [show ((v.length:Int) != (s.length:Int))=true by simp;omega,cr];unfold nE;rw [cx c]
def bl(n:Nat):Nat:=if n=0 then 0 else bl (n/2)+1
theorem avv(n:Nat):n<2^bl n:=by
 induction n using Nat.strongRecOn with
 |_ n ih=>
  unfold bl;by_cases h:n=0
  .rw [cN h,h];decide
  .rw [cx h,ze];have:=ih (n/2) (by omega);omega
theorem ajZ{n w:Nat}(h:n<2^w):bl n<=w:=by
 induction w generalizing n with
 |zero=>rw [Nat.pow_zero] at h;rw [show n=0 by omega];unfold bl;simp
 |succ w ih=>
  unfold bl;by_cases a:n=0
  .rw [cN a];omega
  .rw [cx a];have:=ih (n:=n/2) (by rw [ze] at h;omega);omega
theorem abU:∀(M n k:Nat),bl n<M->k+bl n<1000->ax E6 M ((n:Int),(k:Int))=some ((k+bl n:Nat):Int)
 |0,_,_,h,_=>by omega
 |M+1,n,k,h,hk=>by
  rw [bF];unfold bl at h hk ⊢;by_cases a:n=0
  .subst a;rfl
  .rw [cx a] at h hk ⊢;have:=abU M (n/2) (k+1) (by omega) (by omega);simp only [E6,cu (show (0:Int)<(n:Int) by omega),cr,nx (show k<9223372036854775807 by omega)];rw [show gT .u64 (n:Int) 1=((n/2:Nat):Int) by show (n:Int)/2^1=_;omega,this]
   congr 2;omega
theorem aaU{n:Nat}(h:n<18446744073709551616):BG (n:Int)=some (bl n:Int):=by unfold BG;have hb:=ajZ (n:=n) (w:=64) (by omega);have:=abU aA n 0 (by show bl n<2^64;omega) (by omega);rw [l7] at this;exact this
def wd(f:Fd):Nat:=bl (f.2-f.1).toNat
theorem arE{f:Fd}(h:f.2-f.1<=65535):wd f<=16:=ajZ (by omega)
theorem span_eq{s:List Fd}(b:ij s){f:Fd}(c:f∈s):jk f=some (wd f:Int):=by have h:=b.each f c;unfold jk;rw [dP (by omega),agu (by omega)];obtain ⟨n,a⟩:=qA (show 0<=f.2-f.1 by omega);rw [a,aaU (by omega),an];unfold wd;rw [a];rfl
structure gz(s:List Fd):Prop where
 few:s.length<=17
 each:∀f∈s,-1073741824<=f.1/\f.2<=1073741824/\f.1<=f.2/\f.2-f.1<=65535
theorem ij.fds{s:List Fd}(h:ij s):gz s:=⟨h.few,h.each⟩
theorem aph{s:List Fd}(b:gz s){f:Fd}(c:f∈s):jk f=some (wd f:Int):=by have h:=b.each f c;unfold jk;rw [dP (by omega),agu (by omega)];obtain ⟨n,a⟩:=qA (show 0<=f.2-f.1 by omega);rw [a,aaU (by omega),an];unfold wd;rw [a];rfl
theorem S4{s:List Fd}(a:gz s):mS s=some (s.map λf=>(wd f:Int)):=by
 have c:=a.few;unfold mS;rw [bQ (cu (by omega)),bQ (dH (by simp;omega) (by simp;omega))];refine ahe (d:=0) _ (λi hi k l b=>?_) (λk l=>?_) (by omega)
 .simp only [sX,lR hi,cr,dU hi,an,aph a (j0 hi),dU b,nx (show i<9223372036854775807 by omega),e9]
 .simp only [sX,pd (l9 _),aZ]
def mg(s:List Fd):Nat:=(s.map wd).sum
theorem Ai{s:List Fd}(a:gz s):mg s<=16*s.length:=by
 have h:=a.each;clear a
 induction s with
 |nil=>simp [mg]
 |cons f s ih=>
  have d:=arE (f:=f) (by have:=h f (by simp);omega);have c:=ih (λg b=>h g (by simp [b]));simp only [mg,er,List.sum_cons,p0] at *; omega
theorem YN{s:List Fd}{i:Nat}(hi:i<s.length):mg (s.take (i+1))=mg (s.take i)+wd s[i]:=by unfold mg;rw [qL,aT hi,q0,List.sum_append];simp
theorem gz.take{s:List Fd}(a:gz s)(i:Nat):gz (s.take i):=⟨by simp;have:=a.few;omega,λf b=>a.each f (sj b)⟩
theorem gz.drop{s:List Fd}(a:gz s)(i:Nat):gz (s.drop i):=⟨by simp;have:=a.few;omega,λf b=>a.each f (qS b)⟩
theorem aty{s:List Fd}(a:gz s):AW s=some (mg s:Int):=by
 unfold AW;rw [S4 a,an];have d:=a.few;refine yT (λi=>((mg (s.take i):Int),(i:Int))) s.length (by simp [mg]) (by omega) (λi hi k=>?_) (λk=>?_)
 .have c:=Ai (a.take (i+1));have b:=YN hi;simp at c;simp only [Ab,qi,lR hi,cr,Dj,np,aT hi,mj,an,nx (show i<9223372036854775807 by omega)];rw [dP (by omega),b];rfl
 .simp only [Ab,qi,pd (l9 _),aZ,List.take_length]
def gh(s:List Fd):Nat:=max 1 ((mg s+7)/8)
theorem agU{s:List Fd}(a:gz s):od s=some (gh s:Int):=by unfold od;have h:=Ai a;have:=a.few;rw [aty a,an,dP (show _/\(mg s:Int)+7<=_ by omega)];rw [show Int.tdiv ((mg s:Int)+7) 8=(((mg s+7)/8:Nat):Int) from rfl,dP (by omega)];unfold gh;congr 1;omega
end So
namespace So
def b8(a b c d e f g h:Bool):Int:=128*a.toNat+64*b.toNat+32*c.toNat+16*d.toNat+8*e.toNat+4*f.toNat+2*g.toNat+h.toNat
def bt(m:zA)(j:Nat):Bool:=m[j]? ==some true
def xI(m:zA):Int:=b8 (bt m 0) (bt m 1) (bt m 2) (bt m 3) (bt m 4) (bt m 5) (bt m 6) (bt m 7)
theorem aog(m:zA):0<=xI m/\xI m<=255:=by
 unfold xI b8;have (b:Bool):b.toNat<=1:=by cases b <;> decide
 have i:=this (bt m 0);have h:=this (bt m 1);have g:=this (bt m 2);have f:=this (bt m 3);have e:=this (bt m 4);have d:=this (bt m 5);have c:=this (bt m 6);have a:=this (bt m 7);omega
theorem abu{m a:zA}(h:∀j,j<8->bt m j=bt a j):xI m=xI a:=by unfold xI;rw [h 0 (by omega),h 1 (by omega),h 2 (by omega),h 3 (by omega),h 4 (by omega),h 5 (by omega),h 6 (by omega),h 7 (by omega)]
theorem atM(a b c d e f g h:Bool):
  decide (b8 a b c d e f g h/128%2=1)=a/\decide (b8 a b c d e f g h/64%2=1)=b/\decide (b8 a b c d e f g h/32%2=1)=c/\decide (b8 a b c d e f g h/16%2=1)=d/\
  decide (b8 a b c d e f g h/8%2=1)=e/\decide (b8 a b c d e f g h/4%2=1)=f/\decide (b8 a b c d e f g h/2%2=1)=g/\decide (b8 a b c d e f g h/1%2=1)=h:=by
 cases a <;> cases b <;> cases c <;> cases d <;> cases e <;> cases f <;> cases g <;> cases h <;> decide
theorem ai0(m:zA)(j:Nat)(i:j<8):decide (xI m/2^(7-j)%2=1)=bt m j:=by
 obtain ⟨h,g,f,e,d,c,b,a⟩:=atM (bt m 0) (bt m 1) (bt m 2) (bt m 3) (bt m 4) (bt m 5) (bt m 6) (bt m 7)
 match j with
 |0=>exact h
 |1=>exact g
 |2=>exact f
 |3=>exact e
 |4=>exact d
 |5=>exact c
 |6=>exact b
 |7=>exact a
 |_+8=>omega
theorem alg:∀m:zA,m.length<8->xI (m++[false])=xI m
 |m,h=>abu λj _=>by
  unfold bt;rw [qI];split
  .rfl
  .rename_i a;rw [cw (show m.length<=j by omega)];by_cases e:j-m.length=0
   .rw [e];rfl
   .rw [cw (by simp;omega)]
theorem al7:∀m:zA,m.length<8->ed .u8 (xI m) (gT .u8 128 (m.length:Int))=xI (m++[true])
 |[],_=>by decide
 |[a],_=>by cases a <;> decide
 |[a,b],_=>by cases a <;> cases b <;> decide
 |[a,b,c],_=>by cases a <;> cases b <;> cases c <;> decide
 |[a,b,c,d],_=>by cases a <;> cases b <;> cases c <;> cases d <;> decide
 |[a,b,c,d,e],_=>by cases a <;> cases b <;> cases c <;> cases d <;> cases e <;> decide
 |[a,b,c,d,e,f],_=>by cases a <;> cases b <;> cases c <;> cases d <;> cases e <;> cases f <;> decide
 |[a,b,c,d,e,f,g],_=>by cases a <;> cases b <;> cases c <;> cases d <;> cases e <;> cases f <;> cases g <;> decide
 |_::_::_::_::_::_::_::_::_,h=>by simp at h;omega
def pk(l:zA):zB:=(List.range ((l.length+7)/8)).map λi=>xI (l.drop (8*i))
theorem mO(l:zA):(pk l).length=(l.length+7)/8:=by simp [pk]
theorem Jh(l:zA)(i:Nat):(pk l)[i]? =if i<(l.length+7)/8 then some (xI (l.drop (8*i))) else none:=by
 unfold pk;by_cases h:i<(l.length+7)/8
 .rw [cN h,np,List.getElem?_range h];rfl
 .rw [cx h,cw (by simp;omega)]
theorem QC(l:zA)(k j:Nat):bt (l.drop k) j=bt l (k+j):=by unfold bt;rw [lk]
theorem asq(l:zA)(b:Bool)(j:Nat)(h:j≠l.length):bt (l++[b]) j=bt l j:=by
 unfold bt;rw [qI];split
 .rfl
 .rw [cw (by simp;omega),cw (by omega)]
theorem atL{l m:zA}(f:l.length=m.length)(h:pk l=pk m):l=m:=by
 refine nc λk=>?_;by_cases c:k<l.length
 .have b:=congrArg (λx=>x[k/8]?) h;simp only [Jh] at b;rw [cN (by omega),cN (by omega)] at b;have d:=du b;have a:=ai0 (l.drop (8*(k/8))) (k%8) (by omega);rw [d,ai0 _ _ (by omega),QC,QC,ua] at a;unfold bt at a;rw [aT c,aT (by omega)] at a ⊢;cases hx:l[k] <;> cases e:m[k] <;> simp_all
 .rw [cw (by omega),cw (by omega)]
abbrev By(l:zB):Prop:= ∀x∈l,0<=x/\x<=255
theorem avp(l:zA):By (pk l):=by intro x hx;simp only [pk,List.mem_map] at hx;obtain ⟨i,_,rfl⟩:=hx;exact aog _
theorem aeX(l:zA)(b:Bool)(i:Nat)(h:8*i+8<=l.length):xI ((l++[b]).drop (8*i))=xI (l.drop (8*i)):=
 abu λj a=>by rw [QC,QC,asq _ _ _ (by omega)]
theorem apE(l:zA)(b:Bool)(h:l.length%8=0):pk (l++[b])=pk l++[xI [b]]:=by
 refine nc λi=>?_;rw [Jh,qI,mO,Jh,cO,qd];by_cases a:i<(l.length+7)/8
 .rw [cN (by omega),cN a,cN a,aeX _ _ _ (by omega)]
 .rw [cx a];by_cases c:i=l.length/8
  .rw [cN (by omega),show i-(l.length+7)/8=0 by omega];rw [rJ,mE (by omega),show 8*i-l.length=0 by omega];rfl
  .rw [cx (by omega),cw (by simp;omega)]
theorem aq4(l:zA)(b:Bool)(h:l.length%8≠0):pk (l++[b])=(pk l).set (l.length/8) (xI (l.drop (8*(l.length/8))++[b])):=by
 refine nc λi=>?_;rw [Jh,qK,mO,Jh,cO,qd];by_cases a:l.length/8=i
 .rw [cN (by omega),cN a,cN (by omega),<-a,List.drop_append_of_le_length (by omega)]
 .rw [cx a];by_cases c:i<(l.length+7)/8
  .rw [cN (by omega),cN c,aeX _ _ _ (by omega)]
  .rw [cx (by omega),cx c]
theorem add_eq(l:zA)(b:Bool)(i:l.length<1000000):xR b (pk l) (l.length:Int)=some (pk (l++[b]),((l.length+1:Nat):Int)):=by
 have g:i64.wrap (Int.tdiv (l.length:Int) 8)=((l.length/8:Nat):Int):=by rw [show Int.tdiv (l.length:Int) 8=((l.length/8:Nat):Int) from rfl,dP (by omega)]
 have e:Int.tmod (l.length:Int) 8=((l.length%8:Nat):Int):=rfl;have f:∀c:zB,c.length=l.length/8+1->c[l.length/8]? =some (xI (l.drop (8*(l.length/8))))->xp b (l.length:Int) c=some (c.set (l.length/8) (xI (l.drop (8*(l.length/8))++[b])),((l.length+1:Nat):Int)):=by
  intro c j d;have a:(l.drop (8*(l.length/8))).length=l.length%8:=by simp;omega
  unfold xp G2;simp only [cR];rw [nx (show l.length<9223372036854775807 by omega)];cases b
  .rw [aZ,alg _ (by omega)];have hi:l.length/8<c.length:=by omega
   rw [aT hi] at d;rw [<-du d,List.set_getElem_self]
  .rw [cr,g,e,eT d,an,bQ (cu (by omega)),an,e9,<-al7 _ (by omega),a]
 unfold xR;simp only [cR];rw [e];by_cases h:l.length%8=0
 .rw [h,show (((0:Nat):Int)==0)=true from rfl,cr,bQ (dH (by simp [mO];omega) (by simp [mO];omega)),f]
  .rw [apE l b h];have:l.length/8=(pk l).length:=by rw [mO];omega
   rw [mE (by omega),this,qR _ _ (b7 _),vb];rfl
  .simp [mO];omega
  .rw [ca (by rw [mO];omega),mO,show l.length/8-(l.length+7)/8=0 by omega,mE (by omega)];rfl
 .rw [show (((l.length%8:Nat):Int)==0)=false by simp;omega,aZ,f]
  .rw [aq4 l b h]
  .rw [mO];omega
  .rw [Jh,cN (by omega)]
def be(n:Nat):Nat->zA
 |0=>[]
 |w+1=>decide (n/2^w%2=1)::be n w
theorem Bb(n:Nat):∀w,(be n w).length=w
 |0=>rfl
 |w+1=>by simp [be,Bb n w]
theorem WH(n:Nat):∀w t,t<w->(be n w)[t]? =some (decide (n/2^(w-1-t)%2=1))
 |0,t,h=>by omega
 |w+1,0,_=>by simp [be]
 |w+1,t+1,h=>by rw [be,c8,WH n w t (by omega)];rw [show w+1-1-(t+1)=w-1-t by omega]
theorem an8{n m:Nat}:∀w,n<2^w->m<2^w->be n w=be m w->n=m
 |0,h1,h2,_=>by simp at h1 h2;omega
 |w+1,h1,h2,h=>by
  simp only [be,nI] at h;have a:∀n w,be (n%2^w) w=be n w:=by
   intro n w;refine nc λt=>?_;by_cases b:t<w
   .rw [WH _ _ _ b,WH _ _ _ b];have:n%2^w/2^(w-1-t)%2=n/2^(w-1-t)%2:=by rw [show 2^w=2^(w-1-t)*2^(t+1) by rw [<-Nat.pow_add];congr 1;omega,Nat.mod_mul_right_div_self];rw [ze,Nat.mul_comm,Nat.mod_mul_right_mod]
    rw [this]
   .rw [cw (by rw [Bb];omega),cw (by rw [Bb];omega)]
  have d:=an8 (n:=n%2^w) (m:=m%2^w) w (qY _ (Nat.two_pow_pos w)) (qY _ (Nat.two_pow_pos w)) (by rw [a,a];exact h.2);have f:n/2^w<2:=Nat.div_lt_of_lt_mul (by rw [ze] at h1;exact h1);have e:m/2^w<2:=Nat.div_lt_of_lt_mul (by rw [ze] at h2;exact h2);have c:n/2^w=m/2^w:=by
   have:=h.1;rw [decide_eq_decide] at this;generalize n/2^w=x at*;generalize m/2^w=y at*;by_cases hx:x%2=1
   .have:=this.1 hx;omega
   .have:=λh=>hx (this.2 h);omega
  rw [<-ua n (2^w),<-ua m (2^w),c,d]
theorem av1{x:Nat}(h:x<18446744073709551616):kb .u64 (x:Int) 1=((x%2:Nat):Int):=by
 unfold kb;rw [BitVec.toNat_and,BitVec.toNat_ofInt,BitVec.toNat_ofInt];rw [show ((x:Int)%((2^u64.bits:Nat):Int)).toNat=x by show ((x:Int)%((18446744073709551616:Nat):Int)).toNat=x;omega]
 rw [show ((1:Int)%((2^u64.bits:Nat):Int)).toNat=1 from rfl,Nat.and_one_is_mod,agu (by omega)]
theorem avu{k:IntKind}(a:k.bits=64)(n i:Nat)(hi:i<64):gT k (n:Int) (i:Int)=((n/2^i:Nat):Int):=by unfold gT;rw [a,e9,et (by omega)];simp
theorem Mq(l:zB)(h:l.length<100000000):uV l=some l:=by unfold uV;rw [bQ (dH (by omega) (by omega))]
theorem auS(l:zA)(n w:Nat)(h:l.length<100000)(f:w<=64)(d:n<2^w):J6 (pk l,(l.length:Int)) (n:Int) (w:Int)=some ((pk (l++be n w),((l.length+w:Nat):Int)),0):=by
 have a:n<18446744073709551616:=gr d (c9 (Nat.pow_le_pow_right (by omega) f) (by decide));have hb:=ajZ d;unfold J6 aaR;simp only [cR];rw [cM (show ¬(w:Int)<0 by omega),cM (show ¬(64:Int)<(w:Int) by omega),q7,aZ,aaU a,an,cM (by omega),aZ,
  Mq _ (by rw [mO];omega),an,an]
 refine yT (λt=>(pk (l++(be n w).take t),((l.length+t:Nat):Int),(w:Int)-1-t)) w (by rw [dP (by omega)];simp) (by omega) (λt g k=>?_) (λk=>?_)
 .have hi:(w:Int)-1-t=((w-1-t:Nat):Int):=by omega
  have b:(l++(be n w).take t).length=l.length+t:=by simp only [cO,b9,Bb];omega
  have e:=add_eq (l++(be n w).take t) (decide (n/2^(w-1-t)%2=1)) (by rw [b];omega);rw [b] at e;have c:(kb .u64 (gT .u64 (n:Int) ((w-1-t:Nat):Int)) 1==1)=decide (n/2^(w-1-t)%2=1):=by rw [avu rfl _ _ (by omega),av1 (Nat.lt_of_le_of_lt (Nat.div_le_self _ _) a),qh,kR,j6];generalize n/2^(w-1-t)=x;omega
  simp only [Hh,hi,cu (show (0:Int)<=((w-1-t:Nat):Int) by omega),cr,c,bQ rfl,e,an];rw [dP (by omega),b0,show List.take t (be n w)++[decide (n/2^(w-1-t)%2=1)]=(be n w).take (t+1) by rw [qL,WH _ _ _ g];rfl]
  congr 3;omega
 .simp only [Hh];rw [cM (by omega),aZ,ei (by rw [Bb];omega)]
def tE(s:List Fd)(v:zB):zA:=(List.zip s v).flatMap λp=>be (p.2-p.1.1).toNat (wd p.1)
theorem LX(f:Fd)(s:List Fd)(n:Int)(v:zB):tE (f::s) (n::v)=be (n-f.1).toNat (wd f)++tE s v:=rfl
theorem wq:∀(s:List Fd) (v:zB),v.length=s.length->(tE s v).length=mg s
 |[],[],_=>rfl
 |f::s,n::v,h=>by
  have:=wq s v (by simpa using h);rw [LX,cO,Bb,this];simp [mg]
 |[],_::_,h=>by simp at h
 |_::_,[],h=>by simp at h
theorem amm{s:List Fd}{i:Nat}(c:i<s.length)(b:i<v.length):tE (s.take (i+1)) (v.take (i+1))=tE (s.take i) (v.take i)++be (v[i]-s[i].1).toNat (wd s[i]):=by
 unfold tE;have a (k:Nat):List.zip (s.take k) (v.take k)=(List.zip s v).take k:=by simp only [List.zip,List.take_zipWith]
 rw [a,a,qL,aT (by simp;omega),List.flatMap_append];simp
theorem afg{s:List Fd}(hi:In s v){i:Nat}(h:i<s.length)(a:i<v.length):(v[i]-s[i].1).toNat<2^wd s[i]:=by
 have:=hi.each i h;have:=avv (s[i].2-s[i].1).toNat
 unfold wd;omega
def enc(s:List Fd)(v:zB):zB:=pk (tE s v)++List.replicate (gh s-(pk (tE s v)).length) 0
theorem v8{s:List Fd}(h:v.length=s.length):(enc s v).length=gh s:=by have:=wq s v h;simp only [enc,cO,y2,mO,this,gh];omega
theorem Wd(s:List Fd)(v:zB):By (enc s v):=by
 intro x hx;rcases List.mem_append.1 hx with h|h
 .exact avp _ x h
 .rw [(List.mem_replicate.1 h).2];omega
theorem aa3:∀{s:List Fd} {v v':zB},In s v->In s v'->tE s v=tE s v'->v=v'
 |[],[],[],_,_,_=>rfl
 |[],_::_,_,h,_,_=>by have:=h.len;simp at this
 |[],_,_::_,_,h,_=>by have:=h.len;simp at this
 |_::_,[],_,h,_,_=>by have:=h.len;simp at this
 |_::_,_,[],_,h,_=>by have:=h.len;simp at this
 |f::s,n::v,n'::v',h,h',e=>by rw [LX,LX] at e;have e':=List.append_inj e (by rw [Bb,Bb]);have g:=h.each 0 (by simp);have d:=h'.each 0 (by simp);have b:=afg h (i:=0) (by simp) (by simp);have a:=afg h' (i:=0) (by simp) (by simp);simp at g d b a;have j:=an8 _ b a e'.1;have c:=aa3 (s:=s) (v:=v) (v':=v') ⟨by have:=h.len;simpa using this,λi hi=>h.each (i+1) (by simp;omega)⟩ ⟨by have:=h'.len;simpa using this,λi hi=>h'.each (i+1) (by simp;omega)⟩ e'.2;rw [c,show n=n' by omega]
theorem ajD{s:List Fd}{v':zB}(h:In s v)(c:In s v')(e:enc s v=enc s v'):v=v':=by have b:=wq s v h.len;have a:=wq s v' c.len;have e':=List.append_inj e (by rw [mO,mO,b,a]);exact aa3 h c (atL (by rw [b,a]) e'.1)
theorem In.take{s:List Fd}(h:In s v)(i:Nat):In (s.take i) (v.take i):=
 ⟨by simp [h.len],λj a=>by simp at a ⊢; exact h.each j (by omega)⟩
theorem In.drop{s:List Fd}(h:In s v)(i:Nat):In (s.drop i) (v.drop i):=
 ⟨by simp [h.len],λj a=>by simp at a ⊢; exact h.each (i+j) (by omega)⟩
theorem Pc{s:List Fd}(b:gz s)(d:In s v):kc s v=some (enc s v,0):=by
 have n:=b.few;have h:=d.len;have m:=Ai b;unfold kc;rw [u5 s v (by omega),oQ.2 d,an,show ((0:Int) != 0)=false from rfl,aZ,S4 b,an];refine yT (λi=>(pk (tE (s.take i) (v.take i)),((mg (s.take i):Nat):Int),(i:Int))) s.length (by simp [mg];rfl) (by omega) (λi hi k=>?_) (λk=>?_)
 .have a:i<v.length:=by omega
  have l:=b.each s[i] (j0 hi);have j:=d.each i hi;have c:=wq (s.take i) (v.take i) (by simp [h]);have e:=Ai (b.take i);have g:=auS (tE (s.take i) (v.take i)) (v[i]-s[i].1).toNat (wd s[i]) (by rw [c];simp at e;omega) (by have:=arE (f:=s[i]) (by omega);omega) (afg d hi a);rw [c,<-amm hi a,<-YN hi] at g;rw [show (((v[i]-s[i].1).toNat:Nat):Int)=v[i]-s[i].1 by omega] at g;simp only [vF,qi,lR hi,cr,Dj,np,aT hi,aT a,mj,an,nx (show i<9223372036854775807 by omega)];rw [dP (by omega),agu (by omega),g,an]
 .simp only [vF,qi,pd (l9 _),aZ,agU b,an,e9];have hb:gh s<=40:=by unfold gh;omega
  rw [bQ (cu (by omega)),bQ (dH (by omega) (by omega)),List.take_length,ei (by omega)];unfold wR enc;have:(pk (tE s v)).length<=gh s:=by rw [mO,wq s v h];unfold gh;omega
  rw [y2,ei this,List.drop_replicate]
end So
variable {K : zi} {m : Nat}
namespace So
theorem abA:∀{x y:zB},By x->By y->strOf x=strOf y->x=y
 |[],[],_,_,_=>rfl
 |[],_::_,_,_,h=>by simp [strOf] at h
 |_::_,[],_,_,h=>by simp [strOf] at h
 |a::x,b::y,hx,hy,h=>by simp only [strOf,er,nI] at h;have f:=hx a (by simp);have hb:=hy b (by simp);have e:=congrArg UInt8.toNat h.1;rw [UInt8.toNat_ofNat',UInt8.toNat_ofNat'] at e;rw [abA (λx d=>hx x (by simp [d])) (λy c=>hy y (by simp [c])) h.2,show a=b by omega]
theorem aee{x y:zB}(hx:By x)(a:By y):uS x y=some (decide (x=y)):=by
 unfold uS;congr 1;by_cases h:x=y
 .rw [h];simp
 .rw [cM h,tt];exact λe=>h (abA hx a e)
def tT(h c:Int):Int:=u64.wrap ((Fb .u64 h (u64.wrap c))*1099511628211)
def EK(b:zB)(seed:Int):Int:=
 let h:=b.foldl tT (Fb .u64 seed 11400714819323198485);let h1:=Fb .u64 h (gT .u64 h 29);let h2:=u64.wrap (h1*13787848793156543929)
 Fb .u64 h2 (gT .u64 h2 32)
theorem amM(x:Int):0<=u64.wrap x/\u64.wrap x<18446744073709551616:=by rw [IntKind.wrap_u64];omega
theorem amO(b:zB)(a:Int):0<=EK b a/\EK b a<18446744073709551616:=amM _
theorem asA(b:zB)(a:Int)(c:b.length<100000000):Al b a=some (EK b a):=by
 unfold Al;refine yT (λi=>((b.take i).foldl tT (Fb .u64 a 11400714819323198485),(i:Int))) b.length rfl (by omega) (λi hi k=>?_) (λk=>?_)
 .simp only [Ib,lR hi,cr,dU hi,an,nx (show i<9223372036854775807 by omega)];rw [qL,aT hi,List.foldl_append];rfl
 .simp only [Ib,pd (l9 _),aZ,Hi,HL,Ha,an,List.take_length];rfl
def home(key:zB)(n:Nat):Nat:=(EK key 0).toNat%n
theorem apU(b:zB)(a:Int){n:Nat}(e:0<n)(f:n<1000000000):wF (EK b a) (n:Int)=some (((EK b a).toNat%n:Nat):Int):=by
 unfold wF;have h:=amO b a;rw [cM (by omega),aZ,agu (by omega),bQ (by simp;omega)];have:Int.tmod (EK b a) (n:Int)=(((EK b a).toNat%n:Nat):Int):=by obtain ⟨m,c⟩:=qA h.1;rw [c];rfl
 have d:=qY (EK b a).toNat e;rw [this,dP (by omega)]
theorem arc{l m:List α}(c:l.Nodup)(h:∀x∈l,x∈m):l.length<=m.length:=by
 classical
 induction l generalizing m with
 |nil=>simp
 |cons x l ih=>
  have hx:=h x (by simp);have b:=List.nodup_cons.1 c;obtain ⟨s,t,rfl⟩:=List.append_of_mem hx;have:=ih (m:=s++t) b.2 λy a=>by
   have:=h y (by simp [a]);simp only [qt,pa] at this ⊢;rcases this with h|rfl|h
   .exact .inl h
   .exact absurd a b.1
   .exact .inr h
  simp at this ⊢; omega
theorem gb{l:List α}{i j:Nat}{a:α}(h:i<l.length):(l.set i a)[j]? =if i=j then some a else l[j]? :=by
 rw [qK];by_cases e:i=j
 .rw [cN e,cN e];simp [h]
 .rw [cx e,cx e]
theorem afR{l:List α}(h:l.Nodup){i j:Nat}(hi:i<l.length)(b:j<l.length)(e:l[i]=l[j]):i=j:=by
 have hp:=List.pairwise_iff_getElem.1 h;rcases Nat.lt_trichotomy i j with a|a|a
 .exact absurd e (hp i j hi b a)
 .exact a
 .exact absurd e.symm (hp j i b hi a)
theorem oZ{l:List α}{x:α}{i:Nat}(h:l[i]? =some x):i<l.length:=by
 rcases ql i l.length with a|a
 .exact a
 .rw [cw a] at h;cases h
theorem aeq{l:List α}(h:l.Nodup){i j:Nat}{x:α}(hi:l[i]? =some x)(a:l[j]? =some x):i=j:=by have c:=oZ hi;have b:=oZ a;rw [aT c] at hi;rw [aT b] at a;exact afR h c b ((du hi).trans (du a).symm)
structure Laid(K:zi)(S:zB)(m:Nat):Prop where
 le:m<=K.length
 lt:m<S.length
 val:∀(p:Nat) (x:Int),S[p]? =some x->x=0\/∃i:Nat,i<m/\x=(i:Int)+1
 uniq:∀(p q:Nat) (x:Int),S[p]? =some x->S[q]? =some x->x≠0->p=q
 path:∀(i:Nat) (k:zB),i<m->K[i]? =some k->∃d,d<S.length/\S[(home k S.length+d)%S.length]? =some ((i:Int)+1)/\∀e,e<d->S[(home k S.length+e)%S.length]? ≠some 0
theorem Laid.free{S:zB}(h:Laid K S m):∃p,p<S.length/\S[p]? =some 0:=by
 by_cases hp:∃p,p<S.length/\S[p]? =some 0
 .exact hp
 .exfalso;have c:∀p,p<S.length->S[p]? ≠some 0:=λp l k=>hp ⟨p,l,k⟩;have d:S.Nodup:=by refine List.pairwise_iff_getElem.2 λi j hi f g e=>?_;have:=h.uniq i j _ ((aT hi).trans (congrArg some e)) (aT f) (λn=>c j f (by rw [aT f,n]));omega
  have a:∀x∈S,x∈(List.range m).map λi:Nat=>(i:Int)+1:=by
   intro x hx;obtain ⟨p,b,e⟩:=qq hx;have e':S[p]? =some x:=by rw [aT b,e]
   rcases h.val p x e' with rfl|⟨i,hi,rfl⟩
   .exact absurd e' (c p b)
   .exact List.mem_map.2 ⟨i,List.mem_range.2 hi,rfl⟩
  have:=arc d a;simp at this;have:=h.lt;omega
theorem Pg{S:zB}{cap:Int}(h:Laid K S m)(G:∀k∈K,By k){key:zB}(E:By key)(J:key.length<100000000)(I:S.length<1000000000)(H:K.length<1000000000):
  ∃d,d<S.length/\fz (cap,K,S) key=some (((home key S.length+d)%S.length:Nat):Int)/\(∀e,e<d->S[(home key S.length+e)%S.length]? ≠some 0)/\
   ((S[(home key S.length+d)%S.length]? =some 0/\∀i:Nat,i<m->K[i]? ≠some key)\/∃i:Nat,i<m/\K[i]? =some key/\S[(home key S.length+d)%S.length]? =some ((i:Int)+1)):=by
 have y:0<S.length:=by have:=h.lt;omega
 have c (t:Nat):(home key S.length+t)%S.length<S.length:=qY _ y;have r:home key S.length<S.length:=qY _ y
 -- where it stops
 let q:Nat->Bool:=λt=>match S[(home key S.length+t)%S.length]? with
  |some x=>x==0||K[(x-1).toNat]? ==some key
  |none=>true
 have s (t:Nat) (x:Int) (hx:S[(home key S.length+t)%S.length]? =some x):q t=(x==0||K[(x-1).toNat]? ==some key):=by simp only [q,hx]
 have l:∀t,t<S.length->q t=false->∀k,fQ (cap,K,S) key k (((home key S.length+t)%S.length:Nat):Int)=k (((home key S.length+(t+1))%S.length:Nat):Int):=by
  intro t v a k;have hx:=aT (c t);rw [s t _ hx] at a;rcases h.val _ _ hx with e|⟨i,hi,e⟩
  .rw [e] at a;simp at a
  .rw [e] at hx a;have f:i<K.length:=by have:=h.le;omega
   have b:K[i]? =some K[i]:=aT f;have o:¬K[i]=key:=by simp only [qy] at a;have:=a.2;rw [show ((i:Int)+1-1).toNat=i by omega,b] at this;simpa using this
   simp only [fQ,cR,eT hx,an];rw [show ((i:Int)+1==0)=false by simp;omega];simp only [qo,fk];rw [dP (by omega),show (i:Int)+1-1=(i:Int) by omega,eT b,an,aee (G _ (j0 f)) E,an,cM o,q7,aZ];have O:=c t;rw [bQ (show ((S.length:Int) != 0)=true from bne_iff_ne.2 (by omega)),nx (show (home key S.length+t)%S.length<9223372036854775807 by omega)];congr 1;show ((((home key S.length+t)%S.length+1)%S.length:Nat):Int)=_;rw [Nat.mod_add_mod,qC]
 have j:∀t,t<S.length->q t=true->∀k,fQ (cap,K,S) key k (((home key S.length+t)%S.length:Nat):Int)=some (((home key S.length+t)%S.length:Nat):Int):=by
  intro t v a k;have hx:=aT (c t);rw [s t _ hx] at a;rcases h.val _ _ hx with e|⟨i,hi,e⟩
  .rw [e] at hx;simp only [fQ,cR,eT hx,an];rfl
  .rw [e] at hx a;have f:i<K.length:=by have:=h.le;omega
   have b:K[i]? =some K[i]:=aT f;have o:K[i]=key:=by rw [show ((i:Int)+1==0)=false by simp;omega,n3,show ((i:Int)+1-1).toNat=i by omega,b] at a;simpa using a
   simp only [fQ,cR,eT hx,an];rw [show ((i:Int)+1==0)=false by simp;omega];simp only [qo,fk];rw [dP (by omega),show (i:Int)+1-1=(i:Int) by omega,eT b,an,aee (G _ (j0 f)) E,an,cu o,Bool.or_true,cr]
 -- it stops somewhere
 have C:∃t,t<S.length/\q t=true:=by
  obtain ⟨p,hp,e⟩:=h.free;refine ⟨(p+S.length-home key S.length)%S.length,qY _ y,?_⟩;have:(home key S.length+(p+S.length-home key S.length)%S.length)%S.length=p:=by rw [Nat.add_mod_mod,show home key S.length+(p+S.length-home key S.length)=p+S.length by omega,Nat.add_mod_right,Nat.mod_eq_of_lt hp]
  rw [s _ 0 (by rw [this];exact e)];rfl
 rcases V2 q S.length with ⟨d,F,n,g⟩|z
 .refine ⟨d,F,?_,?_,?_⟩
  .unfold fz;rw [asA key 0 J,an,apU key 0 y I,an];exact yT (λt=>(((home key S.length+t)%S.length:Nat):Int)) d (by rw [qu,Nat.mod_eq_of_lt r];rfl) (by omega) (λt v=>l t (by omega) (g t v)) (j d F n)
  .intro e L N;have:=g e L;rw [s e 0 N] at this;simp at this
  .have hx:=aT (c d);rcases h.val _ _ hx with e|⟨i,hi,e⟩
   .rw [e] at hx;refine .inl ⟨hx,λi hi b=>?_⟩;obtain ⟨u,P,D,M⟩:=h.path i key hi b;have w:q u=true:=by rw [s u _ D,show ((i:Int)+1-1).toNat=i by omega,b];simp
    have:d<=u:=by
     rcases ql u d with A|B
     .rw [g u A] at w;cases w
     .exact B
    by_cases e':d=u
    .subst e';rw [hx] at D;simp at D;omega
    .exact M d (by omega) hx
   .rw [e] at hx;have f:i<K.length:=by have:=h.le;omega
    rw [s d _ hx,show ((i:Int)+1==0)=false by simp;omega,n3,show ((i:Int)+1-1).toNat=i by omega] at n;exact .inr ⟨i,hi,by simpa using n,hx⟩
 .obtain ⟨t,v,e⟩:=C;rw [z t v] at e;cases e
theorem agc{K:zi}{S:zB}{m:Nat}{key:zB}(h:Laid K S m)(o:K[m]? =some key)(v:m+1<S.length){d:Nat}(w:d<S.length)(u:S[(home key S.length+d)%S.length]? =some 0)(hp:∀e,e<d->S[(home key S.length+e)%S.length]? ≠some 0):
  Laid K (S.set ((home key S.length+d)%S.length) ((m:Int)+1)) (m+1):=by
 have n:m<K.length:=by
  rcases ql m K.length with h|h
  .exact h
  .rw [cw h] at o;cases o
 have A:0<S.length:=by omega
 have a:(home key S.length+d)%S.length<S.length:=qY _ A;refine ⟨n,by simpa using v,λp x hx=>?_,λp q x hx g l=>?_,λi k hi f=>?_⟩
 .rw [gb a] at hx;split at hx
  .exact .inr ⟨m,by omega,(du hx).symm⟩
  .rcases h.val p x hx with e|⟨i,hi,e⟩
   .exact .inl e
   .exact .inr ⟨i,by omega,e⟩
 .have c:∀p:Nat,S[p]? =some ((m:Int)+1)->False:=λp hp=>by rcases h.val p _ hp with e|⟨i,hi,e⟩ <;> omega
  rw [gb a] at hx g;split at hx <;> split at g
  .omega
  .rw [<-du hx] at g;exact absurd g (λh=>c q h)
  .rw [<-du g] at hx;exact absurd hx (λh=>c p h)
  .exact h.uniq p q x hx g l
 .rw [oi];have b:∀p:Nat,S[p]? ≠some 0->(S.set ((home key S.length+d)%S.length) ((m:Int)+1))[p]? ≠some 0:=by
   intro p j e;rw [gb a] at e;split at e
   .have:=du e;omega
   .exact j e
  by_cases r:i=m
  .subst r;rw [o] at f;cases f;refine ⟨d,w,?_,λe s=>b _ (hp e s)⟩;rw [gb a,cN rfl]
  .obtain ⟨B,z,t,y⟩:=h.path i k (by omega) f;refine ⟨B,z,?_,λe s=>b _ (y e s)⟩;rw [gb a,cx (λe=>by rw [<-e,u] at t;simp at t;omega)];exact t
theorem aes{n:Nat}(b:0<n):Laid K (List.replicate n 0) 0:=
 ⟨qf _,by simpa using b,λp x hx=> .inl (by rw [qV] at hx;split at hx;(exact (du hx).symm);(cases hx)),
  λp q x hx _ a=>(by rw [qV] at hx;split at hx;(exact absurd (du hx).symm a);(cases hx)),λi k hi=>by omega⟩
theorem ano{S:zB}(h:Laid K S m)(key:zB):Laid (K++[key]) S m:=
 ⟨by simp;have:=h.le;omega,h.lt,h.val,h.uniq,λi k hi a=>by rw [cy (by have:=h.le;omega)] at a;exact h.path i k hi a⟩
theorem ar5: @wv= @fQ:=rfl
theorem aoH(t:Int×zi×zB)(key:zB):mh t key=fz t key:=by unfold mh fz;rw [ar5]
abbrev Tb:=Int×zi×zB
structure Key(k:zB):Prop where
 by_:By k
 short:k.length<100000
structure TI(t:Tb):Prop where
 cap0:0<=t.1
 cap1:t.1<=1048576
 few:(t.2.1.length:Int)<=t.1
 nd:t.2.1.Nodup
 keys:∀k∈t.2.1,Key k
 eight:8<=t.2.2.length
 half:2*t.2.1.length<=t.2.2.length
 small:t.2.2.length<=8+4*t.2.1.length
 laid:Laid t.2.1 t.2.2 t.2.1.length
theorem TI.n{t:Tb}(h:TI t):t.2.1.length<=1048576:=by have:=h.few;have:=h.cap1;omega
theorem W2(a:Int):mU a=if a<0\/1048576<a then some ((0,[],[]),1) else some ((a,[],List.replicate 8 0),0):=by
 unfold mU;simp only [cR];by_cases h:a<0\/1048576<a
 .rw [cN h,show (decide (a<0)||decide (1048576<a))=true by simpa using h];rfl
 .rw [cx h,show (decide (a<0)||decide (1048576<a))=false by simp;omega];rfl
theorem Xq{a:Int}(b:0<=a)(d:a<=1048576):TI (a,[],List.replicate 8 0):=
 ⟨b,d,b,qN,λk c=>by simp at c,by simp,by simp,by simp,aes (by omega)⟩
theorem kQ{t:Tb}(h:TI t){key:zB}(b:Key key):(∀i:Nat,t.2.1[i]? =some key->dK t key=some ((i:Int),true))/\(key∉t.2.1->dK t key=some (0,false)):=by
 have q:=h.n;have p:=h.small;have r:=h.eight;obtain ⟨d,u,o,s,g⟩:=Pg (cap:=t.1) h.laid (λk b=>(h.keys k b).by_) b.by_ (by have:=b.short;omega) (by omega) (by omega);have f:∀x,t.2.2[(home key t.2.2.length+d)%t.2.2.length]? =some x->dK t key=some (max (i64.wrap (x-1)) 0,decide (0<x)):=by intro x hx;unfold dK xX;rw [show ((t.2.2.length:Int)==0)=false from beq_eq_false_iff_ne.2 (by omega),aZ,show fz t key=_ from o,an,eT hx,an,an]
 refine ⟨λi hi=>?_,λc=>?_⟩
 .have e:i<t.2.1.length:=by
   rcases ql i t.2.1.length with h|h
   .exact h
   .rw [cw h] at hi;cases hi
  rcases g with ⟨_,a⟩|⟨j,l,a,m⟩
  .exact absurd hi (a i e)
  .have:i=j:=by exact aeq h.nd hi a
   subst this;rw [f _ m,dP (by omega),cu (by omega)];congr 2;omega
 .rcases g with ⟨a,_⟩|⟨j,l,a,_⟩
  .rw [f _ a];rfl
  .exact absurd (ej a) c
theorem abr{l:zB}(h:l.length<1000000000):bY l=some l:=by unfold bY;rw [bQ (dH (by omega) (by omega))]
theorem Qg(l:List α):br l 0 (l.length:Int)=l:=by unfold br;simp
theorem Kf(l:List α):(jT 0 (l.length:Int) (l.length:Int) l.length&&((l.length:Int)==(l.length:Int)))=true:=by simp [jT]
theorem ash(nd:K.Nodup)(q:∀k∈K,Key k)(x:K.length<=1048577){n:Nat}(A:K.length<n)(z:n<100000000)(cap:Int)(w:zB):∃S,o6 (n:Int) cap K w=some (K,S)/\S.length=n/\Laid K S K.length:=by
 have key:∀(d i:Nat) (S:zB) (M:Nat),i+d=K.length->d<M->S.length=n->Laid K S i->∃f,ax (lD cap K) M (K,S,(i:Int))=some (K,f)/\f.length=n/\Laid K f K.length:=by
  intro d
  induction d with
  |zero=>
   intro i S M hi u l g;obtain ⟨m,rfl⟩:∃m,M=m+1:=⟨M-1,by omega⟩;rw [bF];have:i=K.length:=by omega
   subst this;exact ⟨S,by simp only [lD,pd (l9 _),aZ],l,g⟩
  |succ d ih=>
   intro i S M hi u l g;obtain ⟨m,rfl⟩:∃m,M=m+1:=⟨M-1,by omega⟩;rw [bF];have b:i<K.length:=by omega
   have c:=aT b;have a:=q _ (j0 b);obtain ⟨e,e1,e2,e3,v⟩:=Pg (cap:=cap) g (λk t=>(q k t).by_) a.by_ (by have:=a.short;omega) (by omega) (by omega);have p:S[(home K[i] S.length+e)%S.length]? =some 0:=by
    rcases v with ⟨h,_⟩|⟨j,y,h,_⟩
    .exact h
    .rw [aT (show j<K.length by omega)] at h;have:=afR nd _ _ (du h);omega
   obtain ⟨f,o,s,r⟩:=ih (i+1) (S.set ((home K[i] S.length+e)%S.length) ((i:Int)+1)) m (by omega) (by omega) (by simpa using l) (agc g c (by omega) e1 p e3);refine ⟨f,?_,s,r⟩;rw [show ((i:Int)+1)=((i+1:Nat):Int) by omega] at o;unfold lD;dsimp only;rw [lR b,cr,eT c,an,aoH,e2,an,eT p,an,e9,nx (show i<9223372036854775807 by omega)];exact o
 unfold o6;rw [bQ (cu (by omega)),bQ (dH (by simp;omega) (by simp;omega)),e9];have:=key K.length 0 (List.replicate n 0) aA (by omega) (by show _<2^64;omega) (by simp) (aes (by omega));rw [show ((0:Nat):Int)=0 from rfl] at this;exact this
theorem abc{t:Tb}(h:TI t){key:zB}(a:Key key){i:Nat}(hi:t.2.1[i]? =some key):cq t key=some (t,(i:Int),false,0):=by unfold cq;rw [(kQ h a).1 i hi,an];rfl
theorem ain{t:Tb}(h:TI t){key:zB}(b:Key key)(a:key∉t.2.1)(c:t.1<=t.2.1.length):cq t key=some (t,0,false,7):=by unfold cq;rw [(kQ h b).2 a,an,aZ,cu c];rfl
theorem Ka{t:Tb}(h:TI t){key:zB}(f:Key key)(l:key∉t.2.1)(A:(t.2.1.length:Int)<t.1):
  ∃t',cq t key=some (t',(t.2.1.length:Int),true,0)/\t'.1=t.1/\t'.2.1=t.2.1++[key]/\TI t':=by
 have C:=h.n;have w:=h.small;have B:=h.eight;have y:=h.half;have p:=h.cap1;have c:(t.2.1++[key]).Nodup:=List.nodup_append.2 ⟨h.nd,by simp,λa q b hb=>by simp at hb;subst hb;exact λe=>l (e▸q)⟩;have g:∀k∈t.2.1++[key],Key k:=λk m=>by
  rcases List.mem_append.1 m with i|i
  .exact h.keys k i
  .simp at i;subst i;exact f
 unfold cq;rw [(kQ h f).2 l,an,aZ,cM (by omega),aZ,bQ (Kf _),Mq key (by have:=f.short;omega),an,Qg,bQ (dH (by simp;omega) (by simp;omega))];simp only [cR,Gg];rw [nx (show t.2.1.length<9223372036854775807 by omega),dP (show _/\2*((t.2.1.length+1:Nat):Int)<=_ by omega)];by_cases z:t.2.2.length<2*(t.2.1.length+1)
 .rw [cu (by omega),cr,dP (by omega)];obtain ⟨S,u,D,s⟩:=ash c g (by simp;omega) (n:=2*t.2.2.length) (by simp;omega) (by omega) t.1 t.2.2;rw [show (2*max (t.2.2.length:Int) 8)=((2*t.2.2.length:Nat):Int) by omega,u,an];exact ⟨_,rfl,rfl,rfl,h.cap0,h.cap1,by simp;omega,c,g,by show 8<=S.length;omega,by show 2*(t.2.1++[key]).length<=S.length;simp;omega,by show S.length<=8+4*(t.2.1++[key]).length;simp;omega,s⟩
 .rw [cM (by omega),aZ,abr (by omega),an];obtain ⟨d,e1,e2,e3,v⟩:=Pg (cap:=t.1) h.laid (λk f=>(h.keys k f).by_) f.by_ (by have:=f.short;omega) (by omega) (by omega);have o:t.2.2[(home key t.2.2.length+d)%t.2.2.length]? =some 0:=by
   rcases v with ⟨h,_⟩|⟨j,x,h,_⟩
   .exact h
   .exact absurd (ej h) l
  rw [show fz t key=_ from e2,an,eT o,an,e9];have r:=agc (ano h.laid key) (key:=key) (by simp) (by omega) e1 o e3;exact ⟨_,rfl,rfl,rfl,h.cap0,h.cap1,by simp;omega,c,g,by simpa using h.eight,by simp;omega,by simp;omega,by simpa using r⟩
end So
variable {V : zi}
namespace So
def fl(a b:Bool):Int:=a.toNat+2*b.toNat
abbrev Gf:=Bool->zB->Bool
def iP(g:Gf)(b:Bool)(v:zB):Gf:=λb' v'=>g b' v'||(b'==b&&v'==v)
structure Flags(V:zi)(g:Gf)(F:zB):Prop where
 len:F.length=V.length
 at_:∀(i:Nat) v,V[i]? =some v->F[i]? =some (fl (g false v) (g true v))
 out:∀b v,v∉V->g b v=false
theorem Flags.nil:Flags [] (λ_ _=>false) []:=⟨rfl,λi v h=>by simp at h,λ_ _ _=>rfl⟩
theorem Flags.add{g:Gf}{F:zB}(h:Flags V g F){v:zB}(c:v∉V):Flags (V++[v]) g (F++[0]):=by
 refine ⟨by simp [h.len],λi u a=>?_,λb u a=>h.out b u (λd=>a (qk _ d))⟩;rw [qI] at a ⊢;rw [h.len];split at a
 next hi=>rw [cN hi];exact h.at_ i u a
 .rename_i hi;rw [cx hi];have f:i-V.length=0:=by
   by_cases e:i-V.length=0
   .exact e
   .rw [cw (by simp;omega)] at a;cases a
  rw [f] at a ⊢;simp at a;subst a;rw [h.out false v c,h.out true v c];rfl
theorem Flags.set{g:Gf}{F:zB}(h:Flags V g F)(nd:V.Nodup){v:zB}{i:Nat}(hi:V[i]? =some v)(b:Bool):
  Flags V (iP g b v) (F.set i (fl (g false v|| !b) (g true v||b))):=by
 have c:i<V.length:=by
  rcases ql i V.length with h|h
  .exact h
  .rw [cw h] at hi;cases hi
 refine ⟨by simp [h.len],λj u a=>?_,λk u a=>?_⟩
 .rw [gb (by rw [h.len];exact c)];by_cases e:i=j
  .subst e;rw [hi] at a;cases a;rw [cN rfl];unfold iP;cases b <;> simp
  .rw [cx e,h.at_ j u a];have d:u≠v:=by
    rintro rfl;have f:j<V.length:=by
     rcases ql j V.length with h|h
     .exact h
     .rw [cw h] at a;cases a
    rw [aT c] at hi;rw [aT f] at a;exact e (afR nd _ _ ((du hi).trans (du a).symm))
   unfold iP;rw [beq_eq_false_iff_ne.2 d];simp
 .unfold iP;rw [h.out k u a,beq_eq_false_iff_ne.2 (λe=>a (e▸ej hi):u≠v)];simp
theorem afB(a b:Bool):ed .u8 (fl a b) 1=fl (a|| !false) (b||false)/\ed .u8 (fl a b) 2=fl (a|| !true) (b||true)/\ed .u8 (fl a b) (bZ .u8 1 0)=fl (a|| !false) (b||false)/\ed .u8 (fl a b) (bZ .u8 1 1)=fl (a|| !true) (b||true):=by cases a <;> cases b <;> decide
theorem aeC(a b:Bool):(kb .u8 (fl a b) 1 != 0)=a/\(kb .u8 (fl a b) 2 != 0)=b/\(kb .u8 (gT .u8 (fl a b) 0) 1==1)=a/\(kb .u8 (gT .u8 (fl a b) 1) 1==1)=b/\(kb .u8 (fl a b) (bZ .u8 1 0) != 0)=a/\(kb .u8 (fl a b) (bZ .u8 1 1) != 0)=b:=by cases a <;> cases b <;> decide
theorem LU{l:zB}(h:l.length<1000000000):cG l=some l:=by unfold cG;rw [bQ (dH (by omega) (by omega))]
def yi(cap:Int)(V:zi)(v:zB):zi×Bool×Int:=if v∈V then (V,false,0) else if cap<=V.length then (V,false,7) else (V++[v],true,0)
def ew(V:zi)(v:zB)(flag:Int):Int:=if flag<0\/1<flag then 1 else if v∈V then 0 else 10
def Z3(V:zi)(g:Gf)(v:zB)(flag:Int):Gf:=if ew V v flag=0 then iP g (flag==1) v else g
def Zs(V:zi)(g:Gf)(v:zB)(flag:Int):Bool:=if ew V v flag=0 then g (flag==1) v else false
theorem oq{l:List α}{x:α}(h:x∈l):∃i:Nat,i<l.length/\l[i]? =some x:=by obtain ⟨i,hi,e⟩:=qq h;exact ⟨i,hi,by rw [aT hi,e]⟩
abbrev Fl:=Tb×zB
structure Dv(s:List Fd)(t:Fl)(V:zi)(g:Gf):Prop where
 tab:TI t.1
 keys:t.1.2.1=V.map (enc s)
 ins:∀v∈V,In s v
 flags:Flags V g t.2
theorem QO{s:List Fd}(a:gz s){v:zB}(b:In s v):Key (enc s v):=
 ⟨Wd s v,by rw [v8 b.len];have:=Ai a;have:=a.few;unfold gh;omega⟩
theorem wL{s:List Fd}(c:∀v∈V,In s v){v:zB}(b:In s v):enc s v∈V.map (enc s)↔v∈V:=by rw [List.mem_map];exact ⟨λ⟨u,a,e⟩=>ajD (c u a) b e▸a,λh=>⟨v,h,rfl⟩⟩
theorem Dv.nd{s:List Fd}{t:Fl}{V:zi}{g:Gf}(h:Dv s t V g):V.Nodup:=by have:=h.tab.nd;rw [h.keys] at this;exact (List.pairwise_map.1 this).imp λ{a b} h e=>h (congrArg (enc s) e)
theorem Dv.len{s:List Fd}{t:Fl}{g:Gf}(h:Dv s t V g):t.1.2.1.length=V.length:=by rw [h.keys];simp
theorem Dv.at_{s:List Fd}{t:Fl}{g:Gf}(h:Dv s t V g){v:zB}{i:Nat}(hi:V[i]? =some v):t.1.2.1[i]? =some (enc s v):=by rw [h.keys,np,hi];rfl
theorem Yq(a:Int):KI a=if a<0\/1048576<a then some (((0,[],[]),[]),1) else some (((a,[],List.replicate 8 0),[]),0):=by
 unfold KI;rw [W2];by_cases h:a<0\/1048576<a
 .rw [cN h,cN h];rfl
 .rw [cx h,cx h];rfl
theorem al4(s:List Fd){a:Int}(d:0<=a)(c:a<=1048576):Dv s ((a,[],List.replicate 8 0),[]) [] (λ_ _=>false):=
 ⟨Xq d c,rfl,λv b=>by simp at b,Flags.nil⟩
theorem akG{s:List Fd}(k:gz s){t:Fl}{V:zi}{g:Gf}(h:Dv s t V g){v:zB}(c:In s v):
  ∃t',AU t (enc s v)=some (t',(yi t.1.1 V v).2)/\Dv s t' (yi t.1.1 V v).1 g/\t'.1.1=t.1.1:=by
 have d:=QO k c;have p:=h.tab.n;unfold AU yi;by_cases b:v∈V
 .obtain ⟨i,hi,e⟩:=oq b;rw [abc h.tab d (h.at_ e),an,cN b];exact ⟨t,rfl,h,rfl⟩
 .have j:enc s v∉t.1.2.1:=by rw [h.keys,wL h.ins c];exact b
  rw [cx b];by_cases f:t.1.1<=(V.length:Int)
  .rw [cN f,ain h.tab d j (by rw [h.len];exact f),an];exact ⟨t,rfl,h,rfl⟩
  .obtain ⟨t',e1,e2,e3,o⟩:=Ka h.tab d j (by rw [h.len];omega);rw [cx f,e1,an];have l:=h.flags.len;have m:=h.len;refine ⟨(t',t.2++[0]),?_,⟨o,by rw [e3,h.keys];simp,λu a=>?_,h.flags.add b⟩,e2⟩
   .simp only [mN,aZ];rw [bQ (Kf _),Qg,bQ (dH (by simp;omega) (by simp;omega))]
   .rcases List.mem_append.1 a with a|a
    .exact h.ins u a
    .simp at a;subst a;exact c
theorem Vj{s:List Fd}(d:gz s){t:Fl}{V:zi}{g:Gf}(h:Dv s t V g){v:zB}(b:In s v):
  (∃i:Nat,i<V.length/\V[i]? =some v/\v∈V/\dK t.1 (enc s v)=some ((i:Int),true))\/(v∉V/\dK t.1 (enc s v)=some (0,false)):=by
 have c:=QO d b;by_cases a:v∈V
 .obtain ⟨i,hi,e⟩:=oq a;exact .inl ⟨i,hi,e,a,(kQ h.tab c).1 i (h.at_ e)⟩
 .exact .inr ⟨a,(kQ h.tab c).2 (by rw [h.keys,wL h.ins b];exact a)⟩
theorem amd{s:List Fd}(c:gz s){t:Fl}{V:zi}{g:Gf}(h:Dv s t V g){v:zB}(b:In s v):A5 t (enc s v)=some (decide (v∈V)):=by
 unfold A5;rcases Vj c h b with ⟨i,_,_,a,e⟩|⟨a,e⟩
 .rw [e,an,cu a]
 .rw [e,an,cM a]
theorem aoh(a:Int):Em a=some (if a=0 then 1 else if a=1 then 2 else 0):=by
 unfold Em;by_cases c:a=0
 .subst c;rfl
 .by_cases b:a=1
  .subst b;rfl
  .rw [cx c,cx b,beq_eq_false_iff_ne.2 c,beq_eq_false_iff_ne.2 b];rfl
theorem y7(a:Int):(a<0\/1<a)\/a=0\/a=1:=by omega
theorem al1{s:List Fd}(j:gz s){t:Fl}{V:zi}{g:Gf}(h:Dv s t V g){v:zB}(f:In s v)(a:Int):
  ∃t',L7 t (enc s v) a=some (t',ew V v a)/\Dv s t' V (Z3 V g v a)/\t'.1.1=t.1.1:=by
 have o:=h.tab.n;have m:=h.len;have k:=h.flags.len;unfold L7 Kb Z3 ew;rw [aoh,an];rcases y7 a with hb|hb
 .rw [cN hb,cx (by omega),cx (by omega),cx (by omega)];exact ⟨t,rfl,h,rfl⟩
 .rw [cx (show ¬(a<0\/1<a) by omega)];have c:((if a=0 then 1 else if a=1 then 2 else 0:Int)==0)=false:=by rcases hb with rfl|rfl <;> rfl
  rw [c,aZ];rcases Vj j h f with ⟨i,hi,e,b,ef⟩|⟨b,ef⟩
  .rw [ef,an,cN b,cN rfl];have l:=h.flags.at_ i v e;simp only [mN,aZ,Hw];rw [LU (by omega),an,eT l,an,an,an,e9];refine ⟨(t.1,t.2.set i (fl (g false v|| !(a==1)) (g true v||(a==1)))),?_,⟨h.tab,h.keys,h.ins,h.flags.set h.nd e _⟩,rfl⟩;have d:=afB (g false v) (g true v);rcases hb with rfl|rfl
   .rw [cN rfl,d.1];rfl
   .rw [cx (show ¬(1:Int)=0 by decide),cN rfl,d.2.1];rfl
  .rw [ef,an,cx b,cx (show ¬(10:Int)=0 by decide)];exact ⟨t,rfl,h,rfl⟩
theorem akX{s:List Fd}(j:gz s){t:Fl}{V:zi}{g:Gf}(h:Dv s t V g){v:zB}(f:In s v)(a:Int):
  Ks t (enc s v) a=some (Zs V g v a,ew V v a):=by
 unfold Ks Zc Zs ew;rw [aoh,an];rcases y7 a with hb|hb
 .rw [cN hb,cx (by omega),cx (by omega),cx (by omega)];rfl
 .rw [cx (show ¬(a<0\/1<a) by omega)];have c:((if a=0 then 1 else if a=1 then 2 else 0:Int)==0)=false:=by rcases hb with rfl|rfl <;> rfl
  rw [c,aZ];rcases Vj j h f with ⟨i,hi,e,b,ef⟩|⟨b,ef⟩
  .rw [ef,an,cN b,cN rfl];simp only [mN,aZ,Hf];rw [eT (h.flags.at_ i v e),an,an,an];have d:=aeC (g false v) (g true v);rcases hb with rfl|rfl
   .rw [cN rfl,d.1];rfl
   .rw [cx (show ¬(1:Int)=0 by decide),cN rfl,d.2.1];rfl
  .rw [ef,an,cx b,cx (show ¬(10:Int)=0 by decide)];rfl
end So
namespace So
abbrev BB(n:Int):Prop:=0<=n/\n<4294967296
def Ck(a:Int)(k:Nat):Int:=u8.wrap (gT .u32 a (k:Int))
def uk(a b:Int):zB:=[Ck a 0,Ck a 8,Ck a 16,Ck a 24,Ck b 0,Ck b 8,Ck b 16,Ck b 24]
theorem JU(a:Int):Ck a 0=a%256/\Ck a 8=a/256%256/\Ck a 16=a/65536%256/\Ck a 24=a/16777216%256:=by
 refine ⟨?_,?_,?_,?_⟩
 .show u8.wrap (a/1)=_;rw [IntKind.wrap_u8];omega
 .show u8.wrap (a/256)=_;rw [IntKind.wrap_u8]
 .show u8.wrap (a/65536)=_;rw [IntKind.wrap_u8]
 .show u8.wrap (a/16777216)=_;rw [IntKind.wrap_u8]
theorem ahj{a b c d:Int}(g:BB a)(hb:BB b)(f:BB c)(e:BB d)(h:uk a b=uk c d):a=c/\b=d:=by obtain ⟨a0,s,r,q⟩:=JU a;obtain ⟨p,o,n,m⟩:=JU b;obtain ⟨l,c1,k,j⟩:=JU c;obtain ⟨d0,d1,d2,i⟩:=JU d;simp only [uk,nI,uc] at h;omega
theorem EB(a b:Int):Key (uk a b):=by refine ⟨λx hx=>?_,by simp [uk]⟩;simp only [uk,pa,xc,or_false] at hx;obtain ⟨a0,i,h,g⟩:=JU a;obtain ⟨f,e,d,c⟩:=JU b;rcases hx with rfl|rfl|rfl|rfl|rfl|rfl|rfl|rfl <;> omega
theorem am4(a b:Int):(DO a b).bind tF=some (uk a b):=by unfold DO;obtain ⟨m,c⟩:∃m,aA=m+5:=⟨2^64-5,rfl⟩;rw [c];rfl
theorem agD(p:Tb)(a b:Int):CT p a b=dK p (uk a b):=by have h:=am4 a b;unfold CT;obtain ⟨q,d,c⟩:=iy h;rw [d,an,c,an];cases dK p (uk a b) <;> rfl
theorem atr(p:Tb)(a b:Int):xE p a b=cq p (uk a b):=by have h:=am4 a b;unfold xE;obtain ⟨q,d,c⟩:=iy h;rw [d,an,c,an];cases cq p (uk a b) <;> rfl
abbrev afQ:(Int->zr)->Int->zr:=λk s=>pX k s
theorem Ov:∀(M n:Nat),n<=M->n<1000000->ax afQ (M+1) (n:Int)=some ((n-1:Nat):Int)
 |M,n,h,hn=>by
  have E:ax afQ (M+1) (n:Int)=pX (ax afQ M) (n:Int):=bF;rw [E];by_cases a:n<2
  .generalize ax afQ M=k;unfold pX;rw [cu (by omega),cr];congr 1;omega
  .obtain ⟨M,rfl⟩:∃m,M=m+1:=⟨M-1,by omega⟩;have e1:=Ov M ((n+1)/2) (by omega) (by omega);have e2:=Ov M (n-(n+1)/2) (by omega) (by omega);generalize ax afQ (M+1)=k at e1 e2 ⊢;unfold pX;rw [cM (by omega),aZ];rw [nx (show n<9223372036854775807 by omega)];rw [show Int.tdiv ((n+1:Nat):Int) 2=(((n+1)/2:Nat):Int) from rfl,dP (show _/\(((n+1)/2:Nat):Int)<=_ by omega)];rw [e1,an];rw [dP (show _/\(n:Int)-(((n+1)/2:Nat):Int)<=_ by omega),show (n:Int)-(((n+1)/2:Nat):Int)=((n-(n+1)/2:Nat):Int) by omega];rw [e2,an];rw [dP (show _/\(1:Int)+(((n+1)/2-1:Nat):Int)<=_ by omega),dP (by omega)];congr 1;omega
theorem Zp(n:Nat)(a:n<1000000):wc (n:Int)=some ((n-1:Nat):Int):=by unfold wc;obtain ⟨m,b⟩:∃m,aA=(m+1000000)+1:=⟨2^64-1000001,rfl⟩;rw [b];exact Ov _ n (by omega) a
def Code(P:List Tb):Nat->Nat->zB->Int->Prop
 |0,_,_,_=>False
 |d+1,row,l,c=>(l.length=1/\l[0]? =some c)\/(2<=l.length/\∃a b t,Code P d (row+1) (l.take ((l.length+1)/2)) a/\Code P d (row+1+((l.length+1)/2-1)) (l.drop ((l.length+1)/2)) b/\
   BB a/\BB b/\P[row]? =some t/\∃i:Nat,c=(i:Int)/\t.2.1[i]? =some (uk a b))
abbrev Nd(P:List Tb):Prop:= ∀(r:Nat) (t:Tb),P[r]? =some t->t.2.1.Nodup
theorem Code.fn{P:List Tb}(nd:Nd P):∀{d row:Nat} {l:zB} {c n:Int},Code P d row l c->Code P d row l n->c=n
 |0,_,_,_,_,h,_=>h.elim
 |d+1,row,l,c,n,h,h'=>by
  rcases h with ⟨r,q⟩|⟨r,a,b,t,p,hb,_,_,o,i,rfl,hi⟩ <;> rcases h' with ⟨m,f⟩|⟨m,v,u,t',k,j,_,_,e,s,rfl,g⟩
  .rw [q] at f;exact du f
  .omega
  .omega
  .have e1:=Code.fn nd p k;have e2:=Code.fn nd hb j;subst e1;subst e2;rw [o] at e;cases e;rw [aeq (nd row t o) hi g]
theorem Code.inj{P:List Tb}:∀{d row:Nat} {l l':zB} {c:Int},l.length=l'.length->Code P d row l c->Code P d row l' c->l=l'
 |0,_,_,_,_,_,h,_=>h.elim
 |d+1,row,l,l',c,hl,h,h'=>by
  rcases h with ⟨z,y⟩|⟨z,a,b,t,x,hb,s,r,v,i,rfl,hi⟩ <;> rcases h' with ⟨q,p⟩|⟨q,C,B,t',m,k,o,n,f,u,e,g⟩
  .refine nc λj=>?_;by_cases w:j=0
   .rw [w,y,p]
   .rw [cw (by omega),cw (by omega)]
  .omega
  .omega
  .have:i=u:=by omega
   subst this;rw [v] at f;cases f;rw [hi] at g;obtain ⟨e1,e2⟩:=ahj s r o n (du g);subst e1;subst e2;rw [<-hl] at m k;have e3:=Code.inj (by simp [hl]) x m;have A:=Code.inj (by simp [hl]) hb k;rw [<-qb ((l.length+1)/2) l,<-qb ((l.length+1)/2) l',e3,A]
def Ext(P P':List Tb):Prop:= ∀(r:Nat) (t:Tb),P[r]? =some t->∃t',P'[r]? =some t'/\t.2.1 <+: t'.2.1
theorem Ext.refl(P:List Tb):Ext P P:=λa t h=>⟨t,h,x3 _⟩
theorem Ext.trans{P Q R:List Tb}(h:Ext P Q)(f:Ext Q R):Ext P R:=λr t a=>by obtain ⟨t1,e,d⟩:=h r t a;obtain ⟨t2,c,b⟩:=f r t1 e;exact ⟨t2,c,d.trans b⟩
theorem af7{l l':List α}(h:l <+: l'){i:Nat}{x:α}(hi:l[i]? =some x):l'[i]? =some x:=by obtain ⟨r,rfl⟩:=h;rw [cy (oZ hi)];exact hi
theorem Code.ext{P g:List Tb}(f:Ext P g):∀{d row:Nat} {l:zB} {c:Int},Code P d row l c->Code g d row l c
 |0,_,_,_,h=>h.elim
 |d+1,row,l,c,h=>by
  rcases h with h|⟨q,a,b,t,n,hb,k,j,m,i,e,hi⟩
  .exact .inl h
  .obtain ⟨t',p,o⟩:=f row t m;exact .inr ⟨q,a,b,t',n.ext f,hb.ext f,k,j,p,i,e,af7 o hi⟩
structure yY(P:List Tb)(cap:Int):Prop where
 ti:∀(r:Nat) (t:Tb),P[r]? =some t->TI t
 cap:∀(r:Nat) (t:Tb),P[r]? =some t->t.1=cap
theorem yY.nd{P:List Tb}{cap:Int}(h:yY P cap):Nd P:=λr t a=>(h.ti r t a).nd
theorem amF{n:Nat}(h:2<=n)(a:n<1000):i64.wrap (Int.tdiv (i64.wrap ((n:Int)+1)) 2)=(((n+1)/2:Nat):Int):=by rw [nx (by omega),show Int.tdiv ((n+1:Nat):Int) 2=(((n+1)/2:Nat):Int) from rfl,dP (by omega)]
theorem IE{i j n:Nat}(h:i<=j)(a:j<=n):dW (i:Int) (j:Int) n=true:=by unfold dW;simp;omega
theorem anl{j n:Nat}(h:j<=n):dW 0 (j:Int) n=true:=by unfold dW;simp;omega
theorem afL(l:List α)(k:Nat):br l 0 (k:Int)=l.take k:=by unfold br;simp
theorem ahl(l:List α)(k:Nat):br l (k:Int) (l.length:Int)=l.drop k:=by unfold br;simp only [e9];rw [ei (by simp)]
abbrev Yh:((Int×zB×List Tb)->Option zl)->(Int×zB×List Tb)->Option zl:=λk s=>lh k s.1 s.2.1 s.2.2
theorem aby{P:List Tb}{cap:Int}(t:yY P cap):∀(d M row:Nat) (l:zB),1<=l.length->l.length<=d->l.length<1000->row+l.length<=1000000->d<=M->row+(l.length-1)<=P.length->(∀x∈l,BB x)->
  (∃c,BB c/\Code P d row l c/\ax Yh M ((row:Int),l,P)=some (.ok c))\/
  ((∀c,¬Code P d row l c)/\∃e,ax Yh M ((row:Int),l,P)=some (.error e))
 |0,_,_,_,h1,h2,_,_,_,_,_=>by omega
 |d+1,M,row,l,h1,h2,hn,hr,hM,hlen,hu=>by
  obtain ⟨M,rfl⟩:∃m,M=m+1:=⟨M-1,by omega⟩;have E:ax Yh (M+1) ((row:Int),l,P)=lh (ax Yh M) (row:Int) l P:=bF;rw [E];have z:=λrow l=>aby t d M row l;generalize ax Yh M=k at z ⊢;clear E;unfold lh;by_cases h:l.length=1
  .have A:l[0]? =some (l[0]'(by omega)):=aT _;refine .inl ⟨l[0]'(by omega),hu _ (j0 _),.inl ⟨h,A⟩,?_⟩;rw [show ((l.length:Int)==1)=true by simp;omega,cr,K6 A,an]
  .rw [show ((l.length:Int)==1)=false by simp;omega,aZ,amF (by omega) hn,bQ (anl (by omega)),afL,nx (by omega)];have K:(l.take ((l.length+1)/2)).length=(l.length+1)/2:=by simp;omega
   have I:(l.drop ((l.length+1)/2)).length=l.length-(l.length+1)/2:=by simp
   rcases z (row+1) (l.take ((l.length+1)/2)) (by omega) (by omega) (by omega) (by omega) (by omega) (by omega) (λx hx=>hu x (sj hx)) with ⟨a,H,s,y⟩|⟨s,e,y⟩
   .rw [y];simp only [dn,an];rw [bQ (IE (by omega) (b7 _)),ahl,Zp _ (by omega),an,dP (by omega)];rw [show ((row+1:Nat):Int)+(((l.length+1)/2-1:Nat):Int)=((row+1+((l.length+1)/2-1):Nat):Int) by omega];rcases z (row+1+((l.length+1)/2-1)) (l.drop ((l.length+1)/2)) (by omega) (by omega) (by omega) (by omega) (by omega) (by omega) (λx hx=>hu x (qS hx)) with ⟨b,G,hb,w⟩|⟨hb,e,w⟩
    .rw [w];simp only [an];have p:row<P.length:=by omega
     have f:P[row]? =some P[row]:=aT p;have v:=t.ti row _ f;unfold oy;rw [eT f,an,agD];by_cases r:uk a b∈P[row].2.1
     .obtain ⟨i,hi,C⟩:=oq r;have:=v.n;refine .inl ⟨(i:Int),⟨by omega,by omega⟩,.inr ⟨by omega,a,b,P[row],s,hb,H,G,f,i,rfl,C⟩,?_⟩;rw [(kQ v (EB a b)).1 i C,an,mN,aZ,an,ajU (by omega)]
     .refine .inr ⟨λc q=>?_,⟨(row:Int),?_⟩⟩
      .rcases q with ⟨B,_⟩|⟨_,F,D,t',j,g,_,_,o,J,_,u⟩
       .omega
       .rw [f] at o;cases o;rw [s.fn t.nd j,hb.fn t.nd g] at r;exact r (ej u)
      .rw [(kQ v (EB a b)).2 r,an];rfl
    .rw [w];refine .inr ⟨λc q=>?_,⟨e,rfl⟩⟩;rcases q with ⟨B,_⟩|⟨_,_,D,_,_,g,_⟩
     .omega
     .exact hb D g
   .rw [y];refine .inr ⟨λc q=>?_,⟨e,rfl⟩⟩;rcases q with ⟨B,_⟩|⟨_,F,_,_,j,_⟩
    .omega
    .exact s F j
end So
namespace So
theorem ajt{t:Tb}(h:TI t){k:zB}(b:Key k)(c:k∈t.2.1\/(t.2.1.length:Int)<t.1):
  ∃t' f e,∃i:Nat,cq t k=some (t',(i:Int),f,e)/\TI t'/\t'.1=t.1/\t.2.1 <+: t'.2.1/\t'.2.1[i]? =some k/\t'.2.1.length<=t.2.1.length+1:=by
 by_cases a:k∈t.2.1
 .obtain ⟨i,hi,e⟩:=oq a;exact ⟨t,_,_,i,abc h b e,h,rfl,x3 _,e,by omega⟩
 .obtain ⟨t',e1,e2,e3,d⟩:=Ka h b a (c.resolve_left a);exact ⟨t',_,_,_,e1,d,e2,⟨[k],e3.symm⟩,by rw [e3];simp,by rw [e3];simp⟩
abbrev adw:((Int×zB×List Tb)->Option (Int×List Tb))->(Int×zB×List Tb)->Option (Int×List Tb):=λk s=>ja k s.1 s.2.1 s.2.2
structure Grown(P P':List Tb)(cap:Int)(lo hi:Nat):Prop where
 tabs:yY P' cap
 ext:Ext P P'
 len:P'.length=P.length
 out:∀r,(r<lo\/hi<=r)->P'[r]? =P[r]?
 one:∀(r:Nat) (t t':Tb),P[r]? =some t->P'[r]? =some t'->t'.2.1.length<=t.2.1.length+1
theorem ai2{P:List Tb}{cap:Int}(k:yY P cap){row:Nat}{t:Tb}(j:P[row]? =some t){a b:Int}(l:(t.2.1.length:Int)<cap):
  ∃c P',∃i:Nat,lz (row:Int) a b P=some (c,P')/\c=(i:Int)/\BB c/\Grown P P' cap row (row+1)/\∃t',P'[row]? =some t'/\t'.2.1[i]? =some (uk a b):=by
 have p:=k.ti row t j;have d:=oZ j;obtain ⟨t',f,e,i,w,o,v,s,m,q⟩:=ajt p (EB a b) (.inr (by rw [k.cap row t j];exact l));have hi:=oZ m;have x:=o.n;refine ⟨(i:Int),P.set row t',i,?_,rfl,⟨by omega,by omega⟩,⟨⟨λr u g=>?_,λr u g=>?_⟩,λr u g=>?_,by simp,λr l=>?_,λr u u' g h=>?_⟩,t',by rw [gb d,cN rfl],m⟩
 .unfold lz;rw [eT j,an,atr,w,an,an,e9];show some (u32.wrap (i:Int),_)=_;rw [ajU (show _/\(i:Int)<=_ by omega)]
 .rw [gb d] at g;split at g
  .cases g;exact o
  .exact k.ti r u g
 .rw [gb d] at g;split at g
  .cases g;rw [v];exact k.cap row t j
  .exact k.cap r u g
 .by_cases e:row=r
  .subst e;rw [j] at g;cases g;exact ⟨t',by rw [gb d,cN rfl],s⟩
  .exact ⟨u,by rw [gb d,cx e];exact g,x3 _⟩
 .rw [gb d,cx (by omega)]
 .rw [gb d] at h;split at h
  next e=>subst e;cases h;rw [j] at g;cases g;exact q
  .rw [g] at h;cases h;omega
theorem aeB{cap:Int}:∀(d M row:Nat) (l:zB) (P:List Tb),yY P cap->1<=l.length->l.length<=d->l.length<1000->row+l.length<=1000000->d<=M->row+(l.length-1)<=P.length->(∀x∈l,BB x)->
  (∀(r:Nat) (t:Tb),row<=r->r<row+(l.length-1)->P[r]? =some t->(t.2.1.length:Int)<cap)->
  ∃c P',ax adw M ((row:Int),l,P)=some (c,P')/\BB c/\Code P' d row l c/\Grown P P' cap row (row+(l.length-1))
 |0,_,_,_,_,_,h1,h2,_,_,_,_,_,_=>by omega
 |d+1,M,row,l,P,hP,h1,h2,hn,G,hM,hlen,hu,hroom=>by
  obtain ⟨M,rfl⟩:∃m,M=m+1:=⟨M-1,by omega⟩;have E:ax adw (M+1) ((row:Int),l,P)=ja (ax adw M) (row:Int) l P:=bF;rw [E];have z:=λrow l P=>aeB (cap:=cap) d M row l P;generalize ax adw M=k at z ⊢;clear E;unfold ja;by_cases h:l.length=1
  .have B:l[0]? =some (l[0]'(by omega)):=aT _;refine ⟨l[0]'(by omega),P,?_,hu _ (j0 _),.inl ⟨h,B⟩,⟨hP,Ext.refl P,rfl,λ_ _=>rfl,λr t t' e e'=>by rw [e] at e';cases e';omega⟩⟩;rw [show ((l.length:Int)==1)=true by simp;omega,cr,K6 B,an]
  .rw [show ((l.length:Int)==1)=false by simp;omega,aZ,amF (by omega) hn,bQ (anl (by omega)),afL,nx (by omega)];have S:(l.take ((l.length+1)/2)).length=(l.length+1)/2:=by simp;omega
   have I:(l.drop ((l.length+1)/2)).length=l.length-(l.length+1)/2:=by simp
   obtain ⟨a,R,e1,F,N,n⟩:=z (row+1) (l.take ((l.length+1)/2)) P hP (by omega) (by omega) (by omega) (by omega) (by omega) (by omega) (λx hx=>hu x (sj hx)) (λr t v u=>hroom r t (by omega) (by omega));rw [e1,an,bQ (IE (by omega) (b7 _)),ahl,Zp _ (by omega),an,dP (by omega)];rw [show ((row+1:Nat):Int)+(((l.length+1)/2-1:Nat):Int)=((row+1+((l.length+1)/2-1):Nat):Int) by omega];have y:=n.len;obtain ⟨b,Q,e2,D,L,j⟩:=z (row+1+((l.length+1)/2-1)) (l.drop ((l.length+1)/2)) R n.tabs (by omega) (by omega) (by omega) (by omega) (by omega) (by omega) (λx hx=>hu x (qS hx))
    (λr t v u o=>hroom r t (by omega) (by omega) (by rw [<-n.out r (by omega)];exact o))
   rw [e2,an];have w:=j.len;have p:P[row]? =some (P[row]'(by omega)):=aT _;have q:Q[row]? =some (P[row]'(by omega)):=by rw [j.out row (by omega),n.out row (by omega)];exact p
   obtain ⟨c,O,i,e3,K,C,g,t',s,H⟩:=ai2 j.tabs q (a:=a) (b:=b) (hroom row _ (b7 _) (by omega) p);rw [e3,an];refine ⟨c,O,rfl,C,.inr ⟨by omega,a,b,t',(N.ext j.ext).ext g.ext,L.ext g.ext,F,D,s,i,K,H⟩,⟨g.tabs,(n.ext.trans j.ext).trans g.ext,by rw [g.len,w,y],λr G=>?_,λr t A o f=>?_⟩⟩
   .rw [g.out r (by omega),j.out r (by omega),n.out r (by omega)]
   .by_cases J:r=row
    .subst J;rw [p] at o;cases o;exact g.one r _ _ q f
    .rw [g.out r (by omega)] at f;by_cases e':row+1+((l.length+1)/2-1)<=r
     .rw [<-n.out r (by omega)] at o;exact j.one r t A o f
     .rw [j.out r (by omega)] at f;exact n.one r t A o f
def u6(P:List Tb)(l:zB)(c:Int):Prop:=(l.length=1/\∃x t,∃i:Nat,l[0]? =some x/\P[0]? =some t/\c=(i:Int)/\t.2.1[i]? =some (uk x 0))\/(2<=l.length/\Code P l.length 0 l c)
theorem u6.top{P:List Tb}{l:zB}{c:Int}(h:u6 P l c):∃t,∃i:Nat,P[0]? =some t/\c=(i:Int)/\i<t.2.1.length:=by
 rcases h with ⟨_,x,t,i,_,f,e,hi⟩|⟨j,h⟩
 .exact ⟨t,i,f,e,oZ hi⟩
 .obtain ⟨d,g⟩:∃d,l.length=d+1:=⟨l.length-1,by omega⟩;rw [g] at h;rcases h with ⟨k,_⟩|⟨_,a,b,t,_,_,_,_,f,i,e,hi⟩
  .omega
  .exact ⟨t,i,f,e,oZ hi⟩
theorem u6.inj{P:List Tb}{l l':zB}{c:Int}(m:l.length=l'.length)(p:∀x∈l,BB x)(g:∀x∈l',BB x)(h:u6 P l c)(w:u6 P l' c):l=l':=by
 rcases h with ⟨v,x,t,i,f,u,y,r⟩|⟨v,f⟩ <;> rcases w with ⟨k,n,t',o,a,d,s,b⟩|⟨k,a⟩
 .have:i=o:=by omega
  subst this;rw [u] at d;cases d;rw [r] at b;have e:=(ahj (p x (ej f)) (by decide) (g n (ej a)) (by decide) (du b)).1;subst e;refine nc λj=>?_;by_cases q:j=0
  .rw [q,f,a]
  .rw [cw (by omega),cw (by omega)]
 .omega
 .omega
 .rw [<-m] at a;exact f.inj m a
theorem u6.ext{P e:List Tb}(d:Ext P e){l:zB}{c:Int}(h:u6 P l c):u6 e l c:=by
 rcases h with ⟨b,x,t,i,a,j,g,f⟩|⟨b,a⟩
 .obtain ⟨t',e1,e2⟩:=d 0 t j;exact .inl ⟨b,x,t',i,a,e1,g,af7 e2 f⟩
 .exact .inr ⟨b,a.ext d⟩
theorem aly{P:List Tb}{cap:Int}(p:yY P cap){l:zB}(v:1<=l.length)(u:l.length<1000)(o:max 1 (l.length-1)<=P.length)(s:∀x∈l,BB x):
  (∃c,BB c/\u6 P l c/\mG l P=some (.ok c))\/((∀c,¬u6 P l c)/\∃e,mG l P=some (.error e)):=by
 unfold mG;by_cases h:l.length=1
 .have j:l[0]? =some (l[0]'(by omega)):=aT _;have a:P[0]? =some (P[0]'(by omega)):=aT _;have g:=p.ti 0 _ a;rw [show ((l.length:Int)==1)=true by simp;omega,cr,K6 j,an];unfold oy;rw [K6 a,an,agD];by_cases f:uk (l[0]'(by omega)) 0∈(P[0]'(by omega)).2.1
  .obtain ⟨i,hi,q⟩:=oq f;have:=g.n;refine .inl ⟨(i:Int),⟨by omega,by omega⟩,.inl ⟨h,_,_,i,j,a,rfl,q⟩,?_⟩;rw [(kQ g (EB _ _)).1 i q,an];simp only [mN,aZ];rw [ajU (by omega)];rfl
  .refine .inr ⟨λc b=>?_,⟨((0:Nat):Int),?_⟩⟩
   .rcases b with ⟨_,x,t,i,hx,m,_,hi⟩|⟨d,_⟩
    .rw [j] at hx;cases hx;rw [a] at m;cases m;exact f (ej hi)
    .omega
   .rw [(kQ g (EB _ _)).2 f,an];rfl
 .rw [show ((l.length:Int)==1)=false by simp;omega,aZ];rcases aby p l.length aA 0 l v (b7 _) u (by omega) (by show l.length<=2^64;omega) (by omega) s with ⟨c,r,b,e⟩|⟨b,e,ee⟩
  .refine .inl ⟨c,r,.inr ⟨by omega,b⟩,?_⟩;rw [show ((0:Nat):Int)=0 from rfl] at e;have k:tL 0 l P=some (.ok c):=e;rw [k];rfl
  .refine .inr ⟨λc d=>?_,e,?_⟩
   .rcases d with ⟨d,_⟩|⟨_,d⟩
    .omega
    .exact b c d
   .rw [show ((0:Nat):Int)=0 from rfl] at ee;have k:tL 0 l P=some (.error e):=ee;rw [k];rfl
theorem anE{P:List Tb}{cap:Int}(n:yY P cap){l:zB}(w:1<=l.length)(s:l.length<1000)(m:max 1 (l.length-1)<=P.length)(q:∀x∈l,BB x)
  (d:∀(r:Nat) (t:Tb),P[r]? =some t->(t.2.1.length:Int)<cap):
  ∃c f,ml l P=some (c,f)/\u6 f l c/\∃hi,Grown P f cap 0 hi:=by
 unfold ml;by_cases h:l.length=1
 .have o:l[0]? =some (l[0]'(by omega)):=aT _;have j:P[0]? =some (P[0]'(by omega)):=aT _;rw [show ((l.length:Int)==1)=true by simp;omega,cr,K6 o,an];obtain ⟨c,f,i,e,y,p,g,t',k,u⟩:=ai2 n j (a:=l[0]'(by omega)) (b:=0) (d 0 _ j);rw [show ((0:Nat):Int)=0 from rfl] at e;rw [e,an];exact ⟨c,f,rfl,.inl ⟨h,_,t',i,o,k,y,u⟩,_,g⟩
 .rw [show ((l.length:Int)==1)=false by simp;omega,aZ];obtain ⟨c,f,e,p,v,g⟩:=aeB (cap:=cap) l.length aA 0 l P n w (b7 _) s (by omega) (by show l.length<=2^64;omega) (by omega) q (λr t _ _=>d r t);rw [show ((0:Nat):Int)=0 from rfl] at e;have z:ur 0 l P=some (c,f):=e;rw [z,an];exact ⟨c,f,rfl,.inr ⟨by omega,v⟩,_,g⟩
def yU(s:List Fd)(v:zB):zB:=List.zipWith (λf n=>n-f.1) s v
theorem vI{s:List Fd}(h:v.length=s.length):(yU s v).length=s.length:=by simp [yU,h]
theorem Qt{s:List Fd}(h:v.length=s.length){i:Nat}(hi:i<s.length):(yU s v)[i]? =some ((v[i]'(by omega))-s[i].1):=by unfold yU;rw [List.getElem?_zipWith,aT hi,aT (show i<v.length by omega)]
theorem JW{s:List Fd}(b:gz s){v:zB}(a:In s v):∀x∈yU s v,BB x:=by intro x hx;obtain ⟨i,hi,e⟩:=oq hx;rw [vI a.len] at hi;rw [Qt a.len hi] at e;have d:=a.each i hi;have c:=b.each s[i] (j0 hi);rw [<-du e];constructor <;> omega
theorem ae9{s:List Fd}{v':zB}(b:In s v)(a:In s v')(h:yU s v=yU s v'):v=v':=by
 refine si (by rw [b.len,a.len]) λi c d=>?_;have hi:i<s.length:=by rw [<-b.len];exact c
 have e:=congrArg (λl=>l[i]?) h;simp only [Qt b.len hi,Qt a.len hi,cH] at e;omega
theorem aiS{s:List Fd}(e:gz s){v:zB}(d:In s v):sx s v=some (yU s v):=by
 have f:=e.few;have b:=d.len;unfold sx;refine yT (λi=>((yU s v).take i,(i:Int))) s.length (by simp) (by omega) (λi hi k=>?_) (λk=>?_)
 .have c:i<v.length:=by omega
  have h:=d.each i hi;have g:=e.each s[i] (j0 hi);have a:((yU s v).take i).length=i:=by rw [b9,vI b];omega
  simp only [xy,b,lR hi,cr,dU hi,dU c,an,nx (show i<9223372036854775807 by omega)];rw [dP (by omega),ajU (by omega),bQ (dH (by rw [a];simp;omega) (by rw [a];simp;omega))];rw [qL,Qt b hi];rfl
 .simp only [xy,b,pd (l9 _),aZ];rw [ei (by rw [vI b];omega)]
abbrev Tr:=List Tb×zB
structure rY(s:List Fd)(cap:Int)(t:Tr)(V:zi)(g:Gf):Prop where
 tabs:yY t.1 cap
 len:t.1.length=max 1 (s.length-1)
 few:∀(r:Nat) (x:Tb),t.1[r]? =some x->x.2.1.length<=V.length
 top:∀(x:Tb),t.1[0]? =some x->x.2.1.length=V.length
 ins:∀v∈V,In s v
 nd:V.Nodup
 code:∀(i:Nat) v,V[i]? =some v->u6 t.1 (yU s v) (i:Int)
 flags:Flags V g t.2
theorem rY.atQ{s:List Fd}{cap:Int}{t:Tr}{g:Gf}(h:rY s cap t V g):∃x,t.1[0]? =some x/\x.2.1.length=V.length/\TI x/\x.1=cap:=by have a:t.1[0]? =some (t.1[0]'(by rw [h.len];omega)):=aT _;exact ⟨_,a,h.top _ a,h.tabs.ti 0 _ a,h.tabs.cap 0 _ a⟩
theorem Wv{s:List Fd}(b:gz s)(a:Int):LH s a=if a<0\/1048576<a then some (([],[]),1) else some ((List.replicate (max 1 (s.length-1)) (a,[],List.replicate 8 0),[]),0):=by
 have c:=b.few;unfold LH PJ;rw [W2];by_cases h:a<0\/1048576<a
 .rw [cN h,cN h];rfl
 .rw [cx h,cx h,an,an];simp only [show ((0:Int) != 0)=false from rfl,aZ];rw [Zp _ (by omega),an];refine yT (λi=>(List.replicate i (a,[],List.replicate 8 0),(i:Int))) (max 1 (s.length-1)) (by simp) (by omega) (λi hi k=>?_) (λk=>?_)
  .simp only [Ik];rw [cu (by omega),cr,bQ (dH (by simp;omega) (by simp;omega)),nx (by omega)];rw [<-List.replicate_succ' (n:=i)]
  .simp only [Ik];rw [cM (by omega),aZ]
theorem alC(s:List Fd){a:Int}(e:0<=a)(d:a<=1048576):rY s a (List.replicate (max 1 (s.length-1)) (a,[],List.replicate 8 0),[]) [] (λ_ _=>false):=by
 have b:∀(r:Nat) (x:Tb),(List.replicate (max 1 (s.length-1)) ((a,[],List.replicate 8 0):Tb))[r]? =some x->x=(a,[],List.replicate 8 0):=by
  intro r x hx;rw [qV] at hx;split at hx
  .exact (du hx).symm
  .cases hx
 exact ⟨⟨λr x hx=>by rw [b r x hx];exact Xq e d,λr x hx=>by rw [b r x hx]⟩,by simp,λr x hx=>by have:=b r x hx;subst this;simp,λx hx=>by have:=b 0 x hx;subst this;rfl,λv c=>by simp at c,qN,λi v h=>by simp at h,Flags.nil⟩
theorem Vb{s:List Fd}(d:ij s){cap:Int}{t:Tr}{V:zi}{g:Gf}(h:rY s cap t V g){v:zB}(f:In s v):
  (∃i:Nat,i<V.length/\V[i]? =some v/\v∈V/\rZ t s v=some ((i:Int),true))\/(v∉V/\rZ t s v=some (0,false)):=by
 have p:=d.few;have hp:=d.pos;have j:=vI f.len;unfold rZ;rw [aiS d.fds f,an];rcases aly h.tabs (l:=yU s v) (by omega) (by omega) (by rw [h.len,j];omega) (JW d.fds f) with ⟨c,m,k,e⟩|⟨k,e,ee⟩
 .obtain ⟨x,i,hx,rfl,hi⟩:=k.top;rw [h.top x hx] at hi;have a:V[i]? =some V[i]:=aT hi;have b:=h.ins _ (j0 hi);have:=(h.code i _ a).inj (by rw [vI b.len,j]) (JW d.fds b) (JW d.fds f) k;have:=ae9 b f this;have o:=m.2;rw [this] at a;refine .inl ⟨i,hi,a,ej a,?_⟩;rw [e];simp only [my,an];rw [dP (by omega)]
 .refine .inr ⟨λn=>?_,by rw [ee];rfl⟩;obtain ⟨i,hi,e'⟩:=oq n;exact k _ (h.code i v e')
theorem aiy{l:List Tb}(h:l.length<1000000):eR l=some l:=by unfold eR;rw [bQ (dH (by omega) (by omega))]
theorem ako{s:List Fd}(o:ij s){cap:Int}{t:Tr}{V:zi}{g:Gf}(h:rY s cap t V g){v:zB}(k:In s v):
  ∃t',AH t s v=some (t',(yi cap V v).2)/\rY s cap t' (yi cap V v).1 g:=by
 have W:=o.few;have hp:=o.pos;have A:=vI k.len;obtain ⟨M,m,D,H,F⟩:=h.atQ;unfold AH yi;rw [u5 s v (by have:=k.len;omega),oQ.2 k,an,show ((0:Int) != 0)=false from rfl,aZ];rcases Vb o h k with ⟨i,hi,e,y,ef⟩|⟨y,ef⟩
 .rw [ef,an,cN y];exact ⟨t,rfl,h⟩
 .rw [ef,an,cx y];simp only [aZ];rw [K6 m,an];have T:GQ t=some (V.length:Int):=by unfold GQ;rw [show ((t.1.length:Int)==0)=false from beq_eq_false_iff_ne.2 (by rw [h.len];omega),aZ,K6 m,an];unfold Mb xK;rw [an,an,D]
  rw [T,an,F];by_cases C:cap<=(V.length:Int)
  .rw [cu C,cN C];exact ⟨t,rfl,h⟩
  .rw [cM C,cx C,aZ,aiy (by rw [h.len];omega),an,aiS o.fds k,an];obtain ⟨c,U,e1,f,P,w⟩:=anE h.tabs (l:=yU s v) (by omega) (by omega) (by rw [h.len,A];omega) (JW o.fds k) (λr x hx=>by have:=h.few r x hx;omega);have Q:=h.flags.len;have S:V.length<=1048576:=by have:=H.n;omega
   rw [e1,an,bQ (Kf _),Qg,bQ (dH (by simp;omega) (by simp;omega))]
   -- the new place
   obtain ⟨N,i,z,L,K⟩:=f.top;have J:=w.one 0 M N m z;have B:V.length<=i:=by
    rcases ql i V.length with p|B
    .exfalso;have G:V[i]? =some V[i]:=aT p;have q:=h.ins _ (j0 p);rw [L] at f;have:=((h.code i _ G).ext w.ext).inj (by rw [vI q.len,A]) (JW o.fds q) (JW o.fds k) f;have:=ae9 q k this;exact y (this▸j0 p)
    .exact B
   have E:i=V.length:=by omega
   refine ⟨(U,t.2++[0]),rfl,⟨w.tabs,by rw [w.len,h.len],λr x hx=>?_,λx hx=>?_,λu d=>?_,?_,λj u d=>?_,h.flags.add y⟩⟩
   .have I:r<t.1.length:=by rw [<-w.len];exact oZ hx
    have:=w.one r _ x (aT I) hx;have:=h.few r _ (aT I);simp;omega
   .rw [z] at hx;cases hx;simp;omega
   .rcases List.mem_append.1 d with d|d
    .exact h.ins u d
    .simp at d;subst d;exact k
   .exact List.nodup_append.2 ⟨h.nd,by simp,λa R b hb=>by simp at hb;subst hb;exact λe=>y (e▸R)⟩
   .rw [qI] at d;split at d
    .exact (h.code j u d).ext w.ext
    .have O:j-V.length=0:=by
      by_cases e:j-V.length=0
      .exact e
      .rw [cw (by simp;omega)] at d;cases d
     rw [O] at d;simp at d;subst d;rw [L,E] at f;rw [show j=V.length by omega];exact f
theorem alf{s:List Fd}(c:ij s){cap:Int}{t:Tr}{V:zi}{g:Gf}(h:rY s cap t V g){v:zB}(a:In s v):AY t s v=some (decide (v∈V),0):=by
 unfold AY;have:=c.few;rw [u5 s v (by have:=a.len;omega),oQ.2 a,an,show ((0:Int) != 0)=false from rfl,aZ];rcases Vb c h a with ⟨i,_,_,b,e⟩|⟨b,e⟩
 .rw [e,an,cu b]
 .rw [e,an,cM b]
theorem abb{s:List Fd}(d:ij s){cap:Int}{t:Tr}{V:zi}{g:Gf}(h:rY s cap t V g){v:zB}(b:In s v)(a:Int):
  (ew V v a≠0/\Dn t s v a=some (0,ew V v a))\/(ew V v a=0/\(a=0\/a=1)/\∃i:Nat,i<V.length/\V[i]? =some v/\Dn t s v a=some ((i:Int),0)):=by
 unfold Dn ew;have:=d.few;rw [u5 s v (by have:=b.len;omega),oQ.2 b,an,show ((0:Int) != 0)=false from rfl,aZ];simp only [cR];rcases y7 a with hb|hb
 .rw [cN hb,show (a != 0&&a != 1)=true by simp;omega];exact .inl ⟨by decide,rfl⟩
 .rw [cx (show ¬(a<0\/1<a) by omega),show (a != 0&&a != 1)=false by rcases hb with rfl|rfl <;> rfl,aZ];rcases Vb d h b with ⟨i,hi,e,c,ef⟩|⟨c,ef⟩
  .rw [ef,an,cN c];exact .inr ⟨rfl,hb,i,hi,e,rfl⟩
  .rw [ef,an,cx c];exact .inl ⟨by decide,rfl⟩
theorem alR{s:List Fd}(l:ij s){cap:Int}{t:Tr}{V:zi}{g:Gf}(h:rY s cap t V g){v:zB}(j:In s v)(a:Int):
  ∃t',Ld t s v a=some (t',ew V v a)/\rY s cap t' V (Z3 V g v a):=by
 obtain ⟨q,k,m,c,p⟩:=h.atQ;unfold Ld Z3;rcases abb l h j a with ⟨b,e⟩|⟨b,hb,i,hi,f,e⟩
 .rw [e,an,cx b];simp only [show (ew V v a != 0)=true by simpa using b,cr];exact ⟨t,rfl,h⟩
 .have o:=h.flags.len;have:=c.n;rw [e,an,cN b,b];simp only [show ((0:Int) != 0)=false from rfl,aZ];rw [LU (by omega),an,eT (h.flags.at_ i v f),an,bQ (cu (by omega)),an,e9];refine ⟨(t.1,t.2.set i (fl (g false v|| !(a==1)) (g true v||(a==1)))),?_,⟨h.tabs,h.len,h.few,h.top,h.ins,h.nd,h.code,h.flags.set h.nd f _⟩⟩;have d:=afB (g false v) (g true v);rcases hb with rfl|rfl
  .rw [d.2.2.1];rfl
  .rw [d.2.2.2];rfl
theorem ajW{s:List Fd}(f:ij s){cap:Int}{t:Tr}{V:zi}{g:Gf}(h:rY s cap t V g){v:zB}(d:In s v)(a:Int):
  Md t s v a=some (Zs V g v a,ew V v a):=by
 unfold Md Zs;rcases abb f h d a with ⟨b,e⟩|⟨b,hb,i,hi,j,e⟩
 .rw [e,an,cx b];simp only [show (ew V v a != 0)=true by simpa using b,cr]
 .rw [e,an,cN b,b];simp only [show ((0:Int) != 0)=false from rfl,aZ];rw [eT (h.flags.at_ i v j),an,bQ (cu (by omega))];have c:=aeC (g false v) (g true v);rcases hb with rfl|rfl
  .rw [c.2.2.2.2.1];rfl
  .rw [c.2.2.2.2.2];rfl
end So
namespace So
def we(a:Int)(k:Nat):Int:=u8.wrap (gT .i64 a (k:Int))
def ED(n:Nat):zB:=[we n 0,we n 8,we n 16,we n 24]
theorem ajX(n:Nat):we n 0=(n:Int)%256/\we n 8=(n:Int)/256%256/\we n 16=(n:Int)/65536%256/\we n 24=(n:Int)/16777216%256:=by
 refine ⟨?_,?_,?_,?_⟩
 .show u8.wrap ((n:Int)/1)=_;rw [IntKind.wrap_u8];omega
 .show u8.wrap ((n:Int)/256)=_;rw [IntKind.wrap_u8]
 .show u8.wrap ((n:Int)/65536)=_;rw [IntKind.wrap_u8]
 .show u8.wrap ((n:Int)/16777216)=_;rw [IntKind.wrap_u8]
theorem asN{a b:Nat}(c:a<4294967296)(hb:b<4294967296)(h:ED a=ED b):a=b:=by obtain ⟨a0,k,j,i⟩:=ajX a;obtain ⟨g,f,e,d⟩:=ajX b;simp only [ED,nI,uc] at h;omega
theorem auj(n:Nat):By (ED n):=λx hx=>by simp only [ED,pa,xc,or_false] at hx;obtain ⟨a0,c,b,a⟩:=ajX n;rcases hx with rfl|rfl|rfl|rfl <;> omega
theorem aoj(row:zB)(n:Nat)(c:row.length<100000):pS row [(n:Int)]=some (row++ED n):=by
 have b:∀k:(zB×Int)->Option zB,ax (tn 0 k (n:Int)) aA (row,0)=k (row++ED n,1):=by
  intro k;refine yT (λi=>(row++(ED n).take i,(i:Int))) 4 (by simp) (by omega) (λi hi a=>?_) (λa=>?_)
  .unfold tn;dsimp only;have d:(row++(ED n).take i).length<=row.length+4:=by rw [cO,b9];show _+min i 4<=_;omega
   rw [cu (show (i:Int)<4 by omega),cr,dP (show _/\8*(i:Int)<=_ by omega),bQ (cu (show (0:Int)<=8*(i:Int) by omega)),bQ (dH (by simp only [qd];omega) (by simp only [qd];omega)),nx (show i<9223372036854775807 by omega),b0];congr 3
   match i,hi with
   |0,_=>rfl
   |1,_=>rfl
   |2,_=>rfl
   |3,_=>rfl
   |_+4,hi=>omega
  .unfold tn;dsimp only;rw [show decide (((4:Nat):Int)<4)=false from rfl,aZ,ei (show (ED n).length<=4 from b7 4)];rfl
 unfold pS;refine yT (λi=>(if i=0 then row else row++ED n,(i:Int))) 1 rfl (by omega) (λi hi k=>?_) (λk=>?_)
 .have:i=0:=by omega
  subst this;unfold Ae;dsimp only;rw [show decide (((0:Nat):Int)<(([(n:Int)]:zB).length:Int))=true from rfl,cr,show idx [(n:Int)] ((0:Nat):Int)=some (n:Int) from rfl,an];exact b k
 .unfold Ae;dsimp only;rw [show decide (((1:Nat):Int)<(([(n:Int)]:zB).length:Int))=false from rfl,aZ];rfl
def rowOf(ps:zC):zB:=ps.flatMap ED
theorem On(ps:zC):(rowOf ps).length=4*ps.length:=by
 induction ps with
 |nil=>rfl
 |cons p ps ih=>simp only [rowOf,List.flatMap_cons,cO,p0] at *; rw [ih];show 4+_=_;omega
theorem Yu(ps:zC)(n:Nat):rowOf (ps++[n])=rowOf ps++ED n:=by simp [rowOf]
theorem O0:∀{a b:zC},a.length=b.length->(∀x∈a,x<4294967296)->(∀x∈b,x<4294967296)->rowOf a=rowOf b->a=b
 |[],[],_,_,_,_=>rfl
 |[],_::_,h,_,_,_=>by simp at h
 |_::_,[],h,_,_,_=>by simp at h
 |a::aa,b::bb,h,ha,hb,e=>by have e':=List.append_inj (show ED a++rowOf aa=ED b++rowOf bb from e) rfl;rw [asN (ha a (by simp)) (hb b (by simp)) e'.1,O0 (by simpa using h) (λx hx=>ha x (by simp [hx])) (λx hx=>hb x (by simp [hx])) e'.2]
theorem abE{ps:zC}(h:ps.length<100):Key (rowOf ps):=by refine ⟨λx hx=>?_,by rw [On];omega⟩;simp only [rowOf,List.mem_flatMap] at hx;obtain ⟨n,_,hx⟩:=hx;exact auj n x hx
def ch{α:Type}(l:List α)(i:Nat):List α:=(l.drop (2*i)).take 2
def ga(s:List Fd):Nat:=(s.length+1)/2
theorem XD(l:List α){n i:Nat}(a:n=l.length)(h:2*i<n):br l ((2*i:Nat):Int) ((min n (2*i+2):Nat):Int)=ch l i:=by
 unfold br ch;rw [e9,e9];by_cases b:2*i+2<=n
 .rw [show min n (2*i+2)-2*i=2 by omega]
 .rw [ei (by simp;omega),ei (by simp;omega)]
theorem Ql{s:List Fd}(h:In s v)(i:Nat):In (ch s i) (ch v i):=(h.drop (2*i)).take 2
theorem Yy{s:List Fd}(h:gz s)(i:Nat):gz (ch s i):=(h.drop (2*i)).take 2
theorem avb{l l':zB}{n:Nat}(b:l.length=n)(a:l'.length=n)(h:∀i,i<(n+1)/2->ch l i=ch l' i):l=l':=by
 refine nc λk=>?_;by_cases c:k<n
 .have e:=congrArg (λx=>x[k%2]?) (h (k/2) (by omega));simp only [ch,mo,lk] at e;rw [cN (by omega),cN (by omega),ua] at e;exact e
 .rw [cw (by omega),cw (by omega)]
structure Pl(P:List Tb)(s:List Fd)(v:zB)(m:Nat)(ps:zC):Prop where
 len:ps.length=m
 at_:∀i,i<m->∃p t,ps[i]? =some p/\P[i]? =some t/\t.2.1[p]? =some (enc (ch s i) (ch v i))
theorem Pl.fn{P:List Tb}(nd:Nd P){s:List Fd}{v:zB}{m:Nat}{ps a:zC}(h:Pl P s v m ps)(e:Pl P s v m a):ps=a:=by
 refine nc λi=>?_;by_cases hi:i<m
 .obtain ⟨p,t,e1,e2,e3⟩:=h.at_ i hi;obtain ⟨p',t',d,b,c⟩:=e.at_ i hi;rw [e2] at b;cases b;rw [e1,d,aeq (nd i t e2) e3 c]
 .rw [cw (by have:=h.len;omega),cw (by have:=e.len;omega)]
theorem Pl.inj{P:List Tb}{s:List Fd}{v v':zB}(e:In s v)(a:In s v'){ps:zC}(h:Pl P s v (ga s) ps)(f:Pl P s v' (ga s) ps):v=v':=by refine avb e.len a.len λi hi=>?_;obtain ⟨p,t,e1,e2,e3⟩:=h.at_ i hi;obtain ⟨p',t',d,c,b⟩:=f.at_ i hi;rw [e2] at c;cases c;rw [e1] at d;cases d;rw [e3] at b;exact ajD (Ql e i) (Ql a i) (du b)
theorem Pl.ext{P a:List Tb}(b:Ext P a){s:List Fd}{v:zB}{m:Nat}{ps:zC}(h:Pl P s v m ps):Pl a s v m ps:=
 ⟨h.len,λi hi=>by obtain ⟨p,t,e1,e2,e3⟩:=h.at_ i hi;obtain ⟨t',d,c⟩:=b i t e2;exact ⟨p,t',e1,d,af7 c e3⟩⟩
theorem Pl.snoc{P:List Tb}{s:List Fd}{p:Nat}{t:Tb}{ps:zC}(h:Pl P s v m ps)(a:P[m]? =some t)(hp:t.2.1[p]? =some (enc (ch s m) (ch v m))):Pl P s v (m+1) (ps++[p]):=by
 refine ⟨by simp [h.len],λi hi=>?_⟩;by_cases e:i<m
 .obtain ⟨p',t',e1,e2,e3⟩:=h.at_ i e;exact ⟨p',t',by rw [cy (by rw [h.len];exact e)];exact e1,e2,e3⟩
 .have:i=m:=by omega
  subst this;exact ⟨p,t,by rw [ca (by rw [h.len];omega),h.len];simp,a,hp⟩
theorem Pl.small{P:List Tb}{cap:Int}(a:yY P cap){s:List Fd}{v:zB}{m:Nat}{ps:zC}(h:Pl P s v m ps):∀x∈ps,x<4294967296:=by intro x hx;obtain ⟨i,hi,e⟩:=oq hx;obtain ⟨p,t,e1,e2,e3⟩:=h.at_ i (by rw [<-h.len];exact hi);rw [e] at e1;cases e1;have:=oZ e3;have:=(a.ti i t e2).n;omega
abbrev Co:=List Tb×Tb×zB
structure NS(s:List Fd)(cap:Int)(c:Co)(V:zi)(g:Gf):Prop where
 tabs:yY c.1 cap
 plen:c.1.length=ga s
 few:∀(r:Nat) (x:Tb),c.1[r]? =some x->x.2.1.length<=V.length
 rows:TI c.2.1
 rcap:c.2.1.1=cap
 rlen:c.2.1.2.1.length=V.length
 ins:∀v∈V,In s v
 nd:V.Nodup
 code:∀(j:Nat) v,V[j]? =some v->∃ps,Pl c.1 s v (ga s) ps/\c.2.1.2.1[j]? =some (rowOf ps)
 flags:Flags V g c.2.2
theorem amE{s:List Fd}(j:gz s){v:zB}(g:In s v){c:Co}{cap:Int}(u:yY c.1 cap)(A:c.1.length=ga s)(z:TI c.2.1):
  ∀(d i:Nat) (x:Int) (ps:zC) (M:Nat),i+d=ga s->d<M->Pl c.1 s v i ps->
   (∃a,Pl c.1 s v (ga s) a/\ax (nX c s (s,v)) M ((i:Int),x,rowOf ps)=(dK c.2.1 (rowOf a)).bind λr=>bif (!r.2) then some (-1) else some r.1)\/
   ((∀a,¬Pl c.1 s v (ga s) a)/\ax (nX c s (s,v)) M ((i:Int),x,rowOf ps)=some (-1)):=by
 have B:=j.few;intro d
 induction d with
 |zero=>
  intro i x ps M hi w b;obtain ⟨m,rfl⟩:∃m,M=m+1:=⟨M-1,by omega⟩;rw [bF];have:i=ga s:=by omega
  subst this;refine .inl ⟨ps,b,?_⟩;unfold nX;dsimp only;unfold ga;rw [dP (show _/\(((s.length+1)/2:Nat):Int)*2<=_ by omega),cM (by omega),aZ]
 |succ d ih=>
  intro i x ps M hi w b;obtain ⟨m,rfl⟩:∃m,M=m+1:=⟨M-1,by omega⟩;rw [bF];have e:i<ga s:=by omega
  have f:2*i<s.length:=by unfold ga at e;omega
  have q:ga s<=9:=by unfold ga;omega
  have h:c.1[i]? =some (c.1[i]'(by omega)):=aT _;have n:=u.ti i _ h;have l:=QO (Yy j i) (Ql g i);unfold nX;dsimp only;rw [dP (show _/\(i:Int)*2<=_ by omega),cu (show (i:Int)*2<(s.length:Int) by omega),cr,nx (show i<9223372036854775807 by omega),dP (show _/\((i+1:Nat):Int)*2<=_ by omega),
   show (i:Int)*2=((2*i:Nat):Int) by omega,show min (s.length:Int) (((i+1:Nat):Int)*2)=((min s.length (2*i+2):Nat):Int) by omega,
   bQ (IE (by omega) (by omega)),bQ (IE (by omega) (by rw [g.len];omega)),XD s rfl f,XD v g.len.symm f,Pc (Yy j i) (Ql g i),an,eT h,an]
  dsimp only;by_cases k:enc (ch s i) (ch v i)∈(c.1[i]'(by omega)).2.1
  .obtain ⟨p,hp,o⟩:=oq k;rw [(kQ n l).1 p o,an];dsimp only;rw [mN,aZ,aoj _ _ (by rw [On,b.len];omega),an,aZ,<-Yu];exact ih (i+1) x (ps++[p]) m (by omega) (by omega) (b.snoc h o)
  .rw [(kQ n l).2 k,an];refine .inr ⟨λa y=>?_,rfl⟩;obtain ⟨p,t,_,e2,e3⟩:=y.at_ i e;rw [h] at e2;cases e2;exact k (ej e3)
theorem UE{s:List Fd}(y:gz s){cap:Int}{c:Co}{V:zi}{g:Gf}(h:NS s cap c V g){v:zB}(x:In s v):
  (∃i:Nat,i<V.length/\V[i]? =some v/\v∈V/\mR c s v=some (i:Int))\/(v∉V/\mR c s v=some (-1)):=by
 have B:=y.few;have z:ga s<=9:=by unfold ga;omega
 have r:=h.tabs.nd;have A:mR c s v=ax (nX c s (s,v)) aA (((0:Nat):Int),0,rowOf []):=by unfold mR ng;rw [an];rfl
 rw [A];rcases amE y x h.tabs h.plen h.rows (ga s) 0 0 [] aA (by omega) (by show ga s<2^64;omega) ⟨rfl,λi hi=>by omega⟩ with ⟨ps,a,e⟩|⟨q,e⟩
 .rw [e];have d:=abE (ps:=ps) (by rw [a.len];omega);by_cases n:rowOf ps∈c.2.1.2.1
  .obtain ⟨j,t,m⟩:=oq n;have k:j<V.length:=by rw [<-h.rlen];exact t
   have b:V[j]? =some V[j]:=aT k;obtain ⟨f,l,o⟩:=h.code j _ b;rw [m] at o;have p:=O0 (by rw [a.len,l.len]) (a.small h.tabs) (l.small h.tabs) (du o);subst p;have u:=h.ins _ (j0 k);have:=l.inj u x a;rw [this] at b;exact .inl ⟨j,k,b,ej b,by rw [(kQ h.rows d).1 j m];rfl⟩
  .refine .inr ⟨λw=>?_,by rw [(kQ h.rows d).2 n];rfl⟩;obtain ⟨j,t,m⟩:=oq w;obtain ⟨f,l,o⟩:=h.code j v m;rw [a.fn r l] at n;exact n (ej o)
 .refine .inr ⟨λw=>?_,e⟩;obtain ⟨j,t,m⟩:=oq w;obtain ⟨f,l,_⟩:=h.code j v m;exact q f l
theorem aoX{s:List Fd}(D:gz s){v:zB}(C:In s v){c:Co}{cap:Int}(Q:c.2.2.length<100000000):
  ∀(d i:Nat) (P:List Tb) (ps:zC) (M:Nat),i+d=ga s->d<M->yY P cap->P.length=ga s->Pl P s v i ps->(∀(r:Nat) (x:Tb),i<=r->P[r]? =some x->(x.2.1.length:Int)<cap)->
   ∃B j,Pl B s v (ga s) j/\Grown P B cap i (ga s)/\ax (jm c s (s,v)) M ((i:Int),P,rowOf ps)=(cq c.2.1 (rowOf j)).bind λr=>some ((B,r.1,c.2.2++[0]),true,0):=by
 have X:=D.few;intro d
 induction d with
 |zero=>
  intro i P ps M hi O q H l _;obtain ⟨m,rfl⟩:∃m,M=m+1:=⟨M-1,by omega⟩;rw [bF];have:i=ga s:=by omega
  subst this;refine ⟨P,ps,l,⟨q,Ext.refl P,rfl,λ_ _=>rfl,λr t t' e e'=>by rw [e] at e';cases e';omega⟩,?_⟩;unfold jm;dsimp only;rw [dP (show _/\((ga s:Nat):Int)*2<=_ by unfold ga;omega),cM (by unfold ga;omega),aZ,Qg];cases cq c.2.1 (rowOf ps) with
  |none=>rfl
  |some r=>rw [an,an,bQ (Kf _),bQ (dH (by simp;omega) (by simp;omega))]
 |succ d ih=>
  intro i P ps M hi O q H l h;obtain ⟨m,rfl⟩:∃m,M=m+1:=⟨M-1,by omega⟩;rw [bF];have E:i<ga s:=by omega
  have A:2*i<s.length:=by unfold ga at E;omega
  have K:ga s<=9:=by unfold ga;omega
  have b:i<P.length:=by omega
  have o:P[i]? =some P[i]:=aT b;have N:=q.ti i _ o;have L:=QO (Yy D i) (Ql C i);obtain ⟨t',f,e,p,W,V,U,T,S,R⟩:=ajt N L (.inr (by rw [q.cap i _ o];exact h i _ (b7 _) o));have w:Grown P (P.set i t') cap i (i+1):=by
   refine ⟨⟨λr u a=>?_,λr u a=>?_⟩,λr u a=>?_,by simp,λr G=>?_,λr u u' a g=>?_⟩
   .rw [gb b] at a;split at a
    .cases a;exact V
    .exact q.ti r u a
   .rw [gb b] at a;split at a
    .cases a;rw [U];exact q.cap i _ o
    .exact q.cap r u a
   .by_cases e:i=r
    .subst e;rw [o] at a;cases a;exact ⟨t',by rw [gb b,cN rfl],T⟩
    .exact ⟨u,by rw [gb b,cx e];exact a,x3 _⟩
   .rw [gb b,cx (by omega)]
   .rw [gb b] at g;split at g
    next e=>subst e;cases g;rw [o] at a;cases a;exact R
    .rw [a] at g;cases g;omega
  obtain ⟨B,j,J,y,I⟩:=ih (i+1) (P.set i t') (ps++[p]) m (by omega) (by omega) w.tabs (by simpa using H) ((l.ext w.ext).snoc (by rw [gb b,cN rfl]) S) (λr x G hx=>h r x (by omega) (by rw [<-w.out r (by omega)];exact hx));refine ⟨B,j,J,⟨y.tabs,w.ext.trans y.ext,by rw [y.len];simp,λr G=>?_,λr t F z n=>?_⟩,?_⟩
  .rw [y.out r (by omega),w.out r (by omega)]
  .by_cases Y:r=i
   .rw [y.out r (by omega)] at n;exact w.one r t F z n
   .exact y.one r t F (by rw [w.out r (by omega)];exact z) n
  .rw [<-I];generalize ax (jm c s (s,v)) m=k;unfold jm;dsimp only;rw [dP (show _/\(i:Int)*2<=_ by omega),cu (show (i:Int)*2<(s.length:Int) by omega),cr,nx (show i<9223372036854775807 by omega),dP (show _/\((i+1:Nat):Int)*2<=_ by omega),
    show (i:Int)*2=((2*i:Nat):Int) by omega,show min (s.length:Int) (((i+1:Nat):Int)*2)=((min s.length (2*i+2):Nat):Int) by omega,
    bQ (IE (by omega) (by omega)),bQ (IE (by omega) (by rw [C.len];omega)),XD s rfl A,XD v C.len.symm A,Pc (Yy D i) (Ql C i),an,eT o,an]
   dsimp only;rw [W,an];dsimp only;rw [aoj _ _ (by rw [On,l.len];omega),an,an,mN,aZ,<-Yu,e9]
theorem al8{l:List Tb}(h:l.length<1000000):dJ l=some l:=by unfold dJ;rw [bQ (dH (by omega) (by omega))]
theorem ahx{s:List Fd}{cap:Int}{c:Co}{g:Gf}(h:NS s cap c V g):A8 c=some (V.length:Int):=by unfold A8 xK;rw [an,h.rlen]
theorem alY{s:List Fd}(A:gz s){cap:Int}{c:Co}{V:zi}{g:Gf}(h:NS s cap c V g){v:zB}(l:In s v):
  ∃c',AX c s v=some (c',(yi cap V v).2)/\NS s cap c' (yi cap V v).1 g:=by
 have U:=A.few;have N:ga s<=9:=by unfold ga;omega
 unfold AX yi;rw [u5 s v (by have:=l.len;omega),oQ.2 l,an,show ((0:Int) != 0)=false from rfl,aZ];rcases UE A h l with ⟨i,hi,e,m,ef⟩|⟨m,ef⟩
 .rw [ef,an,cN m,cu (by omega)];exact ⟨c,rfl,h⟩
 .rw [ef,an,cx m,cM (by omega),aZ,ahx h,an,h.rcap];by_cases y:cap<=(V.length:Int)
  .rw [cu y,cN y];exact ⟨c,rfl,h⟩
  .have O:=h.flags.len;have Q:V.length<=1048576:=by have:=h.rows.n;have:=h.rlen;omega
   rw [cM y,cx y,aZ,al8 (by rw [h.plen];omega),an];obtain ⟨E,ps,o,f,M⟩:=aoX A l (c:=c) (cap:=cap) (by omega) (ga s) 0 c.1 [] aA (by omega) (by show ga s<2^64;omega) h.tabs h.plen ⟨rfl,λi hi=>by omega⟩ (λr x _ hx=>by have:=h.few r x hx;omega);have T:((ng s v).bind λz=>ax (jm c s z) aA (0,c.1,[]))=ax (jm c s (s,v)) aA (((0:Nat):Int),c.1,rowOf []):=by unfold ng;rw [an];rfl
   rw [T,M];have t:=abE (ps:=ps) (by rw [o.len];omega);have p:rowOf ps∉c.2.1.2.1:=λq=>by
    obtain ⟨j,C,R⟩:=oq q;have k:j<V.length:=by rw [<-h.rlen];exact C
    have D:V[j]? =some V[j]:=aT k;obtain ⟨L,I,H⟩:=h.code j _ D;rw [R] at H;have w:=I.ext f.ext;have B:=O0 (by rw [o.len,I.len]) (o.small f.tabs) (w.small f.tabs) (du H);subst B;have:=w.inj (h.ins _ (j0 k)) l o;exact m (this▸j0 k)
   obtain ⟨t',e1,e2,e3,S⟩:=Ka h.rows t p (by rw [h.rlen,h.rcap];omega);rw [e1,an];refine ⟨(E,t',c.2.2++[0]),rfl,⟨f.tabs,by show E.length=_;rw [f.len,h.plen],λr x hx=>?_,S,by show t'.1=cap;rw [e2,h.rcap],by show t'.2.1.length=_;rw [e3];simp [h.rlen],λu d=>?_,?_,λj u d=>?_,h.flags.add m⟩⟩
   .have G:r<c.1.length:=by rw [<-f.len];exact oZ hx
    have:=f.one r _ x (aT G) hx;have:=h.few r _ (aT G);simp;omega
   .rcases List.mem_append.1 d with d|d
    .exact h.ins u d
    .simp at d;subst d;exact l
   .exact List.nodup_append.2 ⟨h.nd,by simp,λa P b hb=>by simp at hb;subst hb;exact λe=>m (e▸P)⟩
   .show ∃ps,Pl E s u (ga s) ps/\t'.2.1[j]? =some (rowOf ps);rw [qI] at d;split at d
    .obtain ⟨J,K,F⟩:=h.code j u d;exact ⟨J,K.ext f.ext,by rw [e3,cy (oZ F)];exact F⟩
    .have C:j-V.length=0:=by
      by_cases e:j-V.length=0
      .exact e
      .rw [cw (by simp;omega)] at d;cases d
     rw [C] at d;simp at d;subst d;exact ⟨ps,o,by rw [e3,show j=c.2.1.2.1.length by rw [h.rlen];omega];simp⟩
theorem akM{s:List Fd}(d:gz s){cap:Int}{c:Co}{V:zi}{g:Gf}(h:NS s cap c V g){v:zB}(a:In s v):AS c s v=some (decide (v∈V),0):=by
 unfold AS;have:=d.few;rw [u5 s v (by have:=a.len;omega),oQ.2 a,an,show ((0:Int) != 0)=false from rfl,aZ];rcases UE d h a with ⟨i,_,_,b,e⟩|⟨b,e⟩
 .rw [e,an,cu b,cu (by omega)]
 .rw [e,an,cM b];rfl
theorem abC{s:List Fd}(f:gz s){cap:Int}{c:Co}{V:zi}{g:Gf}(h:NS s cap c V g){v:zB}(b:In s v)(a:Int):
  (ew V v a≠0/\Dq c s v a=some (0,ew V v a))\/(ew V v a=0/\(a=0\/a=1)/\∃i:Nat,i<V.length/\V[i]? =some v/\Dq c s v a=some ((i:Int),0)):=by
 unfold Dq ew;have:=f.few;rw [u5 s v (by have:=b.len;omega),oQ.2 b,an,show ((0:Int) != 0)=false from rfl,aZ];simp only [cR];rcases y7 a with hb|hb
 .rw [cN hb,show (decide (a<0)||decide (1<a))=true by simpa using hb];exact .inl ⟨by decide,rfl⟩
 .rw [cx (show ¬(a<0\/1<a) by omega),show (decide (a<0)||decide (1<a))=false by rcases hb with rfl|rfl <;> rfl,aZ];rcases UE f h b with ⟨i,hi,e,d,ef⟩|⟨d,ef⟩
  .rw [ef,an,cN d,cM (by omega)];exact .inr ⟨rfl,hb,i,hi,e,rfl⟩
  .rw [ef,an,cx d];exact .inl ⟨by decide,rfl⟩
theorem aln{s:List Fd}(k:gz s){cap:Int}{c:Co}{V:zi}{g:Gf}(h:NS s cap c V g){v:zB}(j:In s v)(a:Int):
  ∃c',Ln c s v a=some (c',ew V v a)/\NS s cap c' V (Z3 V g v a):=by
 unfold Ln Z3;rcases abC k h j a with ⟨b,e⟩|⟨b,hb,i,hi,f,e⟩
 .rw [e,an,cx b];simp only [show (ew V v a != 0)=true by simpa using b,cr];exact ⟨c,rfl,h⟩
 .have l:=h.flags.len;have:=h.rows.n;have:=h.rlen;rw [e,an,cN b,b];simp only [show ((0:Int) != 0)=false from rfl,aZ];rw [LU (by omega),an,eT (h.flags.at_ i v f),an,bQ (cu (by omega)),an,e9];refine ⟨(c.1,c.2.1,c.2.2.set i (fl (g false v|| !(a==1)) (g true v||(a==1)))),?_,⟨h.tabs,h.plen,h.few,h.rows,h.rcap,h.rlen,h.ins,h.nd,h.code,h.flags.set h.nd f _⟩⟩;have d:=afB (g false v) (g true v);rcases hb with rfl|rfl
  .rw [d.2.2.1];rfl
  .rw [d.2.2.2];rfl
theorem alT{s:List Fd}(j:gz s){cap:Int}{c:Co}{V:zi}{g:Gf}(h:NS s cap c V g){v:zB}(f:In s v)(a:Int):
  Lc c s v a=some (Zs V g v a,ew V v a):=by
 unfold Lc Zs;rcases abC j h f a with ⟨b,e⟩|⟨b,hb,i,hi,k,e⟩
 .rw [e,an,cx b];simp only [show (ew V v a != 0)=true by simpa using b,cr]
 .rw [e,an,cN b,b];simp only [show ((0:Int) != 0)=false from rfl,aZ];rw [eT (h.flags.at_ i v k),an,bQ (cu (by omega))];have d:=aeC (g false v) (g true v);rcases hb with rfl|rfl
  .rw [d.2.2.1];rfl
  .rw [d.2.2.2.1];rfl
theorem Yp{s:List Fd}(b:gz s)(a:Int):LQ s a=if a<0\/1048576<a then some (([],(0,[],[]),[]),1) else some ((List.replicate (ga s) (a,[],List.replicate 8 0),(a,[],List.replicate 8 0),[]),0):=by
 have c:=b.few;unfold LQ;rw [W2];by_cases h:a<0\/1048576<a
 .rw [cN h,cN h];rfl
 .rw [cx h,cx h,an];simp only [show ((0:Int) != 0)=false from rfl,aZ];have hb:i64.wrap (Int.tdiv (i64.wrap ((i64.wrap ((s.length:Int)+2))-1)) 2)=((ga s:Nat):Int):=by rw [dP (show _/\(s.length:Int)+2<=_ by omega),show (s.length:Int)+2-1=((s.length+1:Nat):Int) by omega,dP (show _/\((s.length+1:Nat):Int)<=_ by omega),show Int.tdiv ((s.length+1:Nat):Int) 2=((ga s:Nat):Int) from rfl,dP (by unfold ga;omega)]
  refine yT (λi=>(List.replicate i (a,[],List.replicate 8 0),(i:Int))) (ga s) (by simp) (by unfold ga;omega) (λi hi k=>?_) (λk=>?_)
  .have:ga s<=9:=by unfold ga;omega
   unfold Ia;dsimp only;rw [hb,lR hi,cr,W2,cx h,an];dsimp only;rw [bQ (dH (by simp;omega) (by simp;omega)),nx (by omega),<-List.replicate_succ' (n:=i)]
  .unfold Ia;dsimp only;rw [hb,pd (l9 _),aZ]
theorem akd(s:List Fd){a:Int}(d:0<=a)(c:a<=1048576):NS s a (List.replicate (ga s) (a,[],List.replicate 8 0),(a,[],List.replicate 8 0),[]) [] (λ_ _=>false):=by
 have b:∀(r:Nat) (x:Tb),(List.replicate (ga s) ((a,[],List.replicate 8 0):Tb))[r]? =some x->x=(a,[],List.replicate 8 0):=by
  intro r x hx;rw [qV] at hx;split at hx
  .exact (du hx).symm
  .cases hx
 exact ⟨⟨λr x hx=>by rw [b r x hx];exact Xq d c,λr x hx=>by rw [b r x hx]⟩,by simp,λr x hx=>by have:=b r x hx;subst this;simp,Xq d c,rfl,rfl,λv e=>by simp at e,qN,λi v h=>by simp at h,Flags.nil⟩
end So
variable {h : zB}
namespace Df
theorem an(x:α)(k:α->Option ρ):(some x).bind k=k x:=rfl
theorem cR(x:α)(k:α->Option ρ):aj x k=k x:=rfl
theorem bQ(k:Option ρ):aJ true k=k:=rfl
theorem fk(d:α)(m:Option α)(k:α->Option ρ):bm true d m k=m.bind k:=rfl
theorem gU(d:α)(m:Option α)(k:α->Option ρ):bm false d m k=k d:=rfl
theorem Dj(xs:List α)(k:Nat):idx xs (k:Int)=xs[k]? :=by simp [idx]
theorem dU{α:Type}{xs:List α}{k:Nat}(h:k<xs.length):idx xs (k:Int)=some xs[k]:=by rw [Dj,aT h]
theorem OG{xs:List α}{i:Int}(a:0<=i)(h:i<xs.length):∃x,idx xs i=some x:=by obtain ⟨k,rfl⟩:=qA a;exact ⟨_,dU (by omega)⟩
theorem Ju{l pre r:List α}{x:α}(h:l=pre++x::r):idx l (pre.length:Int)=some x:=by subst h;simp [idx]
theorem ai1{xs:List α}{i j:Int}{x:α}(a:0<=i)(hi:i<xs.length):idx (xs.set i.toNat x) j=if j=i then some x else idx xs j:=by
 unfold idx;split
 .rw [qK];by_cases h:j=i
  .subst h;simp;omega
  .simp [h];intro b;omega
 .have:j≠i:=by omega
  simp [this]
theorem lR{l pre r:List α}{x:α}(h:l=pre++x::r):decide ((pre.length:Int)<(l.length:Int))=true:=by subst h;simp;omega
theorem pd{l pre:List α}(h:l=pre++[]):decide ((pre.length:Int)<(l.length:Int))=false:=by subst h;simp
theorem Dh{n:Nat}(h:n<4611686018427387904):i64.wrap ((n:Int)+1)=((n+1:Nat):Int):=by rw [dP (by omega)];omega
theorem dH{k b:Nat}(h:k*b<=140737488355328)(a:k<=9223372036854775807):aH k b=true:=by simp only [aH,ah];exact ⟨qc h,qc a⟩
theorem afy{l m:List α}(c:l.Nodup)(h:∀x∈l,x∈m):l.length<=m.length:=by
 classical
 induction l generalizing m with
 |nil=>simp
 |cons x l ih=>
  have hx:=h x (by simp);have b:=List.nodup_cons.1 c;obtain ⟨s,t,rfl⟩:=List.append_of_mem hx;have:=ih (m:=s++t) b.2 λy a=>by
   have:=h y (by simp [a]);simp only [qt,pa] at this ⊢;rcases this with h|rfl|h
   .exact .inl h
   .exact absurd a b.1
   .exact .inr h
  simp at this ⊢; omega
theorem aaJ{i j:Int}(d:0<=i)(hi:i<h.length)(a:0<=j)(e:j<h.length):∃h',fm h i j=some h'/\h'.Perm h/\h'.length=h.length:=by
 obtain ⟨i,rfl⟩:=qA d;obtain ⟨j,rfl⟩:=qA a;have c:i<h.length:=by omega
 have b:j<h.length:=by omega
 refine ⟨(h.set i h[j]).set j h[i],?_,List.set_set_perm c b,by simp⟩;unfold fm;rw [dU b,dU c];simp only [an,e9];obtain ⟨x,hx⟩:∃x,idx (h.set i h[j]) (j:Int)=some x:=OG (xs:=h.set i h[j]) (i:=(j:Int)) a (by rw [oi];exact e);rw [hx];rfl
theorem ZH{i j:Int}(c:0<=i)(hi:i<h.length)(a:0<=j)(e:j<h.length):∃b,gD h i j=some b:=by unfold gD;obtain ⟨x,hx⟩:=OG c hi;obtain ⟨y,d⟩:=OG a e;rw [hx,d];exact ⟨_,rfl⟩
theorem aru:∀(n:Nat) (l:zB) (j:Nat),j<l.length->l.length<4611686018427387904->j<n->∃l',ax lU n (l,(j:Int))=some l'/\l'.Perm l
 |0,_,_,_,_,h=>by omega
 |n+1,l,j,hj,hl,hn=>by
  rw [bF];unfold lU;simp only [cR];rw [dP (x:=(j:Int)-1) (by omega)];by_cases m:j=0
  .subst m;refine ⟨l,?_,.refl _⟩;rfl
  .have hi:i64.wrap (Int.tdiv ((j:Int)-1) 2)=(((j-1)/2:Nat):Int):=by rw [show (j:Int)-1=((j-1:Nat):Int) by omega];rw [show Int.tdiv ((j-1:Nat):Int) 2=(((j-1)/2:Nat):Int) from rfl];exact dP (by omega)
   rw [hi];have a:((((j-1)/2:Nat):Int)==(j:Int))=false:=by simp;omega
   rw [a];obtain ⟨b,hb⟩:=ZH (h:=l) (i:=(j:Int)) (j:=(((j-1)/2:Nat):Int)) (by omega) (by omega) (by omega) (by omega);simp only [qo,fk,hb,an,n3];cases b
   .exact ⟨l,rfl,.refl _⟩
   .obtain ⟨f,k,d,e1⟩:=aaJ (h:=l) (i:=(((j-1)/2:Nat):Int)) (j:=(j:Int)) (by omega) (by omega) (by omega) (by omega);obtain ⟨e,g,c⟩:=aru n f ((j-1)/2) (by omega) (by omega) (by omega);refine ⟨e,?_,c.trans d⟩;simp only [mN,aZ,k,an];exact g
theorem ate(x:Int)(b:h.length<1099511627776):∃h',lC x h=some h'/\h'.Perm (x::h):=by unfold lC vp jM o8;rw [dH (by simp;omega) (by simp;omega)];simp only [bQ,an];rw [dP (by simp;omega)];rw [show ((List.length (h++[x]):Int)-1)=(h.length:Int) by simp];obtain ⟨l,a,p⟩:=aru aA (h++[x]) h.length (by simp) (by simp;omega) (by show _<2^64;omega);exact ⟨l,by rw [a];rfl,p.trans (List.perm_append_comm)⟩
theorem ajO{i0:Int}{m:Nat}:∀(n:Nat) (l:zB) (i:Nat),m<l.length->l.length<1099511627776->i<l.length->l.length-i<n->∃b l',ax (gI i0 (m:Int)) n (l,(i:Int))=some (b,l')/\l'.Perm l/\l'[m]? =l[m]?
 |0,_,_,_,_,_,h=>by omega
 |n+1,l,i,hm,hl,hi,hn=>by
  rw [bF];unfold gI;simp only [cR];rw [dP (x:=2*(i:Int)) (by omega),dP (x:=2*(i:Int)+1) (by omega),dP (x:=2*(i:Int)+1+1) (by omega)];by_cases s:m<=2*i+1
  .have:decide ((m:Int)<=2*(i:Int)+1)=true:=by simp;omega
   rw [this];exact ⟨_,l,rfl,.refl _,rfl⟩
  .have:decide ((m:Int)<=2*(i:Int)+1)=false:=by simp;omega
   rw [this];have:decide (2*(i:Int)+1<0)=false:=by simp;omega
   rw [this];simp only [Bool.or_false,aZ];have K:∀j:Nat,i<j->j<m->∃b l',nr i0 l (i:Int) (ax (gI i0 (m:Int)) n) (j:Int)=some (b,l')/\l'.Perm l/\l'[m]? =l[m]? :=by
    intro j p o;unfold nr;obtain ⟨b,hb⟩:=ZH (h:=l) (i:=(j:Int)) (j:=(i:Int)) (by omega) (by omega) (by omega) (by omega);rw [hb,an];cases b
    .exact ⟨_,l,rfl,.refl _,rfl⟩
    .obtain ⟨k,c,f,e1⟩:=aaJ (h:=l) (i:=(i:Int)) (j:=(j:Int)) (by omega) (by omega) (by omega) (by omega);have a:=c;obtain ⟨b,g,q,e,d⟩:=ajO (i0:=i0) (m:=m) n k j (by omega) (by omega) (by omega) (by omega);refine ⟨b,g,?_,e.trans f,?_⟩
     .simp only [mN,aZ,c,an];exact q
     .rw [d];unfold fm at a;obtain ⟨x,_,a⟩:=iy a;obtain ⟨y,_,a⟩:=iy a;obtain ⟨z,_,a⟩:=iy a;obtain ⟨u,_,a⟩:=iy a;cases a;rw [qj (show ((j:Nat):Int).toNat≠m by omega),qj (show ((i:Nat):Int).toNat≠m by omega)]
   by_cases r:2*i+2<m
   .have:decide (2*(i:Int)+1+1<(m:Int))=true:=by simp;omega
    rw [this];obtain ⟨b,hb⟩:=ZH (h:=l) (i:=2*(i:Int)+1+1) (j:=2*(i:Int)+1) (by omega) (by omega) (by omega) (by omega);simp only [fk,hb,an,qm];cases b
    .exact K (2*i+1) (by omega) (by omega)
    .exact K (2*i+2) (by omega) (by omega)
   .have:decide (2*(i:Int)+1+1<(m:Int))=false:=by simp;omega
    rw [this];simp only [gU,q6,aZ];exact K (2*i+1) (by omega) (by omega)
theorem au8(n:h≠[])(o:h.length<1099511627776):∃x h',mf h=some (x,h')/\(x::h').Perm h:=by
 have hp:0<h.length:=List.length_pos_iff.2 n;unfold mf jM;rw [an,dP (by omega),show ((h.length:Int)-1)=((h.length-1:Nat):Int) by omega];obtain ⟨f,l,g,e1⟩:=aaJ (h:=h) (i:=0) (j:=((h.length-1:Nat):Int)) (by omega) (by omega) (by omega) (by omega);rw [l,an];unfold rb;obtain ⟨b,a,c,d,_⟩:=ajO (i0:=0) (m:=h.length-1) aA f 0 (by omega) (by omega) (by omega) (by show _<2^64;omega);have c:ax (gI 0 ((h.length-1:Nat):Int)) aA (f,0)=some (b,a):=c;rw [c,an];unfold xr;simp only [];have k:a.length=h.length:=by rw [d.length_eq,e1]
 rw [dP (by omega),show ((a.length:Int)-1)=((a.length-1:Nat):Int) by omega,dU (by omega)];simp only [an];rw [y4.2 (by omega),bQ];refine ⟨_,_,rfl,?_⟩;have:br a 0 ((a.length-1:Nat):Int)=a.take (a.length-1):=by simp [br]
 rw [this];refine List.Perm.trans ?_ (d.trans g);have e:a=a.take (a.length-1)++[a[a.length-1]'(by omega)]:=by
  conv=>lhs;rw [<-qb (a.length-1) a]
  congr 1;rw [qG (by omega),mE (by omega)]
 conv=>rhs;rw [e]
 exact (List.perm_append_comm (l₁:=[_]))
end Df
namespace Df
abbrev Nd:=zk×Int
def nx(N:List Nd)(i:Int):zk:=((idx N i).getD ([],0)).1
def rf(N:List Nd)(i:Int):Int:=((idx N i).getD ([],0)).2
def tg(N:List Nd)(i:Int):zB:=(nx N i).map (·.2)
theorem Bz{N:List Nd}{i:Int}(a:0<=i)(h:i<N.length):idx N i=some (nx N i,rf N i):=by obtain ⟨x,hx⟩:=OG a h;simp [nx,rf,hx]
theorem OC{N:List Nd}{i j:Int}{x:Nd}(a:0<=i)(hi:i<N.length):nx (N.set i.toNat x) j=if j=i then x.1 else nx N j:=by unfold nx;rw [ai1 a hi];split <;> rfl
theorem PC{N:List Nd}{i j:Int}{x:Nd}(a:0<=i)(hi:i<N.length):rf (N.set i.toNat x) j=if j=i then x.2 else rf N j:=by unfold rf;rw [ai1 a hi];split <;> rfl
def BV(l:zk):Prop:=l.Pairwise (λa b=>a.1<b.1)/\∀e∈l,0<=e.1/\e.1<256
def At(N:List Nd)(A:zB):Nat->Int->Prop
 |0,i=>i∈A/\nx N i=[]
 |h+1,i=>i∈A/\nx N i≠[]/\BV (nx N i)/\∀e∈nx N i,At N A h e.2
theorem At.mem{N:List Nd}{A:zB}:∀{h:Nat} {i:Int},At N A h i->i∈A
 |0,_,a=>a.1
 |_+1,_,a=>a.1
theorem At.NF{N:List Nd}{A:zB}:∀{h:Nat} {i:Int},At N A h i->BV (nx N i)
 |0,_,a=>by rw [a.2];exact ⟨List.Pairwise.nil,by simp⟩
 |_+1,_,a=>a.2.2.1
theorem At.cE{N N':List Nd}{A b:zB}(c:∀j∈b,j∈A->nx N' j=nx N j)(d:∀j∈b,j∈A->∀e∈nx N j,e.2∈A->e.2∈b):∀{h:Nat} {i:Int},At N A h i->i∈b->At N' b h i
 |0,_,a,m=>⟨m,by rw [c _ m a.1];exact a.2⟩
 |h+1,i,a,m=>by
  have e:=c i m a.1;exact ⟨m,by rw [e];exact a.2.1,by rw [e];exact a.2.2.1,λx hx=>by rw [e] at hx;exact At.cE c d (a.2.2.2 x hx) (d i m a.1 x hx (a.2.2.2 x hx).mem)⟩
theorem At.grow{N N':List Nd}{A c:zB}(b:∀j∈A,j∈c)(d:∀j∈A,nx N' j=nx N j){h:Nat}{i:Int}(a:At N A h i):At N' c h i:=
 a.cE (λj _ e=>d j e) (λ_ _ _ _ _ h=>b _ h) (b _ a.mem)
def acc(N:List Nd):zB->Int->Prop
 |[],_=>True
 |b::w,i=>∃e∈nx N i,e.1=b/\acc N w e.2
theorem acc.same{N N':List Nd}{A:zB}(c:∀j∈A,nx N' j=nx N j):∀{h:Nat} {i:Int},At N A h i->∀{w:zB},w.length=h->(acc N' w i↔acc N w i)
 |0,_,_,[],_=>Iff.rfl
 |h+1,i,a,b::w,hw=>by unfold acc;rw [c i a.1];exact exists_congr λe=>⟨λ⟨m,x,y⟩=>⟨m,x,(acc.same c (a.2.2.2 e m) (by simpa using hw)).1 y⟩,λ⟨m,x,y⟩=>⟨m,x,(acc.same c (a.2.2.2 e m) (by simpa using hw)).2 y⟩⟩
theorem agt{l:zk}(h:BV l){a b:Int×Int}(f:a∈l)(hb:b∈l)(e:a.1=b.1):a=b:=by
 replace h:=h.1
 induction l with
 |nil=>cases f
 |cons x l ih=>
  have hp:=List.pairwise_cons.1 h;rcases List.mem_cons.1 f with d|d <;> rcases List.mem_cons.1 hb with c|c
  .rw [d,c]
  .have:=hp.1 b c;rw [d] at e;omega
  .have:=hp.1 a d;rw [c] at e;omega
  .exact ih d c hp.2
theorem aqb{N:List Nd}{i b:Int}{w:zB}(d:BV (nx N i)){e:Int×Int}(a:e∈nx N i)(hb:e.1=b):acc N (b::w) i↔acc N w e.2:=
 ⟨λ⟨x,hx,c,h⟩=>by rw [agt d a hx (by omega)];exact h,λh=>⟨e,a,hb,h⟩⟩
structure Inv(N:List Nd)(F Z A X T:zB)(W:Nat):Prop where
 nd:(A++F++Z).Nodup
 rng:∀i,i∈A++F++Z↔0<=i/\i<N.length
 cnt:∀i,rf N i=((A.flatMap (tg N)++X).count i:Nat)
 dead:∀i,i∉A->rf N i=0
 top:∀i∈A,rf N i=0->i∈T
 dist:∀i∈A,∀j∈A,nx N i=nx N j->i=j
 good:∀i∈A,∃h,h<=W/\At N A h i
variable {N : List Nd} {F Z A X T : zB} {W : Nat}
theorem Inv.range(I:Inv N F Z A X T W){i:Int}(h:i∈A):0<=i/\i<N.length:=(I.rng i).1 (by simp [h])
theorem Inv.closed(I:Inv N F Z A X T W){i:Int}(h:i∈A){e:Int×Int}(b:e∈nx N i):e.2∈A:=by
 obtain ⟨k,_,a⟩:=I.good i h;cases k with
 |zero=>rw [a.2] at b;cases b
 |succ k=>exact (a.2.2.2 e b).mem
theorem Inv.ext(I:Inv N F Z A X T W){i:Int}(h:i∈X):i∈A:=by
 by_cases a:i∈A
 .exact a
 .have c:=I.dead i a;have b:=I.cnt i;have:0<X.count i:=List.count_pos_iff.2 h;rw [pc] at b;omega
theorem Inv.pos(I:Inv N F Z A X T W)(i:Int):0<=rf N i:=by rw [I.cnt];omega
theorem Inv.led(I:Inv N F Z A X T W){j i:Int}(a:j∈A)(h:i∈tg N j):0<rf N i:=by rw [I.cnt];have:0<(A.flatMap (tg N)++X).count i:=List.count_pos_iff.2 (by simp only [qt,List.mem_flatMap];exact .inl ⟨j,a,h⟩);omega
end Df
namespace Df
theorem atF(x y:Int):lg x y=some (if x<y then -1 else if y<x then 1 else 0):=by
 unfold lg tB;simp only [an,show (x != x)=false by simp,show (y != y)=false by simp,aZ];by_cases h:x<y
 .simp [h]
 .by_cases a:y<x <;> simp [h,a]
theorem arv(e:Int×Int)(y:Int):BD e y=some (if e.1<y then -1 else if y<e.1 then 1 else 0):=by unfold BD;rw [atF];rfl
theorem avf{i j:Nat}(h:i+j<4611686018427387904):i64.wrap (gT .u64 (u64.wrap (i64.wrap ((i:Int)+j))) 1)=(((i+j)/2:Nat):Int):=by
 rw [dP (x:=(i:Int)+j) (by omega)];have:u64.wrap ((i:Int)+j)=(i:Int)+j:=by show ((i:Int)+j)%(2^64)=_;omega
 rw [this];have:gT .u64 ((i:Int)+j) 1=((i:Int)+j)/2:=rfl;rw [this,dP (by omega)];omega
theorem ZG{x:zk}{t:Int}(f:x.Pairwise (λa b=>a.1<b.1))(hx:x.length<1099511627776):∀(n i j:Nat),i<=j->j<=x.length->
  (∀k (c:k<x.length),k<i->x[k].1<t)->(∀k (c:k<x.length),j<=k->t<=x[k].1)->j-i<n->
  ∃(m:Nat) (b:Bool),ax (cD x t) n ((i:Int),(j:Int))=some ((m:Int),b)/\m<=x.length/\(∀k (c:k<x.length),k<m->x[k].1<t)/\(∀k (c:k<x.length),m<=k->t<=x[k].1)/\(b=true↔ ∃h:m<x.length,x[m].1=t)
 |0,_,_,_,_,_,_,h=>by omega
 |n+1,i,j,hij,hj,h1,h2,hn=>by
  rw [bF];unfold cD;have hp:=List.pairwise_iff_getElem.1 f;simp only [avf (show i+j<_ by omega),cR];by_cases h:i<j
  .rw [show decide ((i:Int)<(j:Int))=true by simpa using h,cr,dU (show (i+j)/2<x.length by omega),an,arv,an];by_cases l:(x[(i+j)/2]'(by omega)).1<t
   .simp only [l,qQ,show decide ((-1:Int)<0)=true from rfl,cr];rw [Dh (by omega)];exact ZG f hx n ((i+j)/2+1) j (by omega) hj (λk c g=>by
     by_cases e:k=(i+j)/2
     .subst e;exact l
     .have:=hp k ((i+j)/2) c (by omega) (by omega);omega) h2 (by omega)
   .have:decide ((if (x[(i+j)/2]'(by omega)).1<t then (-1:Int) else if t<(x[(i+j)/2]'(by omega)).1 then 1 else 0)<0)=false:=by simp only [l,qT];split <;> rfl
    rw [this,aZ];exact ZG f hx n i ((i+j)/2) (by omega) (by omega) h1 (λk c g=>by
     by_cases e:k=(i+j)/2
     .subst e;omega
     .have:=hp ((i+j)/2) k (by omega) c (by omega);omega) (by omega)
  .have:i=j:=by omega
   subst this;rw [show decide ((i:Int)<(i:Int))=false by simp,aZ];by_cases d:i<x.length
   .rw [show decide ((i:Int)<(x.length:Int))=true by simpa using d,fk,dU d,an,fk,arv,an];refine ⟨i,_,rfl,hj,h1,h2,?_⟩;have:=h2 i d (b7 _);simp only [d,exists_true_left,qm,kR];split
    .omega
    .split <;> omega
   .rw [show decide ((i:Int)<(x.length:Int))=false by simpa using d,gU,gU];exact ⟨i,_,rfl,hj,h1,h2,by simp [d]⟩
theorem arP{x:zk}(t:Int)(f:BV x)(hx:x.length<1099511627776):
  ∃(p q:zk),x=p++q/\(∀e∈p,e.1<t)/\(∀e∈q,t<=e.1)/\
   bJ x t=some ((p.length:Int),(q.head?.map (·.1))==some t):=by
 obtain ⟨m,b,h,g,j,i,hb⟩:=ZG (t:=t) f.1 hx aA 0 x.length (by omega) (by omega) (λk _ h=>by omega) (λk h l=>by omega) (by show _<2^64;omega);refine ⟨x.take m,x.drop m,(qb m x).symm,?_,?_,?_⟩
 .intro e c;obtain ⟨k,d,rfl⟩:=qq c;simp only [b9] at d;rw [q4];exact j k _ (by omega)
 .intro e c;obtain ⟨k,d,rfl⟩:=qq c;rw [q5];exact i (m+k) _ (by omega)
 .unfold bJ;have h:ax (cD x t) aA (0,(x.length:Int))=some ((m:Int),b):=h;rw [h,b9,et g];congr 2;rw [qh,hb,kR,List.head?_drop];by_cases a:m<x.length
  .rw [aT a];simp [a]
  .rw [cw (by omega)];simp [a]
theorem avh:cC=bJ:=rfl
theorem atP:Pf=Bd:=rfl
theorem arI{d:Int×List Nd×Int×Int×zB}{i:Int}(b:Int)(k:0<=i)(hi:i<d.2.1.length)(c:BV (nx d.2.1 i))(j:(nx d.2.1 i).length<1099511627776):
  (∃e∈nx d.2.1 i,e.1=b/\Bd d i b=some e.2)\/((∀e∈nx d.2.1 i,e.1≠b)/\Bd d i b=some (-1)):=by
 obtain ⟨p,q,hx,hp,g,h⟩:=arP b c j;unfold Bd;rw [show (i== -1)=false by simp;omega,aZ,Bz k hi];simp only [an];rw [h,an];cases q with
 |nil=>
  refine .inr ⟨λe a=>?_,rfl⟩;rw [hx] at a;have:=hp e (by simpa using a);omega
 |cons e q=>
  by_cases hb:e.1=b
  .refine .inl ⟨e,by rw [hx];simp,hb,?_⟩;simp only [List.head?_cons,mj,hb,x6,mN,aZ];rw [Ju hx];rfl
  .refine .inr ⟨λx a=>?_,?_⟩
   .rw [hx] at a c;rcases List.mem_append.1 a with a|a
    .have:=hp x a;omega
    .rcases List.mem_cons.1 a with rfl|f
     .exact hb
     .have m:=(List.pairwise_cons.1 (List.pairwise_append.1 c.1).2.1).1 x f;have l:=g e (by simp);omega
   .have:((List.head? (e::q)).map (·.1)==some b)=false:=by simp [hb]
    rw [this];rfl
theorem ajk{a b:zk}(c:a.length=b.length)(hb:a.length<1099511627776):∀(n k:Nat),k<=a.length->a.length-k<n->
  ax (gH a b) n (k:Int)=some (decide (a.drop k=b.drop k))
 |0,_,_,h=>by omega
 |n+1,k,hk,hn=>by
  rw [bF];unfold gH;by_cases h:k<a.length
  .rw [show decide ((k:Int)<(a.length:Int))=true by simpa using h,cr,dU h,dU (c▸h)];simp only [an];rw [Dh (by omega),qG h,qG (show k<b.length from c▸h)];unfold am1;by_cases e:a[k]=b[k]'(c▸h)
   .rw [<-e];simp only [x6,Bool.and_self,mN,aZ,nI,true_and];exact ajk c hb n (k+1) (by omega) (by omega)
   .have:(a[k].1==(b[k]'(c▸h)).1&&a[k].2==(b[k]'(c▸h)).2)=false:=by rw [nJ];intro d;simp only [ah,kR] at d;exact e (Prod.ext d.1 d.2)
    rw [this];simp only [qo,cr,cH];symm;rw [decide_eq_false_iff_not];intro d;exact e (List.cons.inj d).1
  .rw [show decide ((k:Int)<(a.length:Int))=false by simpa using h,aZ,mE (by omega),mE (by omega)];rfl
theorem avk{a b:zk}(hb:a.length<1099511627776):fD a b=some (decide (a=b)):=by
 unfold fD;by_cases c:a.length=b.length
 .rw [show ((a.length:Int) != (b.length:Int))=false by simp [c],aZ];exact ajk c hb aA 0 (by omega) (by show _<2^64;omega)
 .have:a≠b:=λe=>c (by rw [e]);rw [show ((a.length:Int) != (b.length:Int))=true by simp only [zb,ne_eq];omega,cr];simp [this]
theorem abq{N:List Nd}{A:zB}{y:List (Int×Bool)}{next:zk}(g:∀i:Int,0<=i->i<N.length->((0<rf N i\/eI (some y) i false=true)↔i∈A))(hb:∀i∈A,(nx N i).length<1099511627776)(o:N.length<1099511627776):∀(n k:Nat),k<=N.length->N.length-k<n->
  (∃i:Int,ax (gR next N (some y)) n (k:Int)=some (i,true)/\i∈A/\0<=i/\i<N.length/\nx N i=next)\/
  (ax (gR next N (some y)) n (k:Int)=some (-1,false)/\∀i∈A,(k:Int)<=i->i<N.length->nx N i≠next)
 |0,_,_,h=>by omega
 |n+1,k,hk,hn=>by
  rw [bF];unfold gR;by_cases h:k<N.length
  .rw [show decide ((k:Int)<(N.length:Int))=true by simpa using h,cr,Bz (by omega) (by omega)];simp only [an,cR];rw [Dh (by omega)];have ih:=abq (next:=next) g hb o n (k+1) (by omega) (by omega);have a:=g (k:Int) (by omega) (by omega);have go:(∀x:Int,x∈A->x=(k:Int)->nx N x≠next)->(∃i:Int,ax (gR next N (some y)) n ((k+1:Nat):Int)=some (i,true)/\i∈A/\0<=i/\i<N.length/\nx N i=next)\/
     (ax (gR next N (some y)) n ((k+1:Nat):Int)=some (-1,false)/\∀i∈A,(k:Int)<=i->i<N.length->nx N i≠next):=by
    intro d;rcases ih with h|⟨l,j⟩
    .exact .inl h
    .exact .inr ⟨l,λi hi m f=>by
      by_cases e:i=(k:Int)
      .exact d i hi e
      .exact j i hi (by omega) f⟩
   by_cases b:(k:Int)∈A
   .have:(decide (0<rf N (k:Int))||eI (some y) (k:Int) false)=true:=by simpa using a.2 b
    rw [this,fk,avk (hb _ b),an];by_cases c:nx N (k:Int)=next
    .left;exact ⟨(k:Int),by simp [c],b,by omega,by omega,c⟩
    .simp only [c,decide_false,Bool.and_false,aZ];exact go λx _ e=>by rw [e];exact c
   .have:(decide (0<rf N (k:Int))||eI (some y) (k:Int) false)=false:=by rw [nJ];intro p;exact b (a.1 (by simpa using p))
    rw [this,gU];simp only [q6,aZ];exact go λx hx e=>absurd (e▸hx) b
  .rw [show decide ((k:Int)<(N.length:Int))=false by simpa using h,aZ];exact .inr ⟨rfl,λi _ l j=>by omega⟩
end Df
namespace Df
theorem AB{l:zk}(h:BV l):l.length<=256:=by
 have d:(l.map (·.1)).Nodup:=by refine List.pairwise_map.2 (h.1.imp ?_);intro a b h;omega
 have:=afy d (m:=(List.range 256).map Int.ofNat) λx hx=>by obtain ⟨e,c,rfl⟩:=List.mem_map.1 hx;have:=h.2 e c;exact List.mem_map.2 ⟨e.1.toNat,by simp;omega,by simp;omega⟩
 simpa using this
theorem ank{l:List (Int×Bool)}{r i:Int}:j8 (iR l r true) i=if i=r then some true else j8 l i:=by
 induction l with
 |nil=>
  by_cases h:i=r
  .subst h;simp [iR,j8]
  .simp [iR,j8,h,show (i==r)=false by simpa using h]
 |cons p l ih=>
  unfold iR;by_cases h:r=p.1
  .subst h;simp only [x6,cr];by_cases a:i=p.1
   .subst a;simp [j8]
   .simp [j8,a,show (i==p.1)=false by simpa using a]
  .simp only [show (r==p.1)=false by simpa using h,aZ];by_cases a:i=p.1
   .subst a;simp [j8,Ne.symm h]
   .simp only [j8,show (i==p.1)=false by simpa using a,aZ,ih]
theorem WI{l:List (Int×Bool)}{r i:Int}:eI (some (iR l r true)) i false=true↔i=r\/eI (some l) i false=true:=by unfold eI;simp only [qD,ank];by_cases h:i=r <;> simp [h]
theorem aoC{N:List Nd}{F A X T:zB}{W:Nat}(I:Inv N F [] A X T W)(k:N.length<1099511627775)(wi ro ma:Int)(y:Option (List (Int×Bool))):
  ∃i N1 c,tK wi N ro ma F y=some (i,N1,c)/\(i::(A++c)).Nodup/\(∀j,j∈i::(A++c)↔0<=j/\j<N1.length)/\(∀j,j≠i->nx N1 j=nx N j/\rf N1 j=rf N j)/\rf N i=0/\N1.length<=N.length+1:=by
 unfold tK;have a:=I.nd;have b:=I.rng;simp only [hV] at a b;by_cases e:F=[]
 .subst e;simp only [hV] at a b;rw [show ((List.length ([]:zB):Int)==0)=true from rfl,cr,dH (by simp;omega) (by simp;omega),bQ];have f:((N.length:Nat):Int)∉A:=λh=>by have:=(b _).1 h;omega
  refine ⟨(N.length:Nat),N++[([],0)],[],?_,?_,?_,?_,I.dead _ f,by simp⟩
  .rw [dP (by simp;omega)];simp
  .simp only [hV];exact List.nodup_cons.2 ⟨f,a⟩
  .intro j;simp only [hV,pa,b j,cO,p0,qg];omega
  .intro j g;have:idx (N++[([],0)]) j=idx N j:=by
    unfold idx;split
    .by_cases h:j.toNat<N.length
     .rw [cy h]
     .rw [cw (by simp;omega),cw (by omega)]
    .rfl
   unfold nx rf;rw [this];exact ⟨rfl,rfl⟩
 .rw [show ((F.length:Int)==0)=false by simpa using e,aZ];have n:F.length<=N.length:=by
   have:=afy (l:=F) (List.nodup_append.1 a).2.1 (m:=(List.range N.length).map Int.ofNat) λx hx=>by have:=(b x).1 (by simp [hx]);exact List.mem_map.2 ⟨x.toNat,by simp;omega,by simp;omega⟩
   simpa using this
  obtain ⟨x,c,h,p⟩:=au8 e (by omega);rw [h,an];have d:(x::(A++c)).Perm (A++F):=(List.perm_middle.symm).trans (List.Perm.append_left A p);refine ⟨x,N,c,rfl,d.nodup_iff.2 a,λj=>(d.mem_iff).trans (b j),λ_ _=>⟨rfl,rfl⟩,I.dead x ?_,by omega⟩;intro hx;have:=(List.nodup_cons.1 (d.nodup_iff.2 a)).1;exact this (by simp [hx])
theorem aum{next:zk}{r:Int×List Nd×zB}{m:List (Int×Bool)}(hx:next.length<1099511627776):∀(q p:zk),next=p++q->∀(l:List Nd),(∀e∈q,0<=e.2/\e.2<l.length)->(∀j,0<=rf l j/\rf l j+q.length<1099511627776)->
  ∀n,q.length<n->∃l',ax (ld next r m) n (l,(p.length:Int))=some (r.1,l',r.2.2,some (iR m r.1 true))/\l'.length=l.length/\(∀j,nx l' j=nx l j)/\∀j,rf l' j=rf l j+((q.map (·.2)).count j:Nat)
 |[],p,h,l,_,_,n,hn=>by
  obtain ⟨n,rfl⟩:∃k,n=k+1:=⟨n-1,by simp at hn;omega⟩;rw [bF];unfold ld;dsimp only;rw [pd h,aZ];exact ⟨l,rfl,rfl,λ_=>rfl,λ_=>by simp⟩
 |e::q,p,h,l,hq,hb,n,hn=>by
  obtain ⟨n,rfl⟩:∃k,n=k+1:=⟨n-1,by simp at hn;omega⟩;rw [bF];unfold ld;have a:=hq e (by simp);have g:=hb e.2;simp only [p0] at hb g;dsimp only;rw [lR h,cr,Ju h];simp only [an];rw [Bz a.1 a.2];simp only [an];have hp:p.length<1099511627776:=by rw [h] at hx;simp at hx;omega
  rw [Dh (by omega),dP (by omega)];have c:∀j,nx (l.set e.2.toNat (nx l e.2,rf l e.2+1)) j=nx l j:=λj=>by
   rw [OC a.1 a.2];split
   next h=>rw [h]
   .rfl
  have b:∀j,rf (l.set e.2.toNat (nx l e.2,rf l e.2+1)) j=if j=e.2 then rf l j+1 else rf l j:=λj=>by
   rw [PC a.1 a.2];split
   next h=>rw [h]
   .rfl
  obtain ⟨l',t,s,o,i⟩:=aum (r:=r) (m:=m) hx q (p++[e]) (by rw [h];simp) (l.set e.2.toNat (nx l e.2,rf l e.2+1)) (λx hx=>by
   rw [oi];exact hq x (by simp [hx])) (λj=>by
   rw [b];have:=hb j;split <;> omega) n (by simp at hn;omega)
  refine ⟨l',?_,by rw [s,oi],λj=>(o j).trans (c j),λj=>?_⟩
  .rw [show ((p.length+1:Nat):Int)=((p++[e]).length:Int) by simp];exact t
  .rw [i,b,er,List.count_cons];by_cases f:j=e.2
   .subst f;simp;omega
   .have d:¬e.2=j:=λh=>f h.symm;simp [f,d]
theorem ajy{N:List Nd}{F A X T:zB}{W h:Nat}{y:List (Int×Bool)}{next:zk}(I:Inv N F [] A X T W)(hN:N.length<1099511627775)(hb:∀j,rf N j<549755813888)
  (s:∀i,eI (some y) i false=true->i∈A) (q:∀i∈A,rf N i=0->eI (some y) i false=true)
  (S:BV next) (hW:h<=W) (K:(h=0/\next=[])\/∃k,h=k+1/\next≠[]/\∀e∈next,At N A k e.2) (V:∀t∈T,t∈next.map (·.2)) (wi ro ma:Int):
  ∃r N' F' y' o,pP next wi N ro ma F (some y)=some (r,N',F',some y')/\Inv N' F' [] o X [r] W/\nx N' r=next/\(∀j∈A,j∈o/\nx N' j=nx N j)/\At N' o h r/\
   (∀i,eI (some y') i false=true->i∈o)/\(∀i∈o,rf N' i=0->eI (some y') i false=true)/\N'.length<=N.length+1/\∀j,rf N' j<=256+rf N j:=by
 have U:=AB S;have E:∀e∈next,e.2∈A:=by
  rcases K with ⟨_,rfl⟩|⟨k,_,_,h⟩
  .intro e g;cases g
  .exact λe g=>(h e g).mem
 have u:∀{N' o},(∀j∈A,j∈o)->(∀j∈A,nx N' j=nx N j)->∀r∈o,nx N' r=next->At N' o h r:=by
  intro N' o G v r D J;rcases K with ⟨rfl,h⟩|⟨k,rfl,M,h⟩
  .exact ⟨D,by rw [J,h]⟩
  .exact ⟨D,by rw [J];exact M,by rw [J];exact S,λe g=>by rw [J] at g;exact (h e g).grow G v⟩
 unfold pP;have hv:∀i:Int,0<=i->i<N.length->((0<rf N i\/eI (some y) i false=true)↔i∈A):=λi _ _=>by
  constructor
  .rintro (h|h)
   .by_cases z:i∈A
    .exact z
    .have:=I.dead i z;omega
   .exact s i h
  .intro z;have:=I.pos i;by_cases H:rf N i=0
   .exact .inr (q i z H)
   .exact .inl (by omega)
 have hs:=abq (next:=next) hv (λi hi=>by obtain ⟨k,_,a⟩:=I.good i hi;have:=AB a.NF;omega) (by omega) aA 0 (by omega) (by show _<2^64;omega)
 have g:B4 next wi N ro ma F (some y)=ax (gR next N (some y)) aA ((0:Nat):Int):=rfl;rw [g];rcases hs with ⟨i,G,v,h3,n,f⟩|⟨G,v⟩
 .rw [G];refine ⟨i,N,F,y,A,rfl,⟨I.nd,I.rng,I.cnt,I.dead,λj c H=>?_,I.dist,I.good⟩,f,λj c=>⟨c,rfl⟩,u (λ_ h=>h) (λ_ _=>rfl) i v f,s,q,by omega,λj=>by omega⟩;have:=V j (I.top j c H);have:=I.led v (i:=j) (by unfold tg;rw [f];exact this);omega
 .rw [G];simp only [an,aZ];obtain ⟨i,B,L,g1,Z,P,Y,g5,g6⟩:=aoC I hN wi ro ma (some y);rw [g1];simp only [an];have hi:=(P i).1 (by simp);obtain ⟨x,hx⟩:=OG hi.1 hi.2;rw [hx];simp only [an];have SX:i∉A:=λh=>(List.nodup_cons.1 Z).1 (by simp [h]);have R:∀j,nx (B.set i.toNat (next,0)) j=if j=i then next else nx N j:=λj=>by
   rw [OC hi.1 hi.2];split
   .rfl
   next h=>exact (Y j h).1
  have Q:∀j,rf (B.set i.toNat (next,0)) j=rf N j:=λj=>by
   rw [PC hi.1 hi.2];split
   next h=>rw [h,g5]
   next h=>exact (Y j h).2
  obtain ⟨N',e1,e2,e3,e4⟩:=aum (next:=next) (r:=(i,B,L)) (m:=y) (by omega) next [] rfl (B.set i.toNat (next,0)) (λe g=>by
   rw [oi];exact (P _).1 (by simp [E e g])) (λj=>by
   rw [Q];have:=I.pos j;have:=hb j;omega) aA (by show _<2^64;omega)
  have e1:ax (ld next (i,B,L) y) aA (B.set i.toNat (next,0),0)=some (i,N',L,some (iR y i true)):=e1;rw [e1];have p:∀j∈A,nx N' j=nx N j:=λj c=>by rw [e3,R,cx (λh=>SX (by rw [<-h];exact c))]
  have w:nx N' i=next:=by rw [e3,R,cN rfl]
  have C:∀j,rf N' j=rf N j+((next.map (·.2)).count j:Nat):=λj=>by rw [e4,Q]
  have tJ:∀j∈A,tg N' j=tg N j:=λj c=>by unfold tg;rw [p j c]
  have tA:A.flatMap (tg N')=A.flatMap (tg N):=by rw [x8,x8,qB tJ]
  have cI:∀j,rf N' j=(((i::A).flatMap (tg N')++X).count j:Nat):=λj=>by rw [C,I.cnt,List.flatMap_cons,tA,b0,pc (l₁:=tg N' i)];unfold tg;rw [w];omega
  refine ⟨i,N',L,iR y i true,i::A,rfl,⟨?_,?_,cI,?_,?_,?_,?_⟩,w,λj c=>⟨by simp [c],p j c⟩,u (λj c=>by simp [c]) p i (by simp) w,?_,?_,?_,?_⟩
  .simp only [hV];exact Z
  .intro j;simp only [hV];rw [e2,oi];exact P j
  .intro j c;simp only [pa,not_or] at c;rw [C,I.dead j c.2,List.count_eq_zero.2]
   .rfl
   .intro h;obtain ⟨e,g,rfl⟩:=List.mem_map.1 h;exact c.2 (E e g)
  .intro j c H;rcases List.mem_cons.1 c with rfl|c
   .simp
   .have:=C j;have:=I.pos j;have h:=V j (I.top j c (by omega));have:=List.count_pos_iff.2 h;omega
  .intro a z b O d;rcases List.mem_cons.1 z with n|n <;> rcases List.mem_cons.1 O with f|f
   .rw [n,f]
   .rw [n,w,p b f] at d;exact absurd d.symm (v b f (by have:=I.range f;omega) (I.range f).2)
   .rw [f,w,p a n] at d;exact absurd d (v a n (by have:=I.range n;omega) (I.range n).2)
   .rw [p a n,p b f] at d;exact I.dist a n b f d
  .intro j c;rcases List.mem_cons.1 c with rfl|c
   .exact ⟨h,hW,u (λj c=>by simp [c]) p _ (by simp) w⟩
   .obtain ⟨k,K,a⟩:=I.good j c;exact ⟨k,K,a.grow (λj c=>by simp [c]) p⟩
  .intro j c;rcases WI.1 c with rfl|c
   .simp
   .simp [s j c]
  .intro j c H;rw [WI];rcases List.mem_cons.1 c with rfl|c
   .exact .inl rfl
   .have:=C j;have:=I.pos j;exact .inr (q j c (by omega))
  .rw [e2,oi];exact g6
  .intro j;rw [C];have:=List.count_le_length (a:=j) (l:=next.map (·.2));simp at this;omega
end Df
namespace Df
theorem as8{x:zk}(hx:BV x){b r:Int}(hb:0<=b/\b<256)(K:zk->Option ρ):
  ∃y,BV y/\y≠[]/\(∀e,e∈y↔e=(b,r)\/(e∈x/\e.1≠b))/\
   ((cC x b).bind λd=>
    bif d.2 then ((idx x d.1).bind λ_=>K (List.set x (Int.toNat d.1) (b,r)))
    else (aJ (BY d.1 (List.length x))<|aJ (aH (List.length x+List.length ([(b,r)]:zk)) 16)<|K (kE x d.1 ([(b,r)]:zk))))=K y:=by
 have w:=AB hx;obtain ⟨p,q,e,hp,o,h⟩:=arP b hx (by omega);rw [avh,h];simp only [an];have i:=hx;rw [e] at i;have j:=List.pairwise_append.1 i.1;have mk:∀q':zk,q'.Pairwise (λa b=>a.1<b.1)->(∀e∈q',b<e.1)->(∀e∈q',e∈q)->BV (p++(b,r)::q'):=by
  intro q' t s n;refine ⟨List.pairwise_append.2 ⟨j.1,List.pairwise_cons.2 ⟨s,t⟩,?_⟩,?_⟩
  .intro u c v k;rcases List.mem_cons.1 k with rfl|k
   .exact hp u c
   .exact j.2.2 u c v (n v k)
  .intro u c;rcases List.mem_append.1 c with c|c
   .exact i.2 u (by simp [c])
   .rcases List.mem_cons.1 c with rfl|c
    .exact hb
    .exact i.2 u (by simp [n u c])
 have out:∀q':zk,(∀e∈q',b<e.1)->aJ (BY (p.length:Int) (List.length x)) (aJ (aH (List.length x+List.length ([(b,r)]:zk)) 16) (K (kE x (p.length:Int) [(b,r)])))=K (p++(b,r)::q):=by intro _ _;rw [afn.2 (by rw [e];simp;omega),dH (by simp;omega) (by simp;omega),bQ,bQ];congr 1;unfold kE;rw [e];simp
 cases q with
 |nil=>
  refine ⟨p++[(b,r)],mk [] .nil (by simp) (by simp),by simp,λu=>?_,?_⟩
  .rw [e];simp only [qt,l5,hV];constructor
   .rintro (h|h)
    .exact .inr ⟨h,by have:=hp u h;omega⟩
    .exact .inl h
   .rintro (h|h)
    .exact .inr h
    .exact .inl h.1
  .exact out [] (by simp)
 |cons z q=>
  have g:=List.pairwise_cons.1 j.2.1;by_cases f:z.1=b
  .refine ⟨p++(b,r)::q,mk q g.2 (λu c=>by have:=g.1 u c;omega) (by simp+contextual),by simp,λu=>?_,?_⟩
   .rw [e];simp only [qt,pa];constructor
    .rintro (h|h|h)
     .exact .inr ⟨.inl h,by have:=hp u h;omega⟩
     .exact .inl h
     .exact .inr ⟨.inr (.inr h),by have:=g.1 u h;omega⟩
    .rintro (h|⟨h|h|h,l⟩)
     .exact .inr (.inl h)
     .exact .inl h
     .rw [h] at l;exact absurd f l
     .exact .inr (.inr h)
   .simp only [List.head?_cons,mj,f,x6,cr];rw [Ju e];simp only [an,e9];rw [e];simp
  .have m:b<z.1:=by have:=o z (by simp);omega
   refine ⟨p++(b,r)::z::q,mk (z::q) j.2.1 (λu c=>by
    rcases List.mem_cons.1 c with rfl|c
    .exact m
    .have:=g.1 u c;omega) (λ_ h=>h),by simp,λu=>?_,?_⟩
   .rw [e];simp only [qt,pa];constructor
    .rintro (h|h|h|h)
     .exact .inr ⟨.inl h,by have:=hp u h;omega⟩
     .exact .inl h
     .exact .inr ⟨.inr (.inl h),by rw [h];omega⟩
     .exact .inr ⟨.inr (.inr h),by have:=g.1 u h;omega⟩
    .rintro (h|⟨h|h|h,l⟩)
     .exact .inr (.inl h)
     .exact .inl h
     .exact .inr (.inr (.inl h))
     .exact .inr (.inr (.inr h))
   .have:((List.head? (z::q)).map (·.1)==some b)=false:=by simp [f]
    rw [this,aZ];exact out [] (by simp)
abbrev SP:=Int×zB×Int×List Nd×Int×Int×zB×Option (List (Int×Bool))
abbrev RP:=Int×List Nd×zB×Option (List (Int×Bool))
def PUT(k:SP->Option RP)(s:SP):Option RP:=kS k s.1 s.2.1 s.2.2.1 s.2.2.2.1 s.2.2.2.2.1 s.2.2.2.2.2.1 s.2.2.2.2.2.2.1 s.2.2.2.2.2.2.2
theorem put_eq(at_:Int)(w:zB)(wi:Int)(N:List Nd)(ro ma:Int)(F:zB)(y:Option (List (Int×Bool))):xf at_ w wi N ro ma F y=ax PUT aA (at_,w,wi,N,ro,ma,F,y):=rfl
theorem atB(x:zk)(k:Int)(e:Int×Int)(K:zk->Option ρ):(aaY 16 x k [e]).bind K=aJ (BY k x.length) (aJ (aH (x.length+[e].length) 16) (K (kE x k [e]))):=by show (aJ (BY k x.length&&aH (x.length+[e].length) 16) (some (kE x k [e]))).bind K=_;cases BY k x.length <;> cases aH (x.length+[e].length) 16 <;> rfl
theorem at0{l:zk}(h:l.length<1000000000):fv l=some l:=by unfold fv;rw [So.bQ (So.dH (by omega) (by omega))]
def apc(N:List Nd)(_F A X:zB)(W:Nat)(w:zB)(at_:Int)(res:Option RP):Prop:=
 ∃r N' F' y' A',res=some (r,N',F',some y')/\Inv N' F' [] A' X [r] W/\(∀j∈A,j∈A'/\nx N' j=nx N j)/\At N' A' w.length r/\
  (∀i,eI (some y') i false=true->i∈A')/\(∀i∈A',rf N' i=0->eI (some y') i false=true)/\N'.length<=N.length+(w.length+1)/\(∀j,rf N' j<=256*((w.length:Int)+1)+rf N j)/\
  ∀v,v.length=w.length->(acc N' v r↔v=w\/(at_≠ -1/\acc N v at_))
theorem amW{W:Nat}(wi ro ma:Int){X:zB}:∀(w:zB) (at_:Int) (N:List Nd) (F A:zB) (y:List (Int×Bool)),(∀b∈w,0<=b/\b<256)->w.length<=W->(at_= -1\/At N A w.length at_)->Inv N F [] A X [] W->
  (∀i,eI (some y) i false=true->i∈A)->(∀i∈A,rf N i=0->eI (some y) i false=true)->N.length+(w.length+1)<1099511627775->(∀j,rf N j+256*((w.length:Int)+1)<549755813888)->∀n,w.length<n->
  apc N F A X W w at_ (ax PUT n (at_,w,wi,N,ro,ma,F,some y))
 |[],at_,N,F,A,y,_,hW,hat,I,hy1,hy2,hN,hrf,n,hn=>by
  obtain ⟨n,rfl⟩:∃k,n=k+1:=⟨n-1,by simp at hn;omega⟩;rw [bF];unfold PUT kS;simp only [qg];rw [show (((0:Nat):Int)==0)=true from rfl,cr];obtain ⟨r,N',F',T,A',h1,h2,H,h4,h5,h6,h7,h8,O⟩:=ajy (h:=0) (next:=[]) I (by simp at hN;omega) (λj=>by have:=hrf j;simp at this;omega) hy1 hy2 ⟨.nil,by simp⟩ (by omega) (.inl ⟨rfl,rfl⟩) (by simp) wi ro ma;rw [h1];refine ⟨r,N',F',T,A',rfl,h2,h4,h5,h6,h7,by simp;omega,λj=>by have:=O j;simp;omega,λv s=>?_⟩;have:v=[]:=List.length_eq_zero_iff.1 s;subst this;simp [acc]
 |b::w,at_,N,F,A,y,hw,hW,hat,I,hy1,hy2,hN,hrf,n,hn=>by
  obtain ⟨n,rfl⟩:∃k,n=k+1:=⟨n-1,by simp at hn;omega⟩;rw [bF];simp only [p0] at hN hW hrf hn hat
  have hb:=hw b (by simp)
  -- the rest of the word, and the node
  have rest:∀(g:Int) (x:zk),BV x->(∀e∈x,At N A w.length e.2)->(g= -1\/At N A w.length g)->(g≠ -1->(b,g)∈x)->(∀e∈x,e.1=b->g≠ -1)->
    (at_≠ -1->nx N at_=x)->(at_= -1->x=[])->Bd (wi,N,ro,ma,F) at_ b=some g->
    apc N F A X W (b::w) at_ (yu (ax PUT n) at_ (b::w) wi N ro ma F (some y) x):=by
   intro g x hx hk Z D L C K Y;unfold yu;rw [show idx (b::w) 0=some b from rfl];simp only [an];rw [y4.2 (by simp;omega),bQ,atP,Y];simp only [an];rw [show br (b::w) 1 ((List.length (b::w):Nat):Int)=w by simp [br]];obtain ⟨r,S,F1,y1,A1,h1,h2,H,h4,h5,h6,h7,h8,O⟩:=amW wi ro ma w g N F A y (λc hc=>hw c (by simp [hc])) (by omega) Z I hy1 hy2 (by omega) (λj=>by have:=hrf j;omega) n (by omega);rw [h1];simp only [an,cR,atB];obtain ⟨z,hz,V,l,U⟩:=as8 hx hb (r:=r) (yw wi ro ma (r,S,F1,some y1));rw [U];unfold yw;have kz:∀e∈z,At S A1 w.length e.2:=by
    intro e f;rcases (l e).1 f with rfl|⟨f,_⟩
    .exact h4
    .exact (hk e f).grow (λj p=>(H j p).1) (λj p=>(H j p).2)
   obtain ⟨r',N',F',T,A',g1,g2,R,g4,g5,g6,g7,g8,g9⟩:=ajy (h:=w.length+1) (next:=z) h2 (by omega) (λj=>by have:=hrf j;have:=h8 j;omega) h5 h6 hz hW (.inr ⟨w.length,rfl,V,kz⟩) (λt ht=>by simp only [l5] at ht;subst ht;exact List.mem_map.2 ⟨(b,t),(l _).2 (.inl rfl),rfl⟩) wi ro ma
   simp only [];rw [g1];refine ⟨r',N',F',T,A',rfl,g2,λj p=>⟨(g4 j (H j p).1).1,by rw [(g4 j (H j p).1).2,(H j p).2]⟩,g5,g6,g7,by simp;omega,λj=>by have:=h8 j;have:=g9 j;simp;omega,?_⟩;intro v s;cases v with
   |nil=>simp at s
   |cons c v=>
    have s:v.length=w.length:=by simpa using s
    have P:∀e∈z,(acc N' v e.2↔acc S v e.2):=λe f=>acc.same (λj p=>(g4 j p).2) (kz e f) s;have s2:∀e∈x,(acc S v e.2↔acc N v e.2):=λe f=>acc.same (λj p=>(H j p).2) (hk e f) s;constructor
    .rintro ⟨e,f,o,B⟩;rw [R] at f;rw [P e f] at B;rcases (l e).1 f with rfl|⟨u,M⟩
     .rcases (O v s).1 B with rfl|⟨q,B⟩
      .left;rw [<-o]
      .right;have m:at_≠ -1:=λh=>by have:=D q;rw [K h] at this;cases this
       exact ⟨m,(b,g),by rw [C m];exact D q,o,B⟩
     .right;have m:at_≠ -1:=λh=>by rw [K h] at u;cases u
      exact ⟨m,e,by rw [C m];exact u,o,(s2 e u).1 B⟩
    .rintro (h|⟨m,e,f,o,B⟩)
     .cases h;refine ⟨(b,r),by rw [R];exact (l _).2 (.inl rfl),rfl,?_⟩;rw [P _ ((l _).2 (.inl rfl))];exact (O w rfl).2 (.inl rfl)
     .rw [C m] at f;by_cases G:e.1=b
      .have q:=L e f G;have:e=(b,g):=agt hx f (D q) G;subst this;refine ⟨(b,r),by rw [R];exact (l _).2 (.inl rfl),o,?_⟩;rw [P _ ((l _).2 (.inl rfl))];exact (O v s).2 (.inr ⟨q,B⟩)
      .have J:=(l e).2 (.inr ⟨f,G⟩);exact ⟨e,by rw [R];exact J,o,(P e J).2 ((s2 e f).2 B)⟩
  show apc N F A X W (b::w) at_ (kS (ax PUT n) at_ (b::w) wi N ro ma F (some y));generalize ax PUT n=k at rest ⊢;unfold kS;simp only [cR];rw [show ((List.length (b::w):Int)==0)=false by simp;omega,aZ];by_cases q:at_= -1
  .subst q;rw [show ((-1:Int) != -1)=false from rfl,aZ];exact rest (-1) [] ⟨.nil,by simp⟩ (by simp) (.inl rfl) (by simp) (by simp) (by simp) (by simp) rfl
  .have a:=hat.resolve_left q;have Q:=I.range a.mem;rw [show (at_ != -1)=true by simpa [zb] using q,cr,Bz Q.1 Q.2];simp only [an];have hl:=AB a.NF;rw [at0 (by omega)];simp only [an];rcases arI (d:=(wi,N,ro,ma,F)) b Q.1 Q.2 a.NF (by simp only [];omega) with ⟨e,f,E,h⟩|⟨M,h⟩
   .have ae:=a.2.2.2 e f;have hpos:=(I.range ae.mem).1;exact rest e.2 (nx N at_) a.NF a.2.2.2 (.inr ae) (λ_=>by rw [<-E];exact f) (λ_ _ _=>by omega) (λ_=>rfl) (λh=>absurd h q) h
   .exact rest (-1) (nx N at_) a.NF a.2.2.2 (.inl rfl) (by simp) (λe f E=>absurd E (M e f)) (λ_=>rfl) (λh=>absurd h q) h
end Df
namespace Df
abbrev SL:=Int×Int×List Nd×Int×Int×zB×Option (List (Int×Bool))
abbrev RL:=List Nd×zB
def QF(k:SL->Option RL)(s:SL):Option RL:=oW k s.1 s.2.1 s.2.2.1 s.2.2.2.1 s.2.2.2.2.1 s.2.2.2.2.2.1 s.2.2.2.2.2.2
theorem ao8(i wi:Int)(N:List Nd)(ro ma:Int)(F:zB)(y:Option (List (Int×Bool))):tv i wi N ro ma F y=ax QF aA (i,wi,N,ro,ma,F,y):=rfl
def Leaves(N:List Nd)(Z A X:zB)(W:Nat)(res:Option RL):Prop:=
 ∃N' F' A',res=some (N',F')/\Inv N' F' Z A' X [] W/\N'.length=N.length/\(∀j∈A',j∈A/\nx N' j=nx N j)/\∀j,rf N' j<=rf N j
theorem Inv.afa{N:List Nd}{F Z A X T:zB}{W:Nat}(I:Inv N F Z A X T W):F.length<=N.length:=by
 have:=afy (l:=F) (List.nodup_append.1 (List.nodup_append.1 I.nd).1).2.1 (m:=(List.range N.length).map Int.ofNat) λx hx=>by have:=(I.rng x).1 (by simp [hx]);exact List.mem_map.2 ⟨x.toNat,by simp;omega,by simp;omega⟩
 simpa using this
theorem Inv.perm{N:List Nd}{F Z A X a T:zB}{W:Nat}(I:Inv N F Z A X T W)(p:a.Perm X):Inv N F Z A a T W:=
 ⟨I.nd,I.rng,λi=>by rw [I.cnt i,pc,pc,p.count_eq],I.dead,I.top,I.dist,I.good⟩
theorem Ys{W k n:Nat}{wi ro ma i:Int}{y:Option (List (Int×Bool))}{Z X:zB}{x:Nd}
  (ih:x.1≠[]->∀(i:Int) (N:List Nd) (F Z A X:zB),At N A k i->Inv N F Z A (i::X) [] W->N.length<1099511627775->(∀j,rf N j<549755813888)->Leaves N Z A X W (ax QF n (i,wi,N,ro,ma,F,y))) (hx:x.1.length<1099511627776):
  ∀(q p:zk),x.1=p++q->∀(l:List Nd) (F A:zB),(∀e∈q,e.2∈A->At l A k e.2)->Inv l F (i::Z) A (q.map (·.2)++X) [] W->l.length<1099511627775->(∀j,rf l j<549755813888)->∀m,q.length<m->
   Leaves l Z A X W (ax (nK (ax QF n) i wi ro ma y x) m (l,F,(p.length:Int)))
 |[],p,h,l,F,A,_,I,hl,hr,m,hm=>by
  obtain ⟨m,rfl⟩:∃k,m=k+1:=⟨m-1,by simp at hm;omega⟩;rw [bF];unfold nK;dsimp only;rw [pd h,aZ];have hi:0<=i/\i<l.length:=(I.rng i).1 (by simp);have SX:i∉A:=λh=>by have:=(List.nodup_append.1 I.nd).2.2 i (by simp [h]) i (by simp);exact this rfl
  rw [Bz hi.1 hi.2,an];obtain ⟨s,L,E⟩:=ate i (h:=F) (by have:=I.afa;omega);rw [L,an];have G:∀j,j≠i->nx (l.set i.toNat ([],0)) j=nx l j:=λj h=>by rw [OC hi.1 hi.2,cx h]
  have d:∀j∈A,nx (l.set i.toNat ([],0)) j=nx l j:=λj h=>G j λe=>SX (e▸h);have r:∀j,rf (l.set i.toNat ([],0)) j=rf l j:=λj=>by
   rw [PC hi.1 hi.2];split
   next h=>rw [h,I.dead i SX]
   .rfl
  have C:∀j∈A,tg (l.set i.toNat ([],0)) j=tg l j:=λj c=>by unfold tg;rw [d j c]
  have D:A.flatMap (tg (l.set i.toNat ([],0)))=A.flatMap (tg l):=by rw [x8,x8,qB C]
  have pp:(A++s++Z).Perm (A++F++(i::Z)):=by refine List.Perm.trans ?_ (List.perm_middle (l₁:=A++F) (a:=i) (l₂:=Z)).symm;rw [b0];refine (List.Perm.append_left A (List.Perm.append_right Z E)).trans ?_;rw [b0];exact List.perm_middle
  refine ⟨l.set i.toNat ([],0),s,A,rfl,⟨pp.nodup_iff.2 I.nd,λj=>?_,λj=>?_,λj c=>?_,λj c h=>?_,λa g b hb h=>?_,λj c=>?_⟩,by simp,λj c=>⟨c,d j c⟩,λj=>by rw [r];omega⟩
  .rw [pp.mem_iff,I.rng,oi]
  .rw [r,D,I.cnt];rfl
  .rw [r,I.dead j c]
  .rw [r] at h;exact I.top j c h
  .rw [d a g,d b hb] at h;exact I.dist a g b hb h
  .obtain ⟨h,K,a⟩:=I.good j c;exact ⟨h,K,a.grow (λ_ h=>h) d⟩
 |e::q,p,h,l,F,A,g,I,hl,hr,m,hm=>by
  obtain ⟨m,rfl⟩:∃k,m=k+1:=⟨m-1,by simp at hm;omega⟩;rw [bF];have I:Inv l F (i::Z) A (e.2::(q.map (·.2)++X)) [] W:=I;have t:=I.ext (i:=e.2) (by simp);obtain ⟨N',s,T,M,B,U,o,w⟩:=ih (by rw [h];simp) e.2 l F (i::Z) A _ (g e (by simp) t) I hl hr;have hp:p.length<1099511627776:=by rw [h] at hx;simp at hx;omega
  obtain ⟨N2,R,S,Q,P,V,v,O⟩:=Ys ih hx q (p++[e]) (by rw [h];simp) N' s T (λz H f=>by
   have:=g z (by simp [H]) (o _ f).1;exact this.cE (λj c _=>(o j c).2) (λj c _ u J _=>by
    have:u∈nx N' j:=by rw [(o j c).2];exact J
    exact B.closed c this) f) B (by omega) (λj=>by have:=w j;have:=hr j;omega) m (by simp at hm;omega)
  refine ⟨N2,R,S,?_,P,by omega,λj c=>⟨(o j (v j c).1).1,by rw [(v j c).2,(o j (v j c).1).2]⟩,λj=>by have:=w j;have:=O j;omega⟩;unfold nK;dsimp only;rw [lR h,cr,Ju h];simp only [an];rw [M];simp only [an];rw [Dh (by omega),show ((p.length+1:Nat):Int)=((p++[e]).length:Int) by simp];exact Q
theorem aoW{W:Nat}{wi ro ma:Int}{y:Option (List (Int×Bool))}:∀(h n:Nat),h<n->∀(i:Int) (N:List Nd) (F Z A X:zB),At N A h i->Inv N F Z A (i::X) [] W->N.length<1099511627775->(∀j,rf N j<549755813888)->Leaves N Z A X W (ax QF n (i,wi,N,ro,ma,F,y)):=by
 intro h
 induction h with
 |zero=>?_
 |succ k ih=>?_
 all_goals
  intro n hn i N F Z A X a I hN E;obtain ⟨n,rfl⟩:∃k,n=k+1:=⟨n-1,by omega⟩;rw [bF];unfold QF oW;dsimp only;have hi:=I.range a.mem;have S:0<rf N i:=by rw [I.cnt];have:0<(A.flatMap (tg N)++i::X).count i:=List.count_pos_iff.2 (by simp);omega
  rw [Bz hi.1 hi.2];simp only [an];rw [dP (x:=rf N i-1) (by have:=E i;omega)];have l:nx (N.set i.toNat (nx N i,rf N i-1))=nx N:=by
   funext j;rw [OC hi.1 hi.2];split
   next h=>rw [h]
   .rfl
  have d:∀j,rf (N.set i.toNat (nx N i,rf N i-1)) j=if j=i then rf N i-1 else rf N j:=λj=>by rw [PC hi.1 hi.2]
  have o:(N.set i.toNat (nx N i,rf N i-1)).length=N.length:=by simp
  have t1:tg (N.set i.toNat (nx N i,rf N i-1))=tg N:=by unfold tg;rw [l]
  have c1:∀j,rf (N.set i.toNat (nx N i,rf N i-1)) j=((A.flatMap (tg N)++X).count j:Nat):=λj=>by
   rw [d];have r:=I.cnt j;rw [pc,List.count_cons] at r;rw [pc];split
   next h=>subst h;simp at r;omega
   .rename_i h;have:(i==j)=false:=by simp;exact λe=>h e.symm
    rw [this] at r;simp at r;omega
  rw [Bz (N:=N.set i.toNat (nx N i,rf N i-1)) hi.1 (by rw [o];exact hi.2)];simp only [an];rw [d,cN rfl,l];have f:∀j,nx (N.set i.toNat (nx N i,rf N i-1)) j=nx N j:=λj=>by rw [l]
  generalize N.set i.toNat (nx N i,rf N i-1)=s at*;by_cases R:0<rf N i-1
  .rw [show decide (0<rf N i-1)=true by simpa using R,cr];refine ⟨s,F,A,rfl,⟨I.nd,λj=>by rw [o];exact I.rng j,λj=>by rw [t1];exact c1 j,λj c=>?_,λj c h=>?_,λu D v C h=>?_,λj c=>?_⟩,o,λj c=>⟨c,f j⟩,λj=>by rw [d];split <;> rename_i h <;> first|(rw [h];omega)|omega⟩
   .rw [d,cx (λh=>c (by rw [h];exact a.mem))];exact I.dead j c
   .rw [d] at h;split at h
    .omega
    .exact I.top j c h
   .rw [l] at h;exact I.dist u D v C h
   .obtain ⟨k,J,a⟩:=I.good j c;exact ⟨k,J,a.grow (λ_ h=>h) λj _=>f j⟩
  .rw [show decide (0<rf N i-1)=false by simpa using R,aZ];have h1:rf N i=1:=by omega
   have O:(A.flatMap (tg N)++X).count i=0:=by have:=c1 i;rw [d,cN rfl] at this;omega
   have G:=List.count_eq_zero.1 O;have t:A.Perm (i::A.erase i):=List.perm_cons_erase a.mem;have w:A.Nodup:=(List.nodup_append.1 (List.nodup_append.1 I.nd).1).1;have L:i∉A.erase i:=(List.nodup_cons.1 (t.nodup_iff.1 w)).1;have m:∀j,j∈A.erase i->j∈A:=λj c=>List.mem_of_mem_erase c;have P:∀j,j∈A->j≠i->j∈A.erase i:=λj c h=>(List.mem_erase_of_ne h).2 c;have pp:(A.erase i++F++(i::Z)).Perm (A++F++Z):=by refine List.perm_middle.trans ?_;rw [b0,b0];exact (List.Perm.append_right (F++Z) t).symm
   have Q:∀{h:Nat} {j:Int},At N A h j->j∈A.erase i->At s (A.erase i) h j:=λb hb=>b.cE (λj _ _=>f j) (λj _ c e M g=>P _ g λh=>G (by simp only [qt,List.mem_flatMap];exact .inl ⟨j,c,List.mem_map.2 ⟨e,M,h⟩⟩)) hb
   have I1:Inv s F (i::Z) (A.erase i) ((nx N i).map (·.2)++X) [] W:=⟨pp.nodup_iff.2 I.nd,λj=>by rw [pp.mem_iff,I.rng,o],λj=>by
     rw [c1,t1];have:=(t.flatMap_right (tg N)).count_eq j;rw [List.flatMap_cons,pc] at this;rw [pc,pc,pc,this];unfold tg;omega,λj c=>by
     rw [d];split
     .omega
     next h=>exact I.dead j λK=>c (P j K h),λj c h=>by
     rw [d,cx (λh=>L (by have T:=c;rw [h] at T;exact T))] at h;exact I.top j (m j c) h,λu D v C h=>by
     rw [l] at h;exact I.dist u (m u D) v (m v C) h,λj c=>by
     obtain ⟨k,J,b⟩:=I.good j (m j c);exact ⟨k,J,Q b c⟩⟩
   have hl:=AB a.NF;obtain ⟨z,H,B⟩:∃z,(∀e∈nx N i,At N A z e.2)/\(nx N i≠[]->∀(i:Int) (N:List Nd) (F Z A X:zB),At N A z i->Inv N F Z A (i::X) [] W->N.length<1099511627775->(∀j,rf N j<549755813888)->Leaves N Z A X W (ax QF n (i,wi,N,ro,ma,F,y))):=by
    first
    |exact ⟨0,by rw [a.2];simp,λh=>absurd a.2 h⟩
    |exact ⟨k,a.2.2.2,λ_=>ih n (by omega)⟩
   obtain ⟨N',F',A',g1,Y,g3,U,V⟩:=Ys (x:=(nx N i,rf N i-1)) (p:=[]) (q:=nx N i) B (by simp only [];omega) rfl s F (A.erase i) (λe M g=>Q (H e M) g) I1 (by omega) (λj=>by rw [d];have:=E j;have:=E i;split <;> omega) aA (by show _<2^64;omega);exact ⟨N',F',A',g1,Y,by omega,λj c=>⟨m j (U j c).1,by rw [(U j c).2,l]⟩,λj=>by
    have:=V j;rw [d] at this;split at this
    next h=>rw [h] at this ⊢; omega
    .exact this⟩
end Df
namespace Df
abbrev D:=Int×List Nd×Int×Int×zB
structure Good(d:D)(W m:Nat)(A:zB):Prop where
 wide:d.1=W
 w1:1<=W/\W<=64
 m4:m<=2097152
 inv:Inv d.2.1 d.2.2.2.2 [] A (if d.2.2.1= -1 then [] else [d.2.2.1]) [] W
 root:(d.2.2.1= -1/\A=[])\/At d.2.1 A W d.2.2.1
 long:d.2.1.length<=66*m
 refs:∀j,rf d.2.1 j<=16896*(m:Int)
 many:d.2.2.2.1=m
def Gn(d:D)(v:zB):Prop:=d.2.2.1≠ -1/\acc d.2.1 v d.2.2.1
theorem aui{W:Nat}(h:1<=W/\W<=64):Qv (W:Int)=some (((W:Int),[],-1,0,[]),0):=by unfold Qv;simp only [cR];rw [show decide ((W:Int)<1)=false by simp;omega,show decide (64<(W:Int))=false by simp;omega];rfl
theorem aqt{W:Nat}(h:1<=W/\W<=64):Good ((W:Int),[],-1,0,[]) W 0 [] where
 wide:=rfl
 w1:=h
 m4:=by omega
 inv:=⟨by simp,λi=>by simp;try omega,λi=>by simp [rf,idx],λi _=>by simp [rf,idx],by simp,by simp,by simp⟩
 root:= .inl ⟨rfl,rfl⟩
 long:=by simp
 refs:=λj=>by simp [rf,idx]
 many:=rfl
theorem aen{d:D}{F Z A X T:zB}{W:Nat}(I:Inv d.2.1 F Z A X T W){w:zB}(s:w.length<1099511627776):∀(q p:zB),w=p++q->∀at_:Int,(at_= -1\/∃h,At d.2.1 A h at_)->∀n,q.length<n->
  ∃r,ax (tx d w) n (at_,(p.length:Int))=some (((w.length:Int)==d.1&&decide (0<d.1))&&r)/\(∀h,At d.2.1 A h at_->q.length=h->(r=true↔acc d.2.1 q at_))/\(at_= -1->r=false)
 |[],p,h,at_,ha,n,hn=>by
  obtain ⟨n,rfl⟩:∃k,n=k+1:=⟨n-1,by simp at hn;omega⟩;rw [bF];unfold tx;dsimp only;rw [pd h,aZ];refine ⟨at_ != -1,rfl,λh a _=>?_,λh=>by simp [h]⟩;have:=I.range a.mem;simp only [acc,iff_true,zb,ne_eq];omega
 |b::q,p,h,at_,ha,n,hn=>by
  obtain ⟨n,rfl⟩:∃k,n=k+1:=⟨n-1,by simp at hn;omega⟩;rw [bF];have hp:p.length<1099511627776:=by rw [h] at s;simp at s;omega
  have go:∀c:Int,(c= -1\/∃h,At d.2.1 A h c)->Bd d at_ b=some c->(∀h,At d.2.1 A (h+1) at_->(c= -1/\∀e∈nx d.2.1 at_,e.1≠b)\/((b,c)∈nx d.2.1 at_/\At d.2.1 A h c))->(at_= -1->c= -1)->
    ∃r,tx d w (ax (tx d w) n) (at_,(p.length:Int))=some (((w.length:Int)==d.1&&decide (0<d.1))&&r)/\(∀h,At d.2.1 A h at_->(b::q).length=h->(r=true↔acc d.2.1 (b::q) at_))/\(at_= -1->r=false):=by
   intro c t f B m;obtain ⟨r,E,C,x⟩:=aen I s q (p++[b]) (by rw [h];simp) c t n (by simp at hn;omega);refine ⟨r,?_,λk a u=>?_,λh=>x (m h)⟩
   .unfold tx;dsimp only;rw [lR h,cr,Ju h];simp only [an];rw [f];simp only [an];rw [Dh (by omega),show ((p.length+1:Nat):Int)=((p++[b]).length:Int) by simp];exact E
   .obtain ⟨k,rfl⟩:∃j,k=j+1:=⟨k-1,by simp at u;omega⟩;rcases B k a with ⟨rfl,i⟩|⟨g,G⟩
    .rw [x rfl];simp only [pA,false_iff];rintro ⟨e,g,l,_⟩;exact i e g l
    .rw [C k G (by simpa using u),aqb a.2.2.1 g rfl]
  by_cases o:at_= -1
  .subst o;exact go (-1) (.inl rfl) rfl (λh a=>by have:=I.range a.mem;omega) (λ_=>rfl)
  .obtain ⟨k,a⟩:=ha.resolve_left o;have v:=I.range a.mem;have H:=AB a.NF;rcases arI (d:=d) b v.1 v.2 a.NF (by omega) with ⟨e,g,l,f⟩|⟨i,f⟩
   .obtain ⟨k,rfl⟩:∃j,k=j+1:=by
     cases k with
     |zero=>rw [a.2] at g;cases g
     |succ j=>exact ⟨j,rfl⟩
    exact go e.2 (.inr ⟨k,a.2.2.2 e g⟩) f (λz y=> .inr ⟨by rw [<-l];exact g,y.2.2.2 e g⟩) (λh=>absurd h o)
   .exact go (-1) (.inl rfl) f (λz y=> .inl ⟨rfl,i⟩) (λh=>absurd h o)
theorem amy{d:D}{W:Nat}{A:zB}(G:Good d W m A){w:zB}(f:w.length<1099511627776):∃r,lX d w=some r/\(r=true↔w.length=W/\Gn d w):=by
 have c:=G.root;obtain ⟨r,j,e,i⟩:=aen (d:=d) G.inv f w [] rfl d.2.2.1 (by rcases c with h|h;exact .inl h.1;exact .inr ⟨W,h⟩) aA (by show _<2^64;omega);refine ⟨_,j,?_⟩;have:=G.w1;rw [G.wide];simp only [ah,kR,j6];constructor
 .rintro ⟨⟨b,_⟩,a⟩;have b:w.length=W:=by omega
  refine ⟨b,?_⟩;rcases c with h|h
  .rw [i h.1] at a;cases a
  .have:=G.inv.range h.mem;exact ⟨by omega,(e W h b).1 a⟩
 .rintro ⟨b,k,g⟩;refine ⟨⟨by omega,by omega⟩,(e W (c.resolve_left λh=>k h.1) b).2 g⟩
theorem auD{l:List Nd}(h:l.length<1000000000):dS l=some l:=by unfold dS;rw [So.bQ (So.dH (by omega) (by omega))]
theorem ane{d:D}{W:Nat}{A:zB}(G:Good d W m A)(hm:m<2097152){w:zB}(hb:∀b∈w,0<=b/\b<256)(hl:w.length<1099511627776):
  (w.length≠W/\fw d w=some (d,false,1))\/(w.length=W/\Gn d w/\fw d w=some (d,false,0))\/
  (w.length=W/\ ¬Gn d w/\∃d' t,fw d w=some (d',true,0)/\Good d' W (m+1) t/\∀v,v.length=W->(Gn d' v↔v=w\/Gn d v)):=by
 have hW:=G.w1;obtain ⟨r,hr,I⟩:=amy G hl;by_cases f:¬w.length=W
 .left;refine ⟨f,?_⟩;unfold fw;simp only [cR];rw [G.wide,show ((w.length:Int) != (W:Int))=true by simp only [zb,ne_eq];omega];rfl
 replace f:w.length=W:=Decidable.not_not.1 f;right;have pre:fw d w=(lX d w).bind λY=>bif Y then (some (d,false,0)) else ((dS d.2.1).bind λX=>
   (bY d.2.2.2.2).bind λV=>
   (xf d.2.2.1 w d.1 X d.2.2.1 d.2.2.2.1 V (some []:(Option (List (Int×Bool))))).bind λc=>
   (idx c.2.1 c.1).bind λM=>
   (idx c.2.1 c.1).bind λL=>
   bif d.2.2.1 != (-1) then    (tv d.2.2.1 d.1 (List.set c.2.1 (Int.toNat c.1) (L.1,(i64.wrap (M.2+1)))) c.1 d.2.2.2.1 c.2.2.1 c.2.2.2).bind λH=>
   B5 d c H.1 H.2
   else    B5 d c (List.set c.2.1 (Int.toNat c.1) (L.1,(i64.wrap (M.2+1)))) c.2.2.1):=by
  unfold fw;simp only [cR];rw [G.wide,show ((w.length:Int) != (W:Int))=false by simp;omega,show ((W:Int)==0)=false by simp;omega];rfl
 rw [pre,hr];simp only [an];by_cases Q:Gn d w
 .left;exact ⟨f,Q,by rw [I.2 ⟨f,Q⟩];rfl⟩
 right;refine ⟨f,Q,?_⟩;have Z:r=false:=by rw [<-qU];intro h;exact Q (I.1 h).2
 rw [Z,aZ];have hN:=G.long;have K:=G.refs;have hF:=G.inv.afa;rw [auD (by omega),So.an,So.abr (by omega),So.an];have C:d.2.2.1= -1\/At d.2.1 A w.length d.2.2.1:=by
  rcases G.root with h|h
  .exact .inl h.1
  .exact .inr (by rw [f];exact h)
 obtain ⟨r,N',T,y',t,h1,o,h3,h4,h5,h6,h7,R,h9⟩:=amW (W:=W) d.1 d.2.2.1 d.2.2.2.1 w d.2.2.1 d.2.1 d.2.2.2.2 A [] hb (by omega) C G.inv (λi h=>by simp [eI,j8] at h) (λi hi E=>absurd (G.inv.top i hi E) (by simp)) (by omega) (λj=>by have:=K j;omega) aA (by show _<2^64;omega);rw [put_eq,h1];simp only [an];have J:=h4.mem;have n:=o.range J;rw [Bz n.1 n.2];simp only [an];have hrr:=R r;have hrr2:=K r;have hrr3:=o.pos r;rw [dP (x:=rf N' r+1) (by omega)];have P:nx (N'.set r.toNat (nx N' r,rf N' r+1))=nx N':=by
  funext j;rw [OC n.1 n.2];split
  next h=>rw [h]
  .rfl
 have F:∀j,rf (N'.set r.toNat (nx N' r,rf N' r+1)) j=if j=r then rf N' r+1 else rf N' j:=λj=>by rw [PC n.1 n.2]
 have l1:(N'.set r.toNat (nx N' r,rf N' r+1)).length=N'.length:=by simp
 have t1:tg (N'.set r.toNat (nx N' r,rf N' r+1))=tg N':=by unfold tg;rw [P]
 have B:∀j,nx (N'.set r.toNat (nx N' r,rf N' r+1)) j=nx N' j:=λj=>by rw [P]
 generalize N'.set r.toNat (nx N' r,rf N' r+1)=p at*
 -- one more leads to the new root
 have S:Inv p T [] t (r::(if d.2.2.1= -1 then [] else [d.2.2.1])) [] W:=⟨o.nd,λj=>by rw [l1];exact o.rng j,λj=>by
   rw [F,t1];have hc:=o.cnt j;rw [pc] at hc;rw [pc,List.count_cons];split
   next h=>subst h;simp;omega
   .rename_i h;have:(r==j)=false:=by simp;exact λe=>h e.symm
    rw [this];simp;omega,λj l=>by
   rw [F,cx (λh=>l (by rw [h];exact J))];exact o.dead j l,λj l h=>by
   rw [F] at h;have:=o.pos j;split at h
   .omega
   next hne=>have:=o.top j l h;simp at this;exact absurd this hne,λu hu v q h=>by rw [P] at h;exact o.dist u hu v q h,λj l=>by
   obtain ⟨k,hk,a⟩:=o.good j l;exact ⟨k,hk,a.grow (λ_ h=>h) λj _=>B j⟩⟩
 have a1:At p t w.length r:=h4.grow (λ_ h=>h) λj _=>B j;have s:r≠ -1:=by omega
 have z:∀v:zB,v.length=w.length->(acc p v r↔v=w\/Gn d v):=λv q=>by rw [acc.same (A:=t) (N:=N') (λj _=>B j) h4 q];exact h9 v q
 have mm:i64.wrap (d.2.2.2.1+1)=((m+1:Nat):Int):=by rw [G.many,dP (by omega)];omega
 by_cases E:d.2.2.1= -1
 .rw [show (d.2.2.1 != -1)=false by simp [E],aZ];refine ⟨(d.1,p,r,i64.wrap (d.2.2.2.1+1),T),t,rfl,⟨G.wide,hW,by omega,?_,.inr (by rw [<-f];exact a1),by simp only [];omega,λj=>?_,mm⟩,λv q=>?_⟩
  .simp only [cx s];simp only [cN E] at S;exact S
  .simp only [];rw [F];have:=R j;have:=K j;split <;> omega
  .show (r≠ -1/\acc p v r)↔_;rw [z v (by omega)];exact ⟨λh=>h.2,λh=>⟨s,h⟩⟩
 .rw [show (d.2.2.1 != -1)=true by simpa [zb] using E,cr];simp only [cx E] at S;have aR:=G.root.resolve_left λh=>E h.1;have aR1:At p t W d.2.2.1:=aR.grow (λj l=>(h3 j l).1) λj l=>by rw [P,(h3 j l).2]
  have I2:Inv p T [] t (d.2.2.1::[r]) [] W:=S.perm (List.Perm.swap r d.2.2.1 []);obtain ⟨N2,F2,A2,g1,g2,g3,g4,g5⟩:=aoW (W:=W) (wi:=d.1) (ro:=r) (ma:=d.2.2.2.1) (y:=some y') W aA (by show _<2^64;omega) d.2.2.1 p T [] t [r] aR1 I2 (by omega) (λj=>by rw [F];have:=R j;have:=K j;split <;> omega);rw [ao8,g1];have U:=g2.ext (i:=r) (by simp);have a2:At N2 A2 W r:=by rw [<-f];exact a1.cE (λj l _=>(g4 j l).2) (λj l _ e he _=>g2.closed l (by rw [(g4 j l).2];exact he)) U
  have O:∀v:zB,v.length=W->(acc p v r↔acc N2 v r):=λv q=>acc.same (N:=N2) (N':=p) (A:=A2) (λj l=>(g4 j l).2.symm) a2 q;refine ⟨(d.1,N2,r,i64.wrap (d.2.2.2.1+1),F2),A2,rfl,⟨G.wide,hW,by omega,?_,.inr a2,by simp only [];omega,λj=>?_,mm⟩,λv q=>?_⟩
  .simp only [cx s];exact g2
  .simp only [];have g:=g5 j;rw [F] at g;have:=R j;have:=K j;split at g <;> omega
  .show (r≠ -1/\acc N2 v r)↔_;rw [<-O v q,z v (by omega)];exact ⟨λh=>h.2,λh=>⟨s,h⟩⟩
end Df
end
end Go.Proofs.YtdolcddlmodkkaaGreatDoor
