/- Own texts for NestArgsQ, cut and joined by a program. -/
import Derived.Test.YtcgihjbfppkcfaaGreatDoorNestArgsQH
set_option linter.all false
namespace Go.Proofs.YtcgihjbfppkcfaaGreatDoor
open IntKind (i64 u64 u8)
noncomputable section
open Go.Proofs
noncomputable section
set_option maxRecDepth 100000
open Tryz
def EX:aA:=⟨3,[.str,mB,J0],.bool,[],U3 kE⟩
theorem B0:Ko EX:=
 aG .o call3 func3 (aw Fg (aw Di (aw Dv (aw Jc (aw F7 ax)))))
end
variable {v : zl} {α ρ : Type}
namespace So
theorem ah(x:α)(k:α->Option ρ):(some x).bind k=k x:=id rfl
theorem aK(x:α)(k:α->Option ρ):ai x k=k x:=id rfl
theorem aO{c:Bool}(h:c=true)(k:Option ρ):aN c k=k:=by rw [h];rfl
theorem dN(d:α)(m:Option α)(k:α->Option ρ):bm true d m k=m.bind k:=id rfl
theorem rY(d:α)(m:Option α)(k:α->Option ρ):bm false d m k=k d:=id rfl
theorem bG(xs:List α)(k:Nat):idx xs (k:Int)=xs[k]? :=by simp [idx]
theorem fz{α:Type}{xs:List α}{k:Nat}(h:k<xs.length):idx xs (k:Int)=some xs[k]:=by rw [bG,b9 h]
theorem fu{α:Type}{xs:List α}{k:Nat}{x:α}(h:xs[k]? =some x):idx xs (k:Int)=some x:=by rw [bG,h]
theorem JZ{xs:List α}{x:α}(h:xs[0]? =some x):idx xs 0=some x:=fu (k:=0) h
theorem kY{k n:Nat}(h:k<n):decide ((k:Int)<(n:Int))=true:=cb (by omega)
theorem vT{k n:Nat}(h:¬k<n):decide ((k:Int)<(n:Int))=false:=cy (by omega)
theorem nx{n:Nat}(h:n<9223372036854775807):i64.wrap ((n:Int)+1)=((n+1:Nat):Int):=by rw [bB (by omega)];omega
theorem eC{k b:Nat}(h:k*b<=140737488355328)(a:k<=9223372036854775807):aH k b=true:=by simp only [aH,au];exact ⟨qI h,qI a⟩
theorem arX{σ ρ:Type}{F:(σ->Option ρ)->σ->Option ρ}(f:Nat->σ){r:Option ρ}(n:Nat)(a:∀i,i<n->∀k,F k (f i)=k (f (i+1)))(b:∀k,F k (f n)=r):
  ∀(d i M:Nat),i+d=n->d<M->aj F M (f i)=r
 |0,i,M,h,hM=>by
  obtain ⟨m,rfl⟩:∃m,M=m+1:=⟨M-1,by omega⟩;rw [ao,show i=n by omega];exact b _
 |d+1,i,M,h,hM=>by obtain ⟨m,rfl⟩:∃m,M=m+1:=⟨M-1,by omega⟩;rw [ao,a i (by omega)];exact arX f n a b d (i+1) m (by omega) (by omega)
theorem wM{σ:Type}{F:(σ->Option ρ)->σ->Option ρ}(f:Nat->σ){r:Option ρ}(n:Nat){s:σ}(c:s=f 0)(hn:n<9223372036854775807)(a:∀i,i<n->∀k,F k (f i)=k (f (i+1)))(b:∀k,F k (f n)=r):
  aj F an s=r:=by
 rw [c];exact arX f n a b n 0 an (by omega) (by show n<2^64;omega)
theorem Sr(p:Nat->Bool):∀n,(∃i,i<n/\p i=true/\∀j,j<i->p j=false)\/∀j,j<n->p j=false
 |0=> .inr λj h=>by omega
 |n+1=>by
  rcases Sr p n with ⟨i,d,b,a⟩|h
  .exact .inl ⟨i,by omega,b,a⟩
  .cases hp:p n
   .refine .inr λj c=>?_;by_cases e:j=n
    .rw [e];exact hp
    .exact h j (by omega)
   .exact .inl ⟨n,by omega,hp,h⟩
theorem findF{σ:Type}{F:(σ->Option ρ)->σ->Option ρ}(f:Nat->σ)(p:Nat->Bool){r:Nat->Option ρ}(n:Nat){s:σ}(g:s=f 0)(hn:n<9223372036854775807)
  (b:∀i,i<n->p i=false->∀k,F k (f i)=k (f (i+1))) (hx:∀i,i<n->p i=true->∀k,F k (f i)=r i) (l:∀k,F k (f n)=r n):
  (∃i,i<n/\p i=true/\(∀j,j<i->p j=false)/\aj F an s=r i)\/((∀j,j<n->p j=false)/\aj F an s=r n):=by
 rcases Sr p n with ⟨i,e,d,c⟩|h
 .exact .inl ⟨i,e,d,c,wM f i g (by omega) (λj a=>b j (by omega) (c j a)) (hx i e d)⟩
 .exact .inr ⟨h,wM f n g hn (λj a=>b j a (h j a)) l⟩
abbrev Fd:=Int×Int
def NN(f:Fd):Bool:=decide (-1073741824<=f.1)&&decide (f.2<=1073741824)&&decide (f.1<=f.2)&&decide (f.2-f.1<=65535)
def lX(s:List Fd):Bool:=decide (1<=s.length)&&decide (s.length<=17)&&s.all NN
structure ka(s:List Fd):Prop where
 pos:1<=s.length
 df:s.length<=17
 each:∀f∈s,-1073741824<=f.1/\f.2<=1073741824/\f.1<=f.2/\f.2-f.1<=65535
theorem Mz{s:List Fd}:lX s=true↔ka s:=by
 simp only [lX,NN,au,er,qo];constructor
 .rintro ⟨⟨d,c⟩,b⟩;exact ⟨d,c,λf a=>by have:=b f a;omega⟩
 .rintro ⟨d,c,b⟩;exact ⟨⟨d,c⟩,λf a=>by have:=b f a;omega⟩
abbrev vY(n:Int):Prop:= -9223372036854775808<=n/\n<=9223372036854775807
abbrev FI(s:List Fd):Prop:= ∀f∈s,vY f.1/\vY f.2
theorem asg{f:Fd}(b:vY f.1)(a:vY f.2):tI f=some (NN f):=by
 unfold tI NN;simp only [aK,ej];rw [qC];simp only [au,l9,l5,er,pA];by_cases h:f.1< -1073741824\/1073741824<f.2
 .omega
 .by_cases c:f.1<=f.2
  .rw [bB (by omega)];omega
  .omega
theorem ZS{d:α}{s:List Fd}{g:Fd->α}(F:(List α×Int->Option (List α))->List α×Int->Option (List α))(a:∀i (hi:i<s.length) (k:List α×Int->Option (List α)) (l:List α),i<l.length->F k (l,(i:Int))=k (l.set i (g s[i]),((i+1:Nat):Int)))
  (b:∀(k:List α×Int->Option (List α)) (l:List α),F k (l,(s.length:Int))=some l) (hn:s.length<4611686018427387904):aj F an (List.replicate (Int.toNat (s.length:Int)) d,0)=some (s.map g):=by
 refine wM (λi=>((s.take i).map g++List.replicate (s.length-i) d,(i:Int))) s.length (by simp) (by omega) (λi hi k=>?_) (λk=>?_)
 .rw [a i hi k _ (by simp only [eF,nI,dq,vy];omega)];refine congrArg k (Prod.ext ?_ rfl);show List.set _ i _=_;rw [List.set_append,dk (by rw [nI,dq];omega)];rw [show s.length-i=(s.length-(i+1))+1 by omega,qP];rw [show i-((s.take i).map g).length=0 by rw [nI,dq];omega,List.set_cons_zero,qu,rJ,b9 hi];simp
 .rw [b];simp
theorem acG{s:List Fd}(a:FI s)(hn:s.length<100000000):sx s=some (s.map NN):=by
 unfold sx;rw [aO (cb (by omega)),aO (eC (by simp;omega) (by simp;omega))];refine ZS (d:=false) _ (λi hi k l hl=>?_) (λk l=>?_) (by omega)
 .have:=a s[i] (c9 hi);simp only [tv,kY hi,ca,fz hi,ah,asg this.1 this.2,fz hl,nx (show i<9223372036854775807 by omega),gx]
 .simp only [tv,vT (o5 _),b7]
theorem contains_eq{l:zk}(hn:l.length<100000000)(b:Bool):jh l b=some (l.contains b):=by
 unfold jh pz;refine (findF (F:=fV l b) (λi=>(i:Int)) (λi=>l[i]? ==some b) (r:=λi=>if i<l.length then some (i:Int) else some (-1)) l.length (s:=0) rfl (by omega) (λi hi hp k=>?_) (λi hi hp k=>?_) (λk=>?_)).elim (λ⟨i,a,d,f,c⟩=>?_) (λ⟨a,c⟩=>?_)
 .simp only [fV,kY hi,ca,fz hi,ah,nx (show i<9223372036854775807 by omega)];rw [b9 hi] at hp;have:(b==l[i])=false:=by simp at hp ⊢; exact λe=>hp e.symm
  rw [this,b7]
 .simp only [fV,kY hi,ca,fz hi,ah,du hi];rw [b9 hi] at hp;have:(b==l[i])=true:=by simp at hp ⊢; exact hp.symm
  rw [this,ca]
 .simp only [fV,vT (o5 _),b7,dk (o5 _)]
 .rw [c,du a,ah,cb (by omega)];rw [b9 a] at d;have:l[i]=b:=by simpa using d
  rw [<-this,List.contains_iff_mem.2 (c9 a)]
 .rw [c,dk (by omega),ah,cy (by omega)];have:¬b∈l:=λhm=>by obtain ⟨i,hi,e⟩:=qR hm;have:=a i hi;rw [b9 hi,e] at this;simp at this
  rw [show l.contains b=false by rw [<-u9];exact λh=>this (List.contains_iff_mem.1 h)]
theorem Rw{s:List Fd}(a:FI s):uw s=some (lX s):=by
 unfold uw lX;simp only [aK];by_cases h:1<=s.length/\s.length<=17
 .rw [cb (show (1:Int)<=s.length by omega),cb (show (s.length:Int)<=17 by omega),cb h.1,cb h.2,q9,dN,acG a (by omega),ah,dN,contains_eq (by simp;omega),ah];simp only [fj,ej];rw [qC];simp
 .have e:(decide ((1:Int)<=(s.length:Int))&&decide ((s.length:Int)<=17))=false:=by rw [<-u9,au,er,er];omega
  have e':(decide (1<=s.length)&&decide (s.length<=17))=false:=by rw [<-u9,au,er,er];omega
  rw [e,e',rY,rY,lk,lk]
def uR(s:List Fd)(v:zl):Bool:=(List.zip s v).all λp=>decide (p.1.1<=p.2)&&decide (p.2<=p.1.2)
def pX(s:List Fd)(v:zl):Int:=if v.length=s.length then (if uR s v=true then 0 else 5) else 1
structure In(s:List Fd)(v:zl):Prop where
 len:v.length=s.length
 each:∀i (h:i<s.length),s[i].1<=v[i]/\v[i]<=s[i].2
theorem ou{s:List Fd}(hl:v.length=s.length):uR s v=true↔In s v:=by
 simp only [uR,qo,au,er];constructor
 .intro h;refine ⟨hl,λi hi=>?_⟩;exact h (s[i],v[i]) (List.mem_iff_getElem.2 ⟨i,by simp;omega,by simp⟩)
 .rintro ⟨_,h⟩ ⟨f,n⟩ hm;obtain ⟨i,hi,e⟩:=List.mem_iff_getElem.1 hm;simp at hi e;have:=h i (by omega);rw [e.1,e.2] at this;exact this
theorem sF{s:List Fd}:pX s v=0↔In s v:=by
 unfold pX;by_cases hl:v.length=s.length
 .rw [du hl];by_cases h:uR s v=true
  .rw [du h];exact ⟨λ_=>(ou hl).1 h,λ_=>rfl⟩
  .rw [dk h];exact ⟨λh=>by omega,λa=>absurd ((ou hl).2 a) h⟩
 .rw [dk hl];exact ⟨λh=>by omega,λh=>absurd h.len hl⟩
theorem alM{s:List Fd}(hl:v.length=s.length)(i:Nat)(hi:i<s.length)(h:¬(s[i].1<=v[i]/\v[i]<=s[i].2)):pX s v=5:=by unfold pX;rw [du hl,dk (λa=>h (((ou hl).1 a).each i hi))]
theorem wH(s:List Fd)(v:zl)(hn:v.length<100000000):fL s v=some (pX s v):=by
 unfold fL;by_cases hl:v.length=s.length
 .rw [show ((v.length:Int) != (s.length:Int))=false by simp;omega,b7];have a:∀i,i<v.length->i<s.length:=λi h=>by omega
  refine (findF (F:=uA s v) (λi=>(i:Int)) (λi=>if h:i<v.length then !(decide ((s[i]'(a i h)).1<=v[i])&&decide (v[i]<=(s[i]'(a i h)).2)) else false) (r:=λi=>if i<v.length then some 5 else some 0) v.length (s:=0) rfl (by omega) (λi hi hp k=>?_) (λi hi hp k=>?_) (λk=>?_)).elim (λ⟨i,b,d,e,c⟩=>?_) (λ⟨b,c⟩=>?_)
  .simp only [ub hi,Bool.not_eq_false'] at hp;simp only [uA,lx,aK,kY hi,ca,fz hi,fz (a i hi),ah,hp,py,b7,nx (show i<9223372036854775807 by omega)]
  .simp only [ub hi,l9] at hp;simp only [uA,lx,aK,kY hi,ca,fz hi,fz (a i hi),ah,hp,iN,du hi]
  .simp only [uA,vT (o5 _),b7,dk (o5 _)]
  .rw [c,du b,alM hl i (by omega)];rw [ub b] at d;simp at d;omega
  .rw [c,dk (by omega),sF.2 ⟨hl,λi hi=>?_⟩];have:=b i (by omega);rw [ub (by omega)] at this;simpa using this
 .rw [show ((v.length:Int) != (s.length:Int))=true by simp;omega,ca];unfold pX;rw [dk hl]
def bl(n:Nat):Nat:=if n=0 then 0 else bl (n/2)+1
theorem asH(n:Nat):n<2^bl n:=by
 induction n using Nat.strongRecOn with
 |_ n ih=>
  unfold bl;by_cases h:n=0
  .rw [du h,h];decide
  .rw [dk h,Nat.pow_succ];have:=ih (n/2) (by omega);omega
theorem agX{n w:Nat}(h:n<2^w):bl n<=w:=by
 induction w generalizing n with
 |zero=>rw [Nat.pow_zero] at h;rw [show n=0 by omega];unfold bl;simp
 |succ w ih=>
  unfold bl;by_cases a:n=0
  .rw [du a];omega
  .rw [dk a];have:=ih (n:=n/2) (by rw [Nat.pow_succ] at h;omega);omega
theorem XR:∀(M n k:Nat),bl n<M->k+bl n<1000->aj Fq M ((n:Int),(k:Int))=some ((k+bl n:Nat):Int)
 |0,_,_,h,_=>by omega
 |M+1,n,k,h,hk=>by
  rw [ao];unfold bl at h hk ⊢;by_cases a:n=0
  .subst a;rfl
  .rw [dk a] at h hk ⊢;have:=XR M (n/2) (k+1) (by omega) (by omega);simp only [Fq,cb (show (0:Int)<(n:Int) by omega),ca,nx (show k<9223372036854775807 by omega)];rw [show iO .u64 (n:Int) 1=((n/2:Nat):Int) by show (n:Int)/2^1=_;omega,this]
   congr 2;omega
theorem WY{n:Nat}(h:n<18446744073709551616):Cp (n:Int)=some (bl n:Int):=by unfold Cp;have hb:=agX (n:=n) (w:=64) (by omega);have:=XR an n 0 (by show bl n<2^64;omega) (by omega);rw [mN] at this;exact this
def wd(f:Fd):Nat:=bl (f.2-f.1).toNat
theorem aow{f:Fd}(h:f.2-f.1<=65535):wd f<=16:=agX (by omega)
theorem span_eq{s:List Fd}(a:ka s){f:Fd}(b:f∈s):kA f=some (wd f:Int):=by have h:=a.each f b;unfold kA;rw [bB (by omega),abI (by omega)];obtain ⟨n,hn⟩:=qm (show 0<=f.2-f.1 by omega);rw [hn,WY (by omega),ah];unfold wd;rw [hn];rfl
structure jA(s:List Fd):Prop where
 df:s.length<=17
 each:∀f∈s,-1073741824<=f.1/\f.2<=1073741824/\f.1<=f.2/\f.2-f.1<=65535
theorem ka.fds{s:List Fd}(h:ka s):jA s:=⟨h.df,h.each⟩
theorem al3{s:List Fd}(a:jA s){f:Fd}(b:f∈s):kA f=some (wd f:Int):=by have h:=a.each f b;unfold kA;rw [bB (by omega),abI (by omega)];obtain ⟨n,hn⟩:=qm (show 0<=f.2-f.1 by omega);rw [hn,WY (by omega),ah];unfold wd;rw [hn];rfl
theorem Qp{s:List Fd}(a:jA s):oI s=some (s.map λf=>(wd f:Int)):=by
 have hn:=a.df;unfold oI;rw [aO (cb (by omega)),aO (eC (by simp;omega) (by simp;omega))];refine ZS (d:=0) _ (λi hi k l hl=>?_) (λk l=>?_) (by omega)
 .simp only [tX,kY hi,ca,fz hi,ah,al3 a (c9 hi),fz hl,nx (show i<9223372036854775807 by omega),gx]
 .simp only [tX,vT (o5 _),b7]
def oO(s:List Fd):Nat:=(s.map wd).sum
theorem AP{s:List Fd}(a:jA s):oO s<=16*s.length:=by
 have h:=a.each;clear a
 induction s with
 |nil=>simp [oO]
 |cons f s ih=>
  have d:=aow (f:=f) (by have:=h f (by simp);omega);have c:=ih (λg b=>h g (by simp [b]));simp only [oO,e9,List.sum_cons,eb] at *; omega
theorem SX{s:List Fd}{i:Nat}(hi:i<s.length):oO (s.take (i+1))=oO (s.take i)+wd s[i]:=by unfold oO;rw [qu,b9 hi,rJ,List.sum_append];simp
theorem jA.take{s:List Fd}(a:jA s)(i:Nat):jA (s.take i):=⟨by simp;have:=a.df;omega,λf b=>a.each f (qX b)⟩
theorem jA.drop{s:List Fd}(a:jA s)(i:Nat):jA (s.drop i):=⟨by simp;have:=a.df;omega,λf b=>a.each f (qY b)⟩
theorem ao5{s:List Fd}(a:jA s):Bs s=some (oO s:Int):=by
 unfold Bs;rw [Qp a,ah];have hn:=a.df;refine wM (λi=>((oO (s.take i):Int),(i:Int))) s.length (by simp [oO]) (by omega) (λi hi k=>?_) (λk=>?_)
 .have c:=AP (a.take (i+1));have b:=SX hi;simp at c;simp only [Bq,nI,kY hi,ca,bG,qt,b9 hi,mj,ah,nx (show i<9223372036854775807 by omega)];rw [bB (by omega),b];rfl
 .simp only [Bq,nI,vT (o5 _),b7,qx]
def iz(s:List Fd):Nat:=max 1 ((oO s+7)/8)
theorem aaB{s:List Fd}(a:jA s):rD s=some (iz s:Int):=by unfold rD;have h:=AP a;have:=a.df;rw [ao5 a,ah,bB (show _/\(oO s:Int)+7<=_ by omega)];rw [show Int.tdiv ((oO s:Int)+7) 8=(((oO s+7)/8:Nat):Int) from rfl,bB (by omega)];unfold iz;congr 1;omega
end So
namespace So
def b8(a b c d e f g h:Bool):Int:=128*a.toNat+64*b.toNat+32*c.toNat+16*d.toNat+8*e.toNat+4*f.toNat+2*g.toNat+h.toNat
def bt(m:zk)(j:Nat):Bool:=m[j]? ==some true
def uv(m:zk):Int:=b8 (bt m 0) (bt m 1) (bt m 2) (bt m 3) (bt m 4) (bt m 5) (bt m 6) (bt m 7)
theorem ain(m:zk):0<=uv m/\uv m<=255:=by
 unfold uv b8;have (b:Bool):b.toNat<=1:=by cases b <;> decide
 grind
theorem Xx{m a:zk}(h:∀j,j<8->bt m j=bt a j):uv m=uv a:=by grind [uv]
theorem arF(a b c d e f g h:Bool):
  decide (b8 a b c d e f g h/128%2=1)=a/\decide (b8 a b c d e f g h/64%2=1)=b/\decide (b8 a b c d e f g h/32%2=1)=c/\decide (b8 a b c d e f g h/16%2=1)=d/\
  decide (b8 a b c d e f g h/8%2=1)=e/\decide (b8 a b c d e f g h/4%2=1)=f/\decide (b8 a b c d e f g h/2%2=1)=g/\decide (b8 a b c d e f g h/1%2=1)=h:=by
 cases a <;> cases b <;> cases c <;> cases d <;> cases e <;> cases f <;> cases g <;> cases h <;> decide
theorem aec(m:zk)(j:Nat)(i:j<8):decide (uv m/2^(7-j)%2=1)=bt m j:=by
 obtain ⟨h,g,f,e,d,c,b,a⟩:=arF (bt m 0) (bt m 1) (bt m 2) (bt m 3) (bt m 4) (bt m 5) (bt m 6) (bt m 7)
 match j with
 |0=>exact h
 |1=>exact g
 |2=>exact f
 |3=>exact e
 |4=>exact d
 |5=>exact c
 |6=>exact b
 |7=>exact a
 |_+8=>omega
theorem ahv:∀m:zk,m.length<8->uv (m++[false])=uv m
 |m,h=>Xx λj _=>by unfold bt;grind
theorem agP:∀m:zk,m.length<8->vu .u8 (uv m) (iO .u8 128 (m.length:Int))=uv (m++[true])
 |[],_=>by decide
 |[a],_=>by cases a <;> decide
 |[a,b],_=>by cases a <;> cases b <;> decide
 |[a,b,c],_=>by cases a <;> cases b <;> cases c <;> decide
 |[a,b,c,d],_=>by cases a <;> cases b <;> cases c <;> cases d <;> decide
 |[a,b,c,d,e],_=>by cases a <;> cases b <;> cases c <;> cases d <;> cases e <;> decide
 |[a,b,c,d,e,f],_=>by cases a <;> cases b <;> cases c <;> cases d <;> cases e <;> cases f <;> decide
 |[a,b,c,d,e,f,g],_=>by cases a <;> cases b <;> cases c <;> cases d <;> cases e <;> cases f <;> cases g <;> decide
 |_::_::_::_::_::_::_::_::_,h=>by simp at h;omega
def pk(l:zk):zl:=(List.range ((l.length+7)/8)).map λi=>uv (l.drop (8*i))
theorem p9(l:zk):(pk l).length=(l.length+7)/8:=by simp [pk]
theorem JJ(l:zk)(i:Nat):(pk l)[i]? =if i<(l.length+7)/8 then some (uv (l.drop (8*i))) else none:=by unfold pk;grind
theorem VU(l:zk)(k j:Nat):bt (l.drop k) j=bt l (k+j):=by unfold bt;rw [qw]
theorem aoZ(l:zk)(b:Bool)(j:Nat)(h:j≠l.length):bt (l++[b]) j=bt l j:=by unfold bt;grind
theorem arJ{l m:zk}(hl:l.length=m.length)(h:pk l=pk m):l=m:=by
 refine mm λk=>?_;by_cases hk:k<l.length
 .have a:=congrArg (λx=>x[k/8]?) h;simp [JJ] at a;rw [du (by omega),du (by omega)] at a;have c:=gj a;have b:=aec (l.drop (8*(k/8))) (k%8) (by omega);rw [c,aec _ _ (by omega),VU,VU,Nat.div_add_mod] at b;unfold bt at b;simp_all
 grind
abbrev By(l:zl):Prop:= ∀x∈l,0<=x/\x<=255
theorem asT(l:zk):By (pk l):=by intro x hx;simp [pk,List.mem_map] at hx;obtain ⟨i,_,rfl⟩:=hx;exact ain _
theorem abh(l:zk)(b:Bool)(i:Nat)(h:8*i+8<=l.length):uv ((l++[b]).drop (8*i))=uv (l.drop (8*i)):=
 Xx λj a=>by grind [VU,aoZ]
theorem amX(l:zk)(b:Bool)(h:l.length%8=0):pk (l++[b])=pk l++[uv [b]]:=by
 refine mm λi=>?_;rw [JJ,tt,p9,JJ,eF,List.length_singleton];by_cases a:i<(l.length+7)/8
 .rw [du (by omega),du a,du a,abh _ _ _ (by omega)]
 .rw [dk a];by_cases c:i=l.length/8
  .rw [du (by omega),show i-(l.length+7)/8=0 by omega];rw [List.drop_append,qg (by omega),show 8*i-l.length=0 by omega];rfl
  grind
theorem anp(l:zk)(b:Bool)(h:l.length%8≠0):pk (l++[b])=(pk l).set (l.length/8) (uv (l.drop (8*(l.length/8))++[b])):=by
 refine mm λi=>?_;rw [JJ,List.getElem?_set,p9,JJ,eF,List.length_singleton];by_cases c:l.length/8=i
 .grind
 .rw [dk c];by_cases a:i<(l.length+7)/8
  .rw [du (by omega),du a,abh _ _ _ (by omega)]
  grind
theorem add_eq(l:zk)(b:Bool)(hl:l.length<1000000):yB b (pk l) (l.length:Int)=some (pk (l++[b]),((l.length+1:Nat):Int)):=by
 have hd:i64.wrap (Int.tdiv (l.length) 8)=((l.length/8:Nat)):=by rw [show Int.tdiv (l.length) 8=((l.length/8:Nat)) from rfl,bB (by omega)]
 have hm:Int.tmod (l.length) 8=((l.length%8:Nat)):=rfl;have hk:∀c:zl,c.length=l.length/8+1->c[l.length/8]? =some (uv (l.drop (8*(l.length/8))))->yX b (l.length) c=some (c.set (l.length/8) (uv (l.drop (8*(l.length/8))++[b])),((l.length+1:Nat):Int)):=by
  intro c e d;have a:(l.drop (8*(l.length/8))).length=l.length%8:=by simp;omega
  unfold yX GL;simp only [aK];rw [nx (by omega)];cases b
  .rw [b7,ahv _ (by omega)];grind [List.getElem?_eq_getElem,Option.some.inj,List.set_getElem_self]
  .rw [ca,hd,hm,fu d,ah,aO (cb (by omega)),ah,gx,<-agP _ (by omega),a]
 unfold yB;simp only [aK];rw [hm];by_cases h:l.length%8=0
 .rw [h,show (((0:Nat):Int)==0)=true from rfl,ca,aO (eC (by simp [p9];omega) (by simp [p9];omega)),hk]
  .rw [amX l b h];have:l.length/8=(pk l).length:=by rw [p9];omega
   rw [qg (by omega),this,sv _ _ (cK _),Nat.sub_self];rfl
  .simp [p9];omega
  .rw [de (by rw [p9];omega),p9,show l.length/8-(l.length+7)/8=0 by omega,qg (by omega)];rfl
 .rw [show (((l.length%8:Nat):Int)==0)=false by simp;omega,b7,hk]
  .rw [anp l b h]
  .rw [p9];omega
  .rw [JJ,du (by omega)]
def be(n:Nat):Nat->zk
 |0=>[]
 |w+1=>decide (n/2^w%2=1)::be n w
theorem Fu(n:Nat):∀w,(be n w).length=w
 |0=>rfl
 |w+1=>by simp [be,Fu n w]
theorem Sw(n:Nat):∀w t,t<w->(be n w)[t]? =some (decide (n/2^(w-1-t)%2=1))
 |0,t,h=>by omega
 |w+1,0,_=>by simp [be]
 |w+1,t+1,h=>by rw [be,hU,Sw n w t (by omega)];grind
theorem ajE{n m:Nat}:∀w,n<2^w->m<2^w->be n w=be m w->n=m
 |0,h1,h2,_=>by omega
 |w+1,h1,h2,h=>by
  simp [be,qa] at h;have a:∀n w,be (n%2^w) w=be n w:=by
   intro n w;refine mm λt=>?_;by_cases ht:t<w
   .rw [Sw _ _ _ ht,Sw _ _ _ ht];have:n%2^w/2^(w-1-t)%2=n/2^(w-1-t)%2:=by rw [show 2^w=2^(w-1-t)*2^(t+1) by rw [<-Nat.pow_add];congr 1;omega,Nat.mod_mul_right_div_self];rw [Nat.pow_succ,Nat.mul_comm,Nat.mod_mul_right_mod]
    rw [this]
   grind [List.getElem?_eq_none,Fu]
  have d:=ajE (n:=n%2^w) (m:=m%2^w) w (qT _ (Nat.two_pow_pos w)) (qT _ (Nat.two_pow_pos w)) (by grind);have c:n/2^w<2:=Nat.div_lt_of_lt_mul (by grind);have b:m/2^w<2:=Nat.div_lt_of_lt_mul (by grind);grind [Nat.div_add_mod]
theorem atQ{x:Nat}(h:x<18446744073709551616):rB .u64 (x:Int) 1=((x%2:Nat):Int):=by
 unfold rB;rw [BitVec.toNat_and,BitVec.toNat_ofInt,BitVec.toNat_ofInt];rw [show ((x:Int)%((2^u64.bits:Nat))).toNat=x by show ((x:Int)%((18446744073709551616:Nat))).toNat=x;omega]
 rw [show ((1:Int)%((2^u64.bits:Nat))).toNat=1 from rfl,Nat.and_one_is_mod,abI (by omega)]
theorem as5{k:IntKind}(hk:k.bits=64)(n i:Nat)(hi:i<64):iO k (n:Int) (i:Int)=((n/2^i:Nat):Int):=by grind [iO,Int.toNat_natCast,Nat.min_eq_left]
theorem L7(l:zl)(h:l.length<100000000):wj l=some l:=by grind [wj,aO,eC]
theorem arZ(l:zk)(n w:Nat)(hl:l.length<100000)(c:w<=64)(hn:n<2^w):J9 (pk l,(l.length:Int)) (n:Int) (w:Int)=some ((pk (l++be n w),((l.length+w:Nat):Int)),0):=by
 have a:n<18446744073709551616:=gr hn (dx (Nat.pow_le_pow_right (by omega) c) (by decide));have hb:=agX hn;unfold J9 WO;simp [aK];rw [cy (by omega),cy (by omega),tA,b7,WY a,ah,cy (by omega),b7,
  L7 _ (by rw [p9];omega),ah,ah]
 refine wM (λt=>(pk (l++(be n w).take t),((l.length+t):Int),(w:Int)-1-t)) w (by grind [bB]) (by omega) (λt ht k=>?_) (λk=>?_)
 .have hi:(w:Int)-1-t=((w-1-t:Nat)):=by omega
  have d:(l++(be n w).take t).length=l.length+t:=by grind [List.length_append,List.length_take,Fu]
  have ha:=add_eq (l++(be n w).take t) (decide (n/2^(w-1-t)%2=1)) (by omega);have b:(rB .u64 (iO .u64 (n) ((w-1-t:Nat))) 1==1)=decide (n/2^(w-1-t)%2=1):=by rw [as5 rfl _ _ (by omega),atQ (Nat.lt_of_le_of_lt (Nat.div_le_self _ _) a),qC,n6,er];grind
  simp [HA,hi,cb (show (0:Int)<=((w-1-t:Nat)) by omega),aO rfl,ha];grind [bB,List.append_assoc,List.take,decide,List.take_add_one,Sw]
 .simp [HA];rw [cy (by omega),b7,fb (by rw [Fu];omega)]
def va(s:List Fd)(v:zl):zk:=(List.zip s v).flatMap λp=>be (p.2-p.1.1).toNat (wd p.1)
theorem ahb(f:Fd)(s:List Fd)(n:Int)(v:zl):va (f::s) (n::v)=be (n-f.1).toNat (wd f)++va s v:=rfl
theorem xN:∀(s:List Fd) (v:zl),v.length=s.length->(va s v).length=oO s
 |[],[],_=>rfl
 |f::s,n::v,h=>by
  have:=xN s v (by simpa using h);grind [ahb,List.length_append,Fu,oO]
 |[],_::_,h=>by simp at h
 |_::_,[],h=>by simp at h
theorem ahg{s:List Fd}{i:Nat}(c:i<s.length)(b:i<v.length):va (s.take (i+1)) (v.take (i+1))=va (s.take i) (v.take i)++be (v[i]-s[i].1).toNat (wd s[i]):=by
 unfold va;have a (k:Nat):List.zip (s.take k) (v.take k)=(List.zip s v).take k:=by simp [List.zip,List.take_zipWith]
 rw [a,a,qu,b9 (by simp;omega),List.flatMap_append];simp
theorem acO{s:List Fd}(hi:In s v){i:Nat}(h:i<s.length)(a:i<v.length):(v[i]-s[i].1).toNat<2^wd s[i]:=by
 have:=hi.each i h;have:=asH (s[i].2-s[i].1).toNat
 unfold wd;omega
def enc(s:List Fd)(v:zl):zl:=pk (va s v)++List.replicate (iz s-(pk (va s v)).length) 0
theorem AZ{s:List Fd}(h:v.length=s.length):(enc s v).length=iz s:=by grind [xN,enc,List.length_append,List.length_replicate,p9,iz]
theorem SW(s:List Fd)(v:zl):By (enc s v):=by
 intro x hx;rcases List.mem_append.1 hx with h|h
 .exact asT _ x h
 grind
theorem Ye:∀{s:List Fd} {v a:zl},In s v->In s a->va s v=va s a->v=a
 |[],[],[],_,_,_=>rfl
 |[],_::_,_,h,_,_=>by have:=h.len;simp at this
 |[],_,_::_,_,h,_=>by have:=h.len;simp at this
 |_::_,[],_,h,_,_=>by have:=h.len;simp at this
 |_::_,_,[],_,h,_=>by have:=h.len;simp at this
 |f::s,n::v,n'::a,h,h',e=>by have e':=List.append_inj e (by rw [Fu,Fu]);have j:=h.each 0 (by simp);have g:=h'.each 0 (by simp);have c:=acO h (i:=0) (by simp) (by simp);have b:=acO h' (i:=0) (by simp) (by simp);have hn:=ajE _ c b e'.1;have d:=Ye ⟨by have:=h.len;simpa using this,λi hi=>h.each (i+1) (by simp;omega)⟩ ⟨by have:=h'.len;simpa using this,λi hi=>h'.each (i+1) (by simp;omega)⟩ e'.2;grind
theorem aei{s:List Fd}{a:zl}(h:In s v)(b:In s a)(e:enc s v=enc s a):v=a:=by have l1:=xN s v h.len;have c:=xN s a b.len;have e':=List.append_inj e (by grind [p9]);grind [Ye,arJ]
theorem In.take{s:List Fd}(h:In s v)(i:Nat):In (s.take i) (v.take i):=
 ⟨by simp [h.len],λj a=>by simp at a ⊢; exact h.each j (by omega)⟩
theorem In.drop{s:List Fd}(h:In s v)(i:Nat):In (s.drop i) (v.drop i):=
 ⟨by simp [h.len],λj a=>by simp at a ⊢; exact h.each (i+j) (by omega)⟩
theorem Nv{s:List Fd}(a:jA s)(c:In s v):lP s v=some (enc s v,0):=by
 have l:=a.df;have hl:=c.len;have g:=AP a;unfold lP;rw [wH s v (by omega),sF.2 c,ah,show ((0:Int) != 0)=false from rfl,b7,Qp a,ah];refine wM (λi=>(pk (va (s.take i) (v.take i)),((oO (s.take i)):Int),(i:Int))) s.length (by simp [oO];rfl) (by omega) (λi hi k=>?_) (λk=>?_)
 .have b:i<v.length:=by omega
  have f:=a.each s[i] (c9 hi);have e:=c.each i hi;have d:=xN (s.take i) (v.take i) (by simp [hl]);have h:=AP (a.take i);have j:=arZ (va (s.take i) (v.take i)) (v[i]-s[i].1).toNat (wd s[i]) (by grind) (by grind [aow]) (acO c hi b);rw [d,<-ahg hi b,<-SX hi] at j;simp [w6,bG,ah];grind [bB,abI,ah]
 .simp only [w6,aaB a,ah];have hb:iz s<=40:=by unfold iz;omega
  rw [aO (cb (by omega)),aO (eC (by omega) (by omega)),qx,fb (by omega)];grind [yz,enc,va,iz,p9,xN,List.length_replicate,List.take_of_length_le]
end So
variable {K : w8} {m : Nat}
namespace So
theorem Xu:∀{x y:zl},By x->By y->strOf x=strOf y->x=y
 |[],[],_,_,_=>rfl
 |[],_::_,_,_,h=>by simp [strOf] at h
 |_::_,[],_,_,h=>by simp [strOf] at h
 |a::x,b::y,hx,hy,h=>by simp [strOf,e9,qa] at h;have ha:=hx a (by simp);have hb:=hy b (by simp);have e:=congrArg UInt8.toNat h.1;rw [UInt8.toNat_ofNat',UInt8.toNat_ofNat'] at e;rw [Xu (λx d=>hx x (by simp [d])) (λy c=>hy y (by simp [c])) h.2,show a=b by omega]
theorem JT{x y:zl}(hx:By x)(a:By y):we x y=some (decide (x=y)):=by unfold we;congr 1;grind [decide_eq_false,beq_eq_false_iff_ne,Xu]
def kl(h c:Int):Int:=u64.wrap ((Ez .u64 h (u64.wrap c))*1099511628211)
def sK(b:zl)(seed:Int):Int:=
 let h:=b.foldl kl (Ez .u64 seed 11400714819323198485);let h1:=Ez .u64 h (iO .u64 h 29);let h2:=u64.wrap (h1*13787848793156543929)
 Ez .u64 h2 (iO .u64 h2 32)
theorem aia(x:Int):0<=u64.wrap x/\u64.wrap x<18446744073709551616:=by rw [IntKind.wrap_u64];omega
theorem ajy(b:zl)(seed:Int):0<=sK b seed/\sK b seed<18446744073709551616:=aia _
theorem aeG(b:zl)(seed:Int)(hl:b.length<100000000):Ei b seed=some (sK b seed):=by
 refine wM (λi=>((b.take i).foldl kl (Ez .u64 seed 11400714819323198485),(i:Int))) b.length rfl (by omega) (λi hi k=>?_) (λk=>?_)
 .simp only [HK,kY hi,fz hi,nx (show i<9223372036854775807 by omega)];rw [qu,b9 hi,List.foldl_append];rfl
 .simp [HK,vT (o5 _),qx];rfl
def home(key:zl)(n:Nat):Nat:=(sK key 0).toNat%n
theorem xj(b:zl)(seed:Int){n:Nat}(c:0<n)(hn:n<1000000000):xP (sK b seed) (n:Int)=some (((sK b seed).toNat%n:Nat):Int):=by
 unfold xP;have h:=ajy b seed;rw [cy (by omega),b7,abI (by omega),aO (by simp;omega)];have:Int.tmod (sK b seed) (n)=(((sK b seed).toNat%n:Nat)):=by obtain ⟨m,hm⟩:=qm h.1;rw [hm];rfl
 have a:=qT (sK b seed).toNat c;rw [this,bB (by omega)]
theorem aoy{l m:List α}(hl:l.Nodup)(h:∀x∈l,x∈m):l.length<=m.length:=by
 classical
 induction l generalizing m with
 |nil=>simp
 |cons x l ih=>
  have hx:=h x (by simp);have hn:=List.nodup_cons.1 hl;obtain ⟨s,t,rfl⟩:=List.append_of_mem hx;have:=ih (m:=s++t) hn.2 λy a=>by grind
  simp at this ⊢; omega
theorem ni{l:List α}{i j:Nat}{a:α}(h:i<l.length):(l.set i a)[j]? =if i=j then some a else l[j]? :=by grind
theorem aal{l:List α}(h:l.Nodup){i j:Nat}(hi:i<l.length)(a:j<l.length)(e:l[i]=l[j]):i=j:=by grind [List.pairwise_iff_getElem,Nat.lt_trichotomy,absurd]
theorem pS{l:List α}{x:α}{i:Nat}(h:l[i]? =some x):i<l.length:=by grind
theorem aaX{l:List α}(h:l.Nodup){i j:Nat}{x:α}(hi:l[i]? =some x)(a:l[j]? =some x):i=j:=by grind [pS,List.getElem?_eq_getElem,aal,Option.some.inj,trans]
structure Laid(K:w8)(S:zl)(m:Nat):Prop where
 le:m<=K.length
 lt:m<S.length
 val:∀(p:Nat) (x:Int),S[p]? =some x->x=0\/∃i:Nat,i<m/\x=(i:Int)+1
 uniq:∀(p q:Nat) (x:Int),S[p]? =some x->S[q]? =some x->x≠0->p=q
 path:∀(i:Nat) (k:zl),i<m->K[i]? =some k->∃d,d<S.length/\S[(home k S.length+d)%S.length]? =some ((i:Int)+1)/\∀e,e<d->S[(home k S.length+e)%S.length]? ≠some 0
theorem Laid.free{S:zl}(h:Laid K S m):∃p,p<S.length/\S[p]? =some 0:=by
 by_cases hp:∃p,p<S.length/\S[p]? =some 0
 .exact hp
 .have b  :=λp l k=>hp ⟨p,l,k⟩;have c:S.Nodup:=by refine List.pairwise_iff_getElem.2 λi j hi d g e=>?_;have:=h.uniq i j _ ((b9 hi).trans (congrArg some e)) (b9 d) (λn=>b j d (by grind));omega
  have a:∀x∈S,x∈(List.range m).map λi:Nat=>(i:Int)+1:=by
   intro x hx;obtain ⟨p,f,e⟩:=qR hx;have e':S[p]? =some x:=by grind
   rcases h.val p x e' with rfl|⟨i,hi,rfl⟩
   .grind
   grind
  have:=aoy c a;simp at this;have:=h.lt;omega
theorem MH{S:zl}{cap:Int}(h:Laid K S m)(C:∀k∈K,By k){key:zl}(hk:By key)(hl:key.length<100000000)(hn:S.length<1000000000)(E:K.length<1000000000):
  ∃d,d<S.length/\fR (cap,K,S) key=some (((home key S.length+d)%S.length:Nat):Int)/\(∀e,e<d->S[(home key S.length+e)%S.length]? ≠some 0)/\
   ((S[(home key S.length+d)%S.length]? =some 0/\∀i:Nat,i<m->K[i]? ≠some key)\/∃i:Nat,i<m/\K[i]? =some key/\S[(home key S.length+d)%S.length]? =some ((i:Int)+1)):=by
 have w:0<S.length:=by have:=h.lt;omega
 have c (t:Nat):(home key S.length+t)%S.length<S.length:=qT _ w;have o:home key S.length<S.length:=qT _ w
 -- where it stops
 let q:Nat->Bool:=λt=>match S[(home key S.length+t)%S.length]? with
  |some x=>x==0||K[(x-1).toNat]? ==some key
  |none=>true
 have r (t:Nat) (x:Int) (hx:S[(home key S.length+t)%S.length]? =some x):q t=(x==0||K[(x-1).toNat]? ==some key):=by simp only [q,hx]
 have l:∀t,t<S.length->q t=false->∀k,gz (cap,K,S) key k (((home key S.length+t)%S.length:Nat):Int)=k (((home key S.length+(t+1))%S.length:Nat):Int):=by
  intro t ht a k;have hx:=b9 (c t);rw [r t _ hx] at a;rcases h.val _ _ hx with e|⟨i,hi,e⟩
  .rw [e] at a;simp at a
  .rw [e] at hx a;have g:i<K.length:=by have:=h.le;omega
   have b:K[i]? =some K[i]:=b9 g;have n:¬K[i]=key:=by simp only [l5] at a;have:=a.2;rw [show ((i:Int)+1-1).toNat=i by omega,b] at this;simpa using this
   simp only [gz,aK,fu hx,ah];rw [show ((i:Int)+1==0)=false by simp;omega];simp only [iN,dN];rw [bB (by omega),show (i:Int)+1-1=(i:Int) by omega,fu b,ah,JT (C _ (c9 g)) hk,ah,cy n,tA,b7];have hm:=c t;rw [aO (show ((S.length:Int) != 0)=true from bne_iff_ne.2 (by omega)),nx (show (home key S.length+t)%S.length<9223372036854775807 by omega)];congr 1;show ((((home key S.length+t)%S.length+1)%S.length:Nat):Int)=_;rw [Nat.mod_add_mod,q8]
 have j:∀t,t<S.length->q t=true->∀k,gz (cap,K,S) key k (((home key S.length+t)%S.length:Nat):Int)=some (((home key S.length+t)%S.length:Nat):Int):=by
  intro t ht a k;have hx:=b9 (c t);rw [r t _ hx] at a;rcases h.val _ _ hx with e|⟨i,hi,e⟩
  .rw [e] at hx;simp only [gz,aK,fu hx,ah];rfl
  .rw [e] at hx a;have g:i<K.length:=by have:=h.le;omega
   have b:K[i]? =some K[i]:=b9 g;have n:K[i]=key:=by rw [show ((i:Int)+1==0)=false by simp;omega,mE,show ((i:Int)+1-1).toNat=i by omega,b] at a;simpa using a
   simp only [gz,aK,fu hx,ah];rw [show ((i:Int)+1==0)=false by simp;omega];simp only [iN,dN];rw [bB (by omega),show (i:Int)+1-1=(i) by omega,fu b,ah,JT (C _ (c9 g)) hk,ah,cb n,Bool.or_true,ca]
 -- it stops somewhere
 have A:∃t,t<S.length/\q t=true:=by
  obtain ⟨p,hp,e⟩:=h.free;refine ⟨(p+S.length-home key S.length)%S.length,qT _ w,?_⟩;have:(home key S.length+(p+S.length-home key S.length)%S.length)%S.length=p:=by rw [Nat.add_mod_mod,show home key S.length+(p+S.length-home key S.length)=p+S.length by omega,Nat.add_mod_right,Nat.mod_eq_of_lt hp]
  rw [r _ 0 (by rw [this];exact e)];rfl
 rcases Sr q S.length with ⟨d,hd,u,f⟩|D
 .refine ⟨d,hd,?_,?_,?_⟩
  .unfold fR;rw [aeG key 0 hl,ah,xj key 0 w hn,ah];exact wM (λt=>(((home key S.length+t)%S.length:Nat):Int)) d (by rw [Nat.add_zero,Nat.mod_eq_of_lt o];rfl) (by omega) (λt ht=>l t (by omega) (f t ht)) (j d hd u)
  .intro e F H;have:=f e F;rw [r e 0 H] at this;simp at this
  .have hx:=b9 (c d);rcases h.val _ _ hx with e|⟨i,hi,e⟩
   .rw [e] at hx;refine .inl ⟨hx,λi hi b=>?_⟩;obtain ⟨s,I,B,G⟩:=h.path i key hi b;have v:q s=true:=by rw [r s _ B,show ((i:Int)+1-1).toNat=i by omega,b];simp
    have:d<=s:=by
     rcases qE s d with y|z
     .rw [f s y] at v;cases v
     .exact z
    by_cases e':d=s
    .subst e';rw [hx] at B;simp at B;omega
    .exact G d (by omega) hx
   .rw [e] at hx;rw [r d _ hx,show ((i:Int)+1==0)=false by simp;omega,mE,show ((i:Int)+1-1).toNat=i by omega] at u;grind
 .obtain ⟨t,ht,e⟩:=A;grind
theorem abK{K:w8}{S:zl}{m:Nat}{key:zl}(h:Laid K S m)(hk:K[m]? =some key)(hm:m+1<S.length){d:Nat}(hd:d<S.length)(t:S[(home key S.length+d)%S.length]? =some 0)(hp:∀e,e<d->S[(home key S.length+e)%S.length]? ≠some 0):
  Laid K (S.set ((home key S.length+d)%S.length) ((m:Int)+1)) (m+1):=by
 have n:m<K.length:=by
  rcases qE m K.length with h|h
  .exact h
  .rw [ma h] at hk;cases hk
 have w:0<S.length:=by omega
 have a:(home key S.length+d)%S.length<S.length:=qT _ w;refine ⟨n,by simpa using hm,λp x hx=>?_,λp q x hx g l=>?_,λi k hi f=>?_⟩
 .rw [ni a] at hx;split at hx
  .exact .inr ⟨m,by omega,(gj hx).symm⟩
  .rcases h.val p x hx with e|⟨i,hi,e⟩
   .exact .inl e
   .exact .inr ⟨i,by omega,e⟩
 .have c:∀p:Nat,S[p]? =some ((m)+1)->False:=λp hp=>by rcases h.val p _ hp with e|⟨i,hi,e⟩ <;> omega
  rw [ni a] at hx g;split at hx <;> split at g
  .omega
  .rw [<-gj hx] at g;exact absurd g (λh=>c q h)
  .rw [<-gj g] at hx;exact absurd hx (λh=>c p h)
  .exact h.uniq p q x hx g l
 .rw [qM];have b:∀p:Nat,S[p]? ≠some 0->(S.set ((home key S.length+d)%S.length) ((m)+1))[p]? ≠some 0:=by
   intro p j e;rw [ni a] at e;split at e
   .have:=gj e;omega
   .exact j e
  by_cases o:i=m
  .subst o;rw [hk] at f;cases f;refine ⟨d,hd,?_,λe r=>b _ (hp e r)⟩;rw [ni a,du rfl]
  .obtain ⟨y,v,s,u⟩:=h.path i k (by omega) f;refine ⟨y,v,?_,λe r=>b _ (u e r)⟩;rw [ni a,dk (λe=>by rw [<-e,t] at s;simp at s;omega)];exact s
theorem abD{n:Nat}(hn:0<n):Laid K (List.replicate n 0) 0:=
 ⟨pF _,by simpa using hn,λp x hx=> .inl (by grind),
  λp q x hx _ a=>(by grind),λi k hi=>by omega⟩
theorem ajs{S:zl}(h:Laid K S m)(key:zl):Laid (K++[key]) S m:=
 ⟨by simp;have:=h.le;omega,h.lt,h.val,h.uniq,λi k hi hk=>by rw [ec (by have:=h.le;omega)] at hk;exact h.path i k hi hk⟩
theorem aoP: @xG= @gz:=rfl
theorem amD(t:Int×w8×zl)(key:zl):pb t key=fR t key:=by unfold pb fR;rw [aoP]
abbrev Tb:=Int×w8×zl
structure Key(k:zl):Prop where
 by_:By k
 short:k.length<100000
structure TI(t:Tb):Prop where
 cap0:0<=t.1
 cap1:t.1<=1048576
 df:(t.2.1.length:Int)<=t.1
 nd:t.2.1.Nodup
 keys:∀k∈t.2.1,Key k
 eight:8<=t.2.2.length
 half:2*t.2.1.length<=t.2.2.length
 small:t.2.2.length<=8+4*t.2.1.length
 laid:Laid t.2.1 t.2.2 t.2.1.length
theorem TI.n{t:Tb}(h:TI t):t.2.1.length<=1048576:=by have:=h.df;have:=h.cap1;omega
theorem Sx(most:Int):oT most=if most<0\/1048576<most then some ((0,[],[]),1) else some ((most,[],List.replicate 8 0),0):=by
 unfold oT;simp only [aK];by_cases h:most<0\/1048576<most
 .grind
 .rw [dk h,show (decide (most<0)||decide (1048576<most))=false by simp;omega];rfl
theorem Ug{most:Int}(a:0<=most)(b:most<=1048576):TI (most,[],List.replicate 8 0):=
 ⟨a,b,a,qZ,λk hk=>by simp at hk,by simp,by simp,by simp,abD (by omega)⟩
theorem mR{t:Tb}(h:TI t){key:zl}(hk:Key key):(∀i:Nat,t.2.1[i]? =some key->dP t key=some ((i:Int),true))/\(key∉t.2.1->dP t key=some (0,false)):=by
 have hn:=h.n;have m:=h.small;obtain ⟨d,p,l,o,c⟩:=MH h.laid (λk hk=>(h.keys k hk).by_) hk.by_ (by have:=hk.short;omega) (by omega) (by omega);have b:∀x,t.2.2[(home key t.2.2.length+d)%t.2.2.length]? =some x->dP t key=some (max (i64.wrap (x-1)) 0,decide (0<x)):=by intro x hx;unfold dP yb;rw [show ((t.2.2.length:Int)==0)=false from beq_eq_false_iff_ne.2 (by omega),b7,show fR t key=_ from l,ah,fu hx,ah,ah]
 refine ⟨λi hi=>?_,λe=>?_⟩
 .rcases c with ⟨_,a⟩|⟨j,f,a,g⟩
  .grind
  .have  :=by exact aaX h.nd hi a
   rw [b _ g,bB (by omega),cb (by omega)];congr 2;omega
 .rcases c with ⟨a,_⟩|⟨j,f,a,_⟩
  .rw [b _ a];rfl
  grind
theorem Xc{l:zl}(h:l.length<1000000000):bz l=some l:=by grind [bz,aO,eC]
theorem OX(l:List α):aV l 0 (l.length:Int)=l:=by unfold aV;simp
theorem JV(l:List α):(kR 0 (l.length:Int) (l.length:Int) l.length&&((l.length:Int)==(l.length:Int)))=true:=by simp [kR]
theorem aqf(nd:K.Nodup)(j:∀k∈K,Key k)(hn:K.length<=1048577){n:Nat}(v:K.length<n)(u:n<100000000)(cap:Int)(t:zl):∃S,sq (n:Int) cap K t=some (K,S)/\S.length=n/\Laid K S K.length:=by
 have key:∀(d i:Nat) (S:zl) (M:Nat),i+d=K.length->d<M->S.length=n->Laid K S i->∃f,aj (nQ cap K) M (K,S,(i))=some (K,f)/\f.length=n/\Laid K f K.length:=by
  intro d
  induction d with
  |zero=>
   intro i S M hi q hS g;obtain ⟨m,rfl⟩:∃m,M=m+1:=⟨M-1,by omega⟩;simp_all [ao,nQ,o5]
  |succ d ih=>
   intro i S M hi q hS g;obtain ⟨m,rfl⟩:∃m,M=m+1:=⟨M-1,by omega⟩;rw [ao];have b:i<K.length:=by omega
   have c:=b9 b;have a:=j _ (c9 b);obtain ⟨e,s,r,e3,e4⟩:=MH g (λk hk=>(j k hk).by_) a.by_ (by have:=a.short;omega) (by omega) (by omega);have h:S[(home K[i] S.length+e)%S.length]? =some 0:=by grind [List.getElem?_eq_getElem,aal,Option.some.inj]
   obtain ⟨f,p,o,l⟩:=ih (i+1) (S.set ((home K[i] S.length+e)%S.length) ((i)+1)) m (by omega) (by omega) (by simpa using hS) (abK g c (by omega) s h e3);refine ⟨f,?_,o,l⟩;unfold nQ;dsimp only;rw [kY b,ca,fu c,ah,amD,r,ah,fu h,ah,gx,nx (by omega)];exact p
 unfold sq;rw [aO (cb (by omega)),aO (eC (by omega) (by omega)),gx];have:=key K.length 0 (List.replicate n 0) an (by omega) (by show _<2^64;omega) (by simp) (abD (by omega));grind
theorem XJ{t:Tb}(h:TI t){key:zl}(hk:Key key){i:Nat}(hi:t.2.1[i]? =some key):cm t key=some (t,(i:Int),false,0):=by unfold cm;rw [(mR h hk).1 i hi,ah];rfl
theorem adF{t:Tb}(h:TI t){key:zl}(hk:Key key)(hn:key∉t.2.1)(a:t.1<=t.2.1.length):cm t key=some (t,0,false,7):=by simp_all [cm,mR,b7]
theorem KE{t:Tb}(h:TI t){key:zl}(hk:Key key)(hn:key∉t.2.1)(u:(t.2.1.length:Int)<t.1):
  ∃t',cm t key=some (t',(t.2.1.length:Int),true,0)/\t'.1=t.1/\t'.2.1=t.2.1++[key]/\TI t':=by
 have hN:=h.n;have q:=h.small;have v:=h.eight;have r:=h.half;have c:(t.2.1++[key]).Nodup:=List.nodup_append.2 ⟨h.nd,by simp,λa ha b hb=>by grind⟩;have e:∀k∈t.2.1++[key],Key k:=λk f=>by
  rcases List.mem_append.1 f with i|i
  .exact h.keys k i
  grind
 unfold cm;rw [(mR h hk).2 hn,ah,b7,cy (by omega),b7,aO (JV _),L7 key (by have:=hk.short;omega),ah,OX,aO (eC (by simp;omega) (by simp;omega))];simp only [aK];rw [nx (by omega),bB (by omega)];by_cases s:t.2.2.length<2*(t.2.1.length+1)
 .rw [cb (by omega),ca,bB (by omega)];obtain ⟨S,m,w,l⟩:=aqf c e (by simp;omega) (n:=2*t.2.2.length) (by simp;omega) (by omega) t.1 t.2.2;rw [show (2*max (t.2.2.length:Int) 8)=((2*t.2.2.length:Nat)) by omega,m,ah];exact ⟨_,rfl,rfl,rfl,h.cap0,h.cap1,by simp;omega,c,e,by grind,by grind,by grind,l⟩
 .rw [cy (by omega),b7,Xc (by omega),ah];obtain ⟨d,p,o,e3,e4⟩:=MH h.laid (λk hk=>(h.keys k hk).by_) hk.by_ (by have:=hk.short;omega) (by omega) (by omega);have g:t.2.2[(home key t.2.2.length+d)%t.2.2.length]? =some 0:=by grind
  rw [show fR t key=_ from o,ah,fu g,ah,gx];have j:=abK (ajs h.laid key) (by simp) (by omega) p g e3;exact ⟨_,rfl,rfl,rfl,h.cap0,h.cap1,by simp;omega,c,e,by simpa using h.eight,by simp;omega,by simp;omega,by simpa using j⟩
end So
namespace So
def fl(a b:Bool):Int:=a.toNat+2*b.toNat
abbrev Gf:=Bool->zl->Bool
def mM(g:Gf)(b:Bool)(v:zl):Gf:=λb' v'=>g b' v'||(b'==b&&v'==v)
structure Flags(V:w8)(g:Gf)(F:zl):Prop where
 len:F.length=V.length
 at_:∀(i:Nat) v,V[i]? =some v->F[i]? =some (fl (g false v) (g true v))
 out:∀b v,v∉V->g b v=false
theorem Flags.nil:Flags [] (λ_ _=>false) []:=⟨rfl,λi v h=>by simp at h,λ_ _ _=>rfl⟩
theorem Flags.add{V:w8}{g:Gf}{F:zl}(h:Flags V g F){v:zl}(c:v∉V):Flags (V++[v]) g (F++[0]):=by
 refine ⟨by simp [h.len],λi u a=>?_,λb u a=>h.out b u (λhm=>a (qA _ hm))⟩;rw [tt] at a ⊢;rw [h.len];split at a
 next hi=>rw [du hi];exact h.at_ i u a
 .rename_i hi;rw [dk hi];have d:i-V.length=0:=by grind
  rw [d] at a ⊢;simp at a;subst a;rw [h.out false v c,h.out true v c];rfl
theorem Flags.set{V:w8}{g:Gf}{F:zl}(h:Flags V g F)(nd:V.Nodup){v:zl}{i:Nat}(hi:V[i]? =some v)(b:Bool):
  Flags V (mM g b v) (F.set i (fl (g false v|| !b) (g true v||b))):=by
 have c:i<V.length:=by grind
 refine ⟨by simp [h.len],λj u a=>?_,λf u a=>?_⟩
 .rw [ni (by rw [h.len];exact c)];by_cases e:i=j
  .grind [mM]
  .rw [dk e,h.at_ j u a];have d:u≠v:=by grind [Nat.lt_or_ge,List.getElem?_eq_none,List.getElem?_eq_getElem,aal,Option.some.inj,trans]
   grind [mM,beq_eq_false_iff_ne]
 .unfold mM;rw [h.out f u a,beq_eq_false_iff_ne.2 (λe=>a (e▸fm hi):u≠v)];simp
theorem acm(a b:Bool):vu .u8 (fl a b) 1=fl (a|| !false) (b||false)/\vu .u8 (fl a b) 2=fl (a|| !true) (b||true)/\vu .u8 (fl a b) (lN .u8 1 0)=fl (a|| !false) (b||false)/\vu .u8 (fl a b) (lN .u8 1 1)=fl (a|| !true) (b||true):=by cases a <;> cases b <;> decide
theorem abq(a b:Bool):(rB .u8 (fl a b) 1 != 0)=a/\(rB .u8 (fl a b) 2 != 0)=b/\(rB .u8 (iO .u8 (fl a b) 0) 1==1)=a/\(rB .u8 (iO .u8 (fl a b) 1) 1==1)=b/\(rB .u8 (fl a b) (lN .u8 1 0) != 0)=a/\(rB .u8 (fl a b) (lN .u8 1 1) != 0)=b:=by cases a <;> cases b <;> decide
theorem uZ{l:zl}(h:l.length<1000000000):cz l=some l:=by grind [cz,aO,eC]
def yC(cap:Int)(V:w8)(v:zl):w8×Bool×Int:=if v∈V then (V,false,0) else if cap<=V.length then (V,false,7) else (V++[v],true,0)
def gP(V:w8)(v:zl)(flag:Int):Int:=if flag<0\/1<flag then 1 else if v∈V then 0 else 10
def W6(V:w8)(g:Gf)(v:zl)(flag:Int):Gf:=if gP V v flag=0 then mM g (flag==1) v else g
def W0(V:w8)(g:Gf)(v:zl)(flag:Int):Bool:=if gP V v flag=0 then g (flag==1) v else false
theorem rv{l:List α}{x:α}(h:x∈l):∃i:Nat,i<l.length/\l[i]? =some x:=by obtain ⟨i,hi,e⟩:=qR h;exact ⟨i,hi,by grind⟩
abbrev Fl:=Tb×zl
structure Hc(s:List Fd)(t:Fl)(V:w8)(g:Gf):Prop where
 tab:TI t.1
 keys:t.1.2.1=V.map (enc s)
 ins:∀v∈V,In s v
 flags:Flags V g t.2
theorem Br{s:List Fd}(a:jA s){v:zl}(b:In s v):Key (enc s v):=
 ⟨SW s v,by rw [AZ b.len];have:=AP a;have:=a.df;unfold iz;omega⟩
theorem DV{s:List Fd}{V:w8}(c:∀v∈V,In s v){v:zl}(b:In s v):enc s v∈V.map (enc s)↔v∈V:=by rw [List.mem_map];exact ⟨λ⟨u,a,e⟩=>aei (c u a) b e▸a,λh=>⟨v,h,rfl⟩⟩
theorem Hc.nd{s:List Fd}{t:Fl}{V:w8}{g:Gf}(h:Hc s t V g):V.Nodup:=by have:=h.tab.nd;rw [h.keys] at this;exact (List.pairwise_map.1 this).imp λ{a b} h e=>h (congrArg (enc s) e)
theorem Hc.len{s:List Fd}{t:Fl}{V:w8}{g:Gf}(h:Hc s t V g):t.1.2.1.length=V.length:=by rw [h.keys];simp
theorem Hc.at_{s:List Fd}{t:Fl}{V:w8}{g:Gf}(h:Hc s t V g){v:zl}{i:Nat}(hi:V[i]? =some v):t.1.2.1[i]? =some (enc s v):=by rw [h.keys,qt,hi];rfl
theorem SG(most:Int):Lf most=if most<0\/1048576<most then some (((0,[],[]),[]),1) else some (((most,[],List.replicate 8 0),[]),0):=by unfold Lf;rw [Sx];grind
theorem af9(s:List Fd){most:Int}(c:0<=most)(b:most<=1048576):Hc s ((most,[],List.replicate 8 0),[]) [] (λ_ _=>false):=
 ⟨Ug c b,rfl,λv a=>by simp at a,Flags.nil⟩
theorem afK{s:List Fd}(d:jA s){t:Fl}{V:w8}{g:Gf}(h:Hc s t V g){v:zl}(c:In s v):
  ∃t',BD t (enc s v)=some (t',(yC t.1.1 V v).2)/\Hc s t' (yC t.1.1 V v).1 g/\t'.1.1=t.1.1:=by
 have hk:=Br d c;have hN:=h.tab.n;unfold BD yC;by_cases hm:v∈V
 .obtain ⟨i,hi,e⟩:=rv hm;rw [XJ h.tab hk (h.at_ e),ah,du hm];grind
 .have hn:enc s v∉t.1.2.1:=by rw [h.keys,DV h.ins c];exact hm
  rw [dk hm];by_cases b:t.1.1<=(V.length)
  .rw [du b,adF h.tab hk hn (by rw [h.len];exact b),ah];grind
  .obtain ⟨t',l,k,e3,e4⟩:=KE h.tab hk hn (by rw [h.len];omega);rw [dk b,l,ah];have f:=h.flags.len;have j:=h.len;refine ⟨(t',t.2++[0]),?_,⟨e4,by rw [e3,h.keys];simp,λu a=>?_,h.flags.add hm⟩,k⟩
   .grind [aO,JV,OX,eC]
   .rcases List.mem_append.1 a with a|a
    .exact h.ins u a
    grind
theorem aay{s:List Fd}(b:jA s){t:Fl}{V:w8}{g:Gf}(h:Hc s t V g){v:zl}(a:In s v):
  (∃i:Nat,i<V.length/\V[i]? =some v/\v∈V/\dP t.1 (enc s v)=some ((i:Int),true))\/(v∉V/\dP t.1 (enc s v)=some (0,false)):=by
 have hk:=Br b a;by_cases hm:v∈V
 .obtain ⟨i,hi,e⟩:=rv hm;exact .inl ⟨i,hi,e,hm,(mR h.tab hk).1 i (h.at_ e)⟩
 .exact .inr ⟨hm,(mR h.tab hk).2 (by rw [h.keys,DV h.ins a];exact hm)⟩
theorem ajt(a:Int):FJ a=some (if a=0 then 1 else if a=1 then 2 else 0):=by unfold FJ;grind
theorem AY(a:Int):(a<0\/1<a)\/a=0\/a=1:=by omega
theorem agZ{s:List Fd}(c:jA s){t:Fl}{V:w8}{g:Gf}(h:Hc s t V g){v:zl}(b:In s v)(a:Int):
  ∃t',J4 t (enc s v) a=some (t',gP V v a)/\Hc s t' V (W6 V g v a)/\t'.1.1=t.1.1:=by
 have hN:=h.tab.n;have hl:=h.len;have d:=h.flags.len;unfold J4 JS W6 gP;rw [ajt,ah];rcases AY a with hb|hb
 .grind
 .rw [dk (show ¬(a<0\/1<a) by omega)];rcases aay c h b with ⟨i,hi,e,hm,ef⟩|⟨hm,ef⟩
  .rw [ef,ah,du hm,du rfl];have f:=h.flags.at_ i v e;simp only [HC];rw [uZ (by omega),ah,fu f,ah,ah,ah,gx];refine ⟨(t.1,t.2.set i (fl (g false v|| !(a==1)) (g true v||(a==1)))),?_,⟨h.tab,h.keys,h.ins,h.flags.set h.nd e _⟩,rfl⟩;have j:=acm (g false v) (g true v);grind
  grind
theorem afI{s:List Fd}(d:jA s){t:Fl}{V:w8}{g:Gf}(h:Hc s t V g){v:zl}(c:In s v)(a:Int):
  Kr t (enc s v) a=some (W0 V g v a,gP V v a):=by
 unfold Kr WK W0 gP;rw [ajt,ah];rcases AY a with hb|hb
 .grind
 .rw [dk (show ¬(a<0\/1<a) by omega)];have b:((if a=0 then 1 else if a=1 then 2 else 0:Int)==0)=false:=by grind
  rw [b,b7];rcases aay d h c with ⟨i,hi,e,hm,ef⟩|⟨hm,ef⟩
  .rw [ef,ah,du hm,du rfl];simp [py,b7,Hn];rw [fu (h.flags.at_ i v e),ah,ah,ah];have f:=abq (g false v) (g true v);grind
  grind
end So
namespace So
abbrev BU(n:Int):Prop:=0<=n/\n<4294967296
def CH(a:Int)(k:Nat):Int:=u8.wrap (iO .u32 a (k:Int))
def vR(a b:Int):zl:=[CH a 0,CH a 8,CH a 16,CH a 24,CH b 0,CH b 8,CH b 16,CH b 24]
theorem II(a:Int):CH a 0=a%256/\CH a 8=a/256%256/\CH a 16=a/65536%256/\CH a 24=a/16777216%256:=by
 refine ⟨?_,?_,?_,?_⟩
 .show u8.wrap (a/1)=_;rw [IntKind.wrap_u8];omega
 .show u8.wrap (a/256)=_;rw [IntKind.wrap_u8]
 .show u8.wrap (a/65536)=_;rw [IntKind.wrap_u8]
 .show u8.wrap (a/16777216)=_;rw [IntKind.wrap_u8]
theorem ZU{a b c d:Int}(ha:BU a)(hb:BU b)(e:BU c)(hd:BU d)(h:vR a b=vR c d):a=c/\b=d:=by obtain ⟨a0,p,o,n⟩:=II a;obtain ⟨m,l,k,j⟩:=II b;obtain ⟨c0,c1,i,g⟩:=II c;obtain ⟨d0,d1,d2,f⟩:=II d;simp [vR,qa] at h;omega
theorem Fb(a b:Int):Key (vR a b):=by refine ⟨λx hx=>?_,by simp [vR]⟩;simp [vR,qe,qF] at hx;obtain ⟨a0,i,h,g⟩:=II a;obtain ⟨f,e,d,c⟩:=II b;grind
theorem aib(a b:Int):(Kv a b).bind uT=some (vR a b):=by rfl
theorem aaH(p:Tb)(a b:Int):C5 p a b=dP p (vR a b):=by have h:=aib a b;unfold C5;obtain ⟨q,d,c⟩:=iJ h;rw [d,ah,c,ah];cases dP p (vR a b) <;> rfl
theorem aoM(p:Tb)(a b:Int):yK p a b=cm p (vR a b):=by have h:=aib a b;unfold yK;obtain ⟨q,d,c⟩:=iJ h;rw [d,ah,c,ah];cases cm p (vR a b) <;> rfl
abbrev alB:(Int->zd)->Int->zd:=λk s=>sV k s
theorem Oa:∀(M n:Nat),n<=M->n<1000000->aj alB (M+1) (n:Int)=some ((n-1:Nat):Int)
 |M,n,h,hn=>by
  have E:aj alB (M+1) (n)=sV (aj alB M) (n):=ao;rw [E];by_cases a:n<2
  .unfold sV;grind
  .obtain ⟨M,rfl⟩:∃m,M=m+1:=⟨M-1,by omega⟩;have c:=Oa M ((n+1)/2) (by omega) (by omega);have b:=Oa M (n-(n+1)/2) (by omega) (by omega);unfold sV;grind [ah,bB]
theorem Wi(n:Nat)(hn:n<1000000):xM (n:Int)=some ((n-1:Nat):Int):=by unfold xM;obtain ⟨m,hm⟩:∃m,an=(m+1000000)+1:=⟨2^64-1000001,rfl⟩;grind [Oa]
def Code(P:List Tb):Nat->Nat->zl->Int->Prop
 |0,_,_,_=>False
 |d+1,row,l,c=>(l.length=1/\l[0]? =some c)\/(2<=l.length/\∃a b t,Code P d (row+1) (l.take ((l.length+1)/2)) a/\Code P d (row+1+((l.length+1)/2-1)) (l.drop ((l.length+1)/2)) b/\
   BU a/\BU b/\P[row]? =some t/\∃i:Nat,c=(i:Int)/\t.2.1[i]? =some (vR a b))
abbrev Nd(P:List Tb):Prop:= ∀(r:Nat) (t:Tb),P[r]? =some t->t.2.1.Nodup
theorem Code.fn{P:List Tb}(nd:Nd P):∀{d row:Nat} {l:zl} {c j:Int},Code P d row l c->Code P d row l j->c=j
 |0,_,_,_,_,h,_=>h.elim
 |d+1,row,l,c,j,h,h'=>by
  rcases h with ⟨o,q⟩|⟨o,a,b,t,ha,hb,_,_,ht,i,rfl,hi⟩ <;> rcases h' with ⟨g,n⟩|⟨g,v,u,t',f,e,_,_,k,p,rfl,m⟩
  .grind
  .omega
  .omega
  .have s:=Code.fn nd ha f;have r:=Code.fn nd hb e;grind [aaX]
theorem Code.inj{P:List Tb}:∀{d row:Nat} {l l':zl} {c:Int},l.length=l'.length->Code P d row l c->Code P d row l' c->l=l'
 |0,_,_,_,_,_,h,_=>h.elim
 |d+1,row,l,l',c,hl,h,h'=>by
  rcases h with ⟨v,y⟩|⟨v,a,b,t,ha,hb,r,q,ht,i,rfl,hi⟩ <;> rcases h' with ⟨p,u⟩|⟨p,A,z,t',m,k,o,n,f,s,e,g⟩
  .refine mm λj=>?_;grind
  .omega
  .omega
  .have:i=s:=by omega
   subst this;rw [ht] at f;cases f;rw [hi] at g;obtain ⟨x,w⟩:=ZU r q o n (gj g);subst x;subst w;rw [<-hl] at m k;have e3:=Code.inj (by simp [hl]) ha m;have e4:=Code.inj (by simp [hl]) hb k;grind [List.take_append_drop]
def Ext(P P':List Tb):Prop:= ∀(r:Nat) (t:Tb),P[r]? =some t->∃t',P'[r]? =some t'/\t.2.1 <+: t'.2.1
theorem Ext.refl(P:List Tb):Ext P P:=λa t h=>⟨t,h,tw _⟩
theorem Ext.trans{P Q R:List Tb}(h:Ext P Q)(b:Ext Q R):Ext P R:=λr t ht=>by obtain ⟨t1,a,e⟩:=h r t ht;obtain ⟨t2,d,c⟩:=b r t1 a;grind
theorem acU{l l':List α}(h:l <+: l'){i:Nat}{x:α}(hi:l[i]? =some x):l'[i]? =some x:=by obtain ⟨r,rfl⟩:=h;grind
theorem Code.ext{P g:List Tb}(f:Ext P g):∀{d row:Nat} {l:zl} {c:Int},Code P d row l c->Code g d row l c
 |0,_,_,_,h=>h.elim
 |d+1,row,l,c,h=>by
  rcases h with h|⟨o,a,b,t,ha,hb,k,j,ht,i,e,hi⟩
  .exact .inl h
  .obtain ⟨t',n,m⟩:=f row t ht;exact .inr ⟨o,a,b,t',ha.ext f,hb.ext f,k,j,n,i,e,acU m hi⟩
structure Bg(P:List Tb)(cap:Int):Prop where
 ti:∀(r:Nat) (t:Tb),P[r]? =some t->TI t
 cap:∀(r:Nat) (t:Tb),P[r]? =some t->t.1=cap
theorem Bg.nd{P:List Tb}{cap:Int}(h:Bg P cap):Nd P:=λr t ht=>(h.ti r t ht).nd
theorem ajF{n:Nat}(h:2<=n)(hn:n<1000):i64.wrap (Int.tdiv (i64.wrap ((n:Int)+1)) 2)=(((n+1)/2:Nat):Int):=by rw [nx (by omega),show Int.tdiv ((n+1:Nat)) 2=(((n+1)/2:Nat)) from rfl,bB (by omega)]
theorem JL{i j n:Nat}(h:i<=j)(a:j<=n):db (i:Int) (j:Int) n=true:=by grind [db]
theorem ake{j n:Nat}(h:j<=n):db 0 (j:Int) n=true:=by grind [db]
theorem abi(l:List α)(k:Nat):aV l 0 (k:Int)=l.take k:=by unfold aV;simp
theorem ZF(l:List α)(k:Nat):aV l (k:Int) (l.length:Int)=l.drop k:=by grind [aV,Int.toNat_natCast,List.take_of_length_le]
abbrev U0:((Int×zl×List Tb)->Option xc)->(Int×zl×List Tb)->Option xc:=λk s=>mV k s.1 s.2.1 s.2.2
theorem XW{P:List Tb}{cap:Int}(r:Bg P cap):∀(d M row:Nat) (l:zl),1<=l.length->l.length<=d->l.length<1000->row+l.length<=1000000->d<=M->row+(l.length-1)<=P.length->(∀x∈l,BU x)->
  (∃c,BU c/\Code P d row l c/\aj U0 M ((row:Int),l,P)=some (.ok c))\/
  ((∀c,¬Code P d row l c)/\∃e,aj U0 M ((row:Int),l,P)=some (.error e))
 |0,_,_,_,h1,h2,_,_,_,_,_=>by omega
 |d+1,M,row,l,h1,h2,hn,hr,hM,hlen,hu=>by
  obtain ⟨M,rfl⟩:∃m,M=m+1:=⟨M-1,by omega⟩;have E:aj U0 (M+1) ((row:Int),l,P)=mV (aj U0 M) (row:Int) l P:=ao;rw [E];have w:=λrow l=>XW r d M row l;generalize aj U0 M=k at w ⊢;clear E;unfold mV;by_cases h:l.length=1
  .have y:l[0]? =some (l[0]'(by omega)):=b9 _;refine .inl ⟨l[0]'(by omega),hu _ (c9 _),.inl ⟨h,y⟩,?_⟩;rw [show ((l.length:Int)==1)=true by simp;omega,ca,JZ y,ah]
  .rw [show ((l.length:Int)==1)=false by simp;omega,b7,ajF (by omega) hn,aO (ake (by omega)),abi,nx (by omega)];have I:(l.take ((l.length+1)/2)).length=(l.length+1)/2:=by simp;omega
   have G:(l.drop ((l.length+1)/2)).length=l.length-(l.length+1)/2:=by simp
   rcases w (row+1) (l.take ((l.length+1)/2)) (by omega) (by omega) (by omega) (by omega) (by omega) (by omega) (λx hx=>hu x (qX hx)) with ⟨a,F,ha,v⟩|⟨ha,e,v⟩
   .rw [v];simp only [C0,ah];rw [aO (JL (by omega) (cK _)),ZF,Wi _ (by omega),ah,bB (by omega)];rw [show ((row+1:Nat):Int)+(((l.length+1)/2-1:Nat))=((row+1+((l.length+1)/2-1):Nat)) by omega];rcases w (row+1+((l.length+1)/2-1)) (l.drop ((l.length+1)/2)) (by omega) (by omega) (by omega) (by omega) (by omega) (by omega) (λx hx=>hu x (qY hx)) with ⟨b,D,hb,u⟩|⟨hb,e,u⟩
    .rw [u];simp;have p:row<P.length:=by omega
     have f  :=b9 p;have t:=r.ti row _ f;unfold rq;rw [fu f,ah,aaH];by_cases hm:vR a b∈P[row].2.1
     .obtain ⟨i,hi,A⟩:=rv hm;have:=t.n;refine .inl ⟨(i),⟨by omega,by omega⟩,.inr ⟨by omega,a,b,P[row],ha,hb,F,D,f,i,rfl,A⟩,?_⟩;rw [(mR t (Fb a b)).1 i A,ah,py,b7,ah,afN (by omega)]
     .refine .inr ⟨λc q=>?_,⟨(row),?_⟩⟩
      .rcases q with ⟨z,_⟩|⟨_,C,B,t',j,g,_,_,o,H,_,s⟩
       .omega
       .rw [f] at o;cases o;rw [ha.fn r.nd j,hb.fn r.nd g] at hm;exact hm (fm s)
      .rw [(mR t (Fb a b)).2 hm,ah];rfl
    .rw [u];refine .inr ⟨λc q=>?_,⟨e,rfl⟩⟩;rcases q with ⟨z,_⟩|⟨_,_,B,_,_,g,_⟩
     .omega
     .exact hb B g
   .rw [v];refine .inr ⟨λc q=>?_,⟨e,rfl⟩⟩;rcases q with ⟨z,_⟩|⟨_,C,_,_,j,_⟩
    .omega
    .exact ha C j
end So
namespace So
theorem aeM{t:Tb}(h:TI t){k:zl}(hk:Key k)(a:k∈t.2.1\/(t.2.1.length:Int)<t.1):
  ∃t' f e,∃i:Nat,cm t k=some (t',(i:Int),f,e)/\TI t'/\t'.1=t.1/\t.2.1 <+: t'.2.1/\t'.2.1[i]? =some k/\t'.2.1.length<=t.2.1.length+1:=by
 by_cases hm:k∈t.2.1
 .obtain ⟨i,hi,e⟩:=rv hm;exact ⟨t,_,_,i,XJ h hk e,h,rfl,tw _,e,by omega⟩
 grind [KE]
abbrev Y8:((Int×zl×List Tb)->Option (Int×List Tb))->(Int×zl×List Tb)->Option (Int×List Tb):=λk s=>kf k s.1 s.2.1 s.2.2
structure Grown(P P':List Tb)(cap:Int)(lo hi:Nat):Prop where
 tabs:Bg P' cap
 ext:Ext P P'
 len:P'.length=P.length
 out:∀r,(r<lo\/hi<=r)->P'[r]? =P[r]?
 one:∀(r:Nat) (t t':Tb),P[r]? =some t->P'[r]? =some t'->t'.2.1.length<=t.2.1.length+1
theorem aer{P:List Tb}{cap:Int}(h:Bg P cap){row:Nat}{t:Tb}(ht:P[row]? =some t){a b:Int}(j:(t.2.1.length:Int)<cap):
  ∃c P',∃i:Nat,ng (row:Int) a b P=some (c,P')/\c=(i:Int)/\BU c/\Grown P P' cap row (row+1)/\∃t',P'[row]? =some t'/\t'.2.1[i]? =some (vR a b):=by
 have o:=h.ti row t ht;have g:=pS ht;obtain ⟨t',f,e,i,v,l,p,s,k,q⟩:=aeM o (Fb a b) (.inr (by rw [h.cap row t ht];exact j));have hi:=pS k;have hn:=l.n;refine ⟨(i),P.set row t',i,?_,rfl,⟨by omega,by omega⟩,⟨⟨λr u d=>?_,λr u d=>?_⟩,λr u d=>?_,by simp,λr j=>?_,λr u u' d m=>?_⟩,t',by grind,k⟩
 .grind [ng,fu,ah,aoM,Int.toNat_natCast,afN]
 .rw [ni g] at d;split at d
  .cases d;exact l
  .exact h.ti r u d
 .rw [ni g] at d;split at d
  .cases d;rw [p];exact h.cap row t ht
  .exact h.cap r u d
 .grind
 .grind
 grind
theorem abb{cap:Int}:∀(d M row:Nat) (l:zl) (P:List Tb),Bg P cap->1<=l.length->l.length<=d->l.length<1000->row+l.length<=1000000->d<=M->row+(l.length-1)<=P.length->(∀x∈l,BU x)->
  (∀(r:Nat) (t:Tb),row<=r->r<row+(l.length-1)->P[r]? =some t->(t.2.1.length:Int)<cap)->
  ∃c P',aj Y8 M ((row:Int),l,P)=some (c,P')/\BU c/\Code P' d row l c/\Grown P P' cap row (row+(l.length-1))
 |0,_,_,_,_,_,h1,h2,_,_,_,_,_,_=>by omega
 |d+1,M,row,l,P,hP,h1,h2,hn,F,hM,hlen,hu,hroom=>by
  obtain ⟨M,rfl⟩:∃m,M=m+1:=⟨M-1,by omega⟩;have E:aj Y8 (M+1) ((row:Int),l,P)=kf (aj Y8 M) (row:Int) l P:=ao;rw [E];have y:=λrow l P=>abb (cap:=cap) d M row l P;generalize aj Y8 M=k at y ⊢;clear E;unfold kf;by_cases h:l.length=1
  .have A:l[0]? =some (l[0]'(by omega)):=b9 _;refine ⟨l[0]'(by omega),P,?_,hu _ (c9 _),.inl ⟨h,A⟩,⟨hP,Ext.refl P,rfl,λ_ _=>rfl,λr t t' e e'=>by rw [e] at e';cases e';omega⟩⟩;rw [show ((l.length:Int)==1)=true by simp;omega,ca,JZ A,ah]
  .rw [show ((l.length:Int)==1)=false by simp;omega,b7,ajF (by omega) hn,aO (ake (by omega)),abi,nx (by omega)];have S:(l.take ((l.length+1)/2)).length=(l.length+1)/2:=by simp;omega
   have G:(l.drop ((l.length+1)/2)).length=l.length-(l.length+1)/2:=by simp
   obtain ⟨a,R,K,D,N,n⟩:=y (row+1) (l.take ((l.length+1)/2)) P hP (by omega) (by omega) (by omega) (by omega) (by omega) (by omega) (λx hx=>hu x (qX hx)) (λr t u s=>hroom r t (by omega) (by omega));rw [K,ah,aO (JL (by omega) (cK _)),ZF,Wi _ (by omega),ah,bB (by omega)];rw [show ((row+1:Nat):Int)+(((l.length+1)/2-1:Nat))=((row+1+((l.length+1)/2-1):Nat)) by omega];have w:=n.len;obtain ⟨b,Q,J,C,L,j⟩:=y (row+1+((l.length+1)/2-1)) (l.drop ((l.length+1)/2)) R n.tabs (by omega) (by omega) (by omega) (by omega) (by omega) (by omega) (λx hx=>hu x (qY hx))
    (λr t u s ht=>hroom r t (by omega) (by omega) (by rw [<-n.out r (by omega)];exact ht))
   rw [J,ah];have v:=j.len;have o:P[row]? =some (P[row]'(by omega)):=b9 _;have p:Q[row]? =some (P[row]'(by omega)):=by rw [j.out row (by omega),n.out row (by omega)];exact o
   obtain ⟨c,O,i,e3,I,B,g,t',q,hk⟩:=aer j.tabs p (hroom row _ (cK _) (by omega) o);rw [e3,ah];refine ⟨c,O,rfl,B,.inr ⟨by omega,a,b,t',(N.ext j.ext).ext g.ext,L.ext g.ext,D,C,q,i,I,hk⟩,⟨g.tabs,(n.ext.trans j.ext).trans g.ext,by rw [g.len,v,w],λr F=>?_,λr t z ht f=>?_⟩⟩
   .rw [g.out r (by omega),j.out r (by omega),n.out r (by omega)]
   .by_cases H:r=row
    .subst H;rw [o] at ht;cases ht;exact g.one r _ _ p f
    .rw [g.out r (by omega)] at f;by_cases e':row+1+((l.length+1)/2-1)<=r
     .rw [<-n.out r (by omega)] at ht;exact j.one r t z ht f
     .rw [j.out r (by omega)] at f;exact n.one r t z ht f
def wB(P:List Tb)(l:zl)(c:Int):Prop:=(l.length=1/\∃x t,∃i:Nat,l[0]? =some x/\P[0]? =some t/\c=(i:Int)/\t.2.1[i]? =some (vR x 0))\/(2<=l.length/\Code P l.length 0 l c)
theorem wB.top{P:List Tb}{l:zl}{c:Int}(h:wB P l c):∃t,∃i:Nat,P[0]? =some t/\c=(i:Int)/\i<t.2.1.length:=by
 rcases h with ⟨_,x,t,i,_,ht,e,hi⟩|⟨f,h⟩
 .grind
 .obtain ⟨d,hd⟩:∃d,l.length=d+1:=⟨l.length-1,by omega⟩;rw [hd] at h;rcases h with ⟨g,_⟩|⟨_,a,b,t,_,_,_,_,ht,i,e,hi⟩
  .omega
  grind
theorem wB.inj{P:List Tb}{l l':zl}{c:Int}(hl:l.length=l'.length)(o:∀x∈l,BU x)(f:∀x∈l',BU x)(h:wB P l c)(u:wB P l' c):l=l':=by
 rcases h with ⟨s,x,t,i,g,r,v,p⟩|⟨s,g⟩ <;> rcases u with ⟨k,m,t',n,a,d,q,b⟩|⟨k,a⟩
 .have:i=n:=by omega
  subst this;rw [r] at d;cases d;rw [p] at b;have e:=(ZU (o x (fm g)) (by decide) (f m (fm a)) (by decide) (gj b)).1;refine mm λj=>?_;grind
 .omega
 .omega
 .rw [<-hl] at a;exact g.inj hl a
theorem wB.ext{P e:List Tb}(d:Ext P e){l:zl}{c:Int}(h:wB P l c):wB e l c:=by
 rcases h with ⟨b,x,t,i,a,j,g,f⟩|⟨b,a⟩
 .obtain ⟨t',m,k⟩:=d 0 t j;exact .inl ⟨b,x,t',i,a,m,g,acU k f⟩
 .exact .inr ⟨b,a.ext d⟩
theorem agO{P:List Tb}{cap:Int}(k:Bg P cap){l:zl}(r:1<=l.length)(hn:l.length<1000)(j:max 1 (l.length-1)<=P.length)(q:∀x∈l,BU x):
  (∃c,BU c/\wB P l c/\oU l P=some (.ok c))\/((∀c,¬wB P l c)/\∃e,oU l P=some (.error e)):=by
 unfold oU;by_cases h:l.length=1
 .have m:l[0]? =some (l[0]'(by omega)):=b9 _;have a:P[0]? =some (P[0]'(by omega)):=b9 _;have f:=k.ti 0 _ a;rw [show ((l.length:Int)==1)=true by simp;omega,ca,JZ m,ah];unfold rq;rw [JZ a,ah,aaH];by_cases hm:vR (l[0]'(by omega)) 0∈(P[0]'(by omega)).2.1
  .obtain ⟨i,hi,o⟩:=rv hm;have:=f.n;refine .inl ⟨(i),⟨by omega,by omega⟩,.inl ⟨h,_,_,i,m,a,rfl,o⟩,?_⟩;rw [(mR f (Fb _ _)).1 i o,ah];rw [afN (by omega)];rfl
  .refine .inr ⟨λc b=>?_,⟨((0:Nat)),?_⟩⟩
   .rcases b with ⟨_,x,t,i,hx,ht,_,hi⟩|⟨d,_⟩
    .grind
    .omega
   .rw [(mR f (Fb _ _)).2 hm,ah];rfl
 .rw [show ((l.length:Int)==1)=false by simp;omega,b7];rcases XW k l.length an 0 l r (cK _) hn (by omega) (by show l.length<=2^64;omega) (by omega) q with ⟨c,p,b,e⟩|⟨b,e,ee⟩
  .refine .inl ⟨c,p,.inr ⟨by omega,b⟩,?_⟩;have g:u4 0 l P=some (.ok c):=e;rw [g];rfl
  .refine .inr ⟨λc d=>?_,e,?_⟩
   .rcases d with ⟨d,_⟩|⟨_,d⟩
    .omega
    .exact b c d
   .have g:u4 0 l P=some (.error e):=ee;rw [g];rfl
theorem ah3{P:List Tb}{cap:Int}(k:Bg P cap){l:zl}(q:1<=l.length)(hn:l.length<1000)(j:max 1 (l.length-1)<=P.length)(o:∀x∈l,BU x)
  (a:∀(r:Nat) (t:Tb),P[r]? =some t->(t.2.1.length:Int)<cap):
  ∃c b,oW l P=some (c,b)/\wB b l c/\∃hi,Grown P b cap 0 hi:=by
 unfold oW;by_cases h:l.length=1
 .have m:l[0]? =some (l[0]'(by omega)):=b9 _;have d:P[0]? =some (P[0]'(by omega)):=b9 _;rw [show ((l.length:Int)==1)=true by simp;omega,ca,JZ m,ah];obtain ⟨c,b,i,e,s,n,g,t',f,hk⟩:=aer k d (a 0 _ d);rw [show ((0:Nat):Int)=0 from rfl] at e;rw [e,ah];exact ⟨c,b,rfl,.inl ⟨h,_,t',i,m,f,s,hk⟩,_,g⟩
 .rw [show ((l.length:Int)==1)=false by simp;omega,b7];obtain ⟨c,b,e,n,p,g⟩:=abb l.length an 0 l P k q (cK _) hn (by omega) (by show l.length<=2^64;omega) (by omega) o (λr t _ _=>a r t);have u:vO 0 l P=some (c,b):=e;rw [u,ah];exact ⟨c,b,rfl,.inr ⟨by omega,p⟩,_,g⟩
def HV(s:List Fd)(v:zl):zl:=List.zipWith (λf n=>n-f.1) s v
theorem A3{s:List Fd}(h:v.length=s.length):(HV s v).length=s.length:=by simp [HV,h]
theorem ON{s:List Fd}(h:v.length=s.length){i:Nat}(hi:i<s.length):(HV s v)[i]? =some ((v[i]'(by omega))-s[i].1):=by grind [HV,List.getElem?_eq_getElem]
theorem Jh{s:List Fd}(b:jA s){v:zl}(a:In s v):∀x∈HV s v,BU x:=by intro x hx;obtain ⟨i,hi,e⟩:=rv hx;rw [A3 a.len] at hi;rw [ON a.len hi] at e;have d:=a.each i hi;have c:=b.each s[i] (c9 hi);grind
theorem aco{s:List Fd}{b:zl}(c:In s v)(a:In s b)(h:HV s v=HV s b):v=b:=by
 refine s7 (by rw [c.len,a.len]) λi d f=>?_;have hi:i<s.length:=by rw [<-c.len];exact d
 have e:=congrArg (λl=>l[i]?) h;simp [ON c.len hi,ON a.len hi,ej] at e;omega
theorem ae6{s:List Fd}(c:jA s){v:zl}(b:In s v):yR s v=some (HV s v):=by
 have d:=c.df;have hl:=b.len;refine wM (λi=>((HV s v).take i,(i:Int))) s.length (by simp) (by omega) (λi hi k=>?_) (λk=>?_)
 .have a:i<v.length:=by omega
  have f:=b.each i hi;have e:=c.each s[i] (c9 hi);simp [yF,fz hi,fz a,ah];grind [bB,afN,aO,eC,List.take_add_one,ON]
 simp_all [yF,fb,A3]
abbrev Tr:=List Tb×zl
structure vn(s:List Fd)(cap:Int)(t:Tr)(V:w8)(g:Gf):Prop where
 tabs:Bg t.1 cap
 len:t.1.length=max 1 (s.length-1)
 df:∀(r:Nat) (x:Tb),t.1[r]? =some x->x.2.1.length<=V.length
 top:∀(x:Tb),t.1[0]? =some x->x.2.1.length=V.length
 ins:∀v∈V,In s v
 nd:V.Nodup
 code:∀(i:Nat) v,V[i]? =some v->wB t.1 (HV s v) (i:Int)
 flags:Flags V g t.2
theorem vn.ar4{s:List Fd}{cap:Int}{t:Tr}{V:w8}{g:Gf}(h:vn s cap t V g):∃x,t.1[0]? =some x/\x.2.1.length=V.length/\TI x/\x.1=cap:=by have a:t.1[0]? =some (t.1[0]'(by rw [h.len];omega)):=b9 _;exact ⟨_,a,h.top _ a,h.tabs.ti 0 _ a,h.tabs.cap 0 _ a⟩
theorem Uz{s:List Fd}(a:jA s)(most:Int):JY s most=if most<0\/1048576<most then some (([],[]),1) else some ((List.replicate (max 1 (s.length-1)) (most,[],List.replicate 8 0),[]),0):=by
 have b:=a.df;unfold JY MF;rw [Sx];by_cases h:most<0\/1048576<most
 .grind
 .rw [dk h,dk h,ah,ah];simp only [show ((0:Int) != 0)=false from rfl,b7];rw [Wi _ (by omega),ah];refine wM (λi=>(List.replicate i (most,[],List.replicate 8 0),(i:Int))) (max 1 (s.length-1)) (by simp) (by omega) (λi hi k=>?_) (λk=>?_)
  .simp only [Hr];rw [cb (by omega),ca,aO (eC (by simp;omega) (by simp;omega)),nx (by omega)];grind [List.replicate_succ']
  .simp [Hr];grind
theorem agW(s:List Fd){most:Int}(d:0<=most)(c:most<=1048576):vn s most (List.replicate (max 1 (s.length-1)) (most,[],List.replicate 8 0),[]) [] (λ_ _=>false):=by
 have b:∀(r:Nat) (x:Tb),(List.replicate (max 1 (s.length-1)) ((most,[],List.replicate 8 0)))[r]? =some x->x=(most,[],List.replicate 8 0):=by grind
 exact ⟨⟨λr x hx=>by grind [Ug],λr x hx=>by rw [b r x hx]⟩,by simp,λr x hx=>by grind,λx hx=>by grind,λv a=>by simp at a,qZ,λi v h=>by simp at h,Flags.nil⟩
theorem ZA{s:List Fd}(a:ka s){cap:Int}{t:Tr}{V:w8}{g:Gf}(h:vn s cap t V g){v:zl}(f:In s v):
  (∃i:Nat,i<V.length/\V[i]? =some v/\v∈V/\xC t s v=some ((i:Int),true))\/(v∉V/\xC t s v=some (0,false)):=by
 have m:=a.df;have hp:=a.pos;have b:=A3 f.len;unfold xC;rw [ae6 a.fds f,ah];rcases agO h.tabs (by omega) (by omega) (by rw [h.len,b];omega) (Jh a.fds f) with ⟨c,l,j,e⟩|⟨j,e,ee⟩
 .obtain ⟨x,i,hx,rfl,hi⟩:=j.top;rw [h.top x hx] at hi;have k  :=b9 hi;have d:=h.ins _ (c9 hi);have:=(h.code i _ k).inj (by rw [A3 d.len,b]) (Jh a.fds d) (Jh a.fds f) j;grind [aco,List.mem_of_getElem?,gH,ah,bB]
 .refine .inr ⟨λhm=>?_,by rw [ee];rfl⟩;obtain ⟨i,hi,e'⟩:=rv hm;exact j _ (h.code i v e')
theorem adz{l:List Tb}(h:l.length<1000000):fe l=some l:=by grind [fe,aO,eC]
theorem agp{s:List Fd}(l:ka s){cap:Int}{t:Tr}{V:w8}{g:Gf}(h:vn s cap t V g){v:zl}(f:In s v):
  ∃t',BI t s v=some (t',(yC cap V v).2)/\vn s cap t' (yC cap V v).1 g:=by
 have R:=l.df;have hp:=l.pos;have p:=A3 f.len;obtain ⟨I,k,A,D,B⟩:=h.ar4;unfold BI yC;rw [wH s v (by have:=f.len;omega),sF.2 f,ah,show ((0:Int) != 0)=false from rfl,b7];rcases ZA l h f with ⟨i,hi,e,hm,ef⟩|⟨hm,ef⟩
 .rw [ef,ah,du hm];exact ⟨t,rfl,h⟩
 .rw [ef,ah,dk hm];rw [JZ k,ah];have N:GU t=some (V.length:Int):=by unfold GU;rw [show ((t.1.length:Int)==0)=false from beq_eq_false_iff_ne.2 (by rw [h.len];omega),b7,JZ k,ah];unfold Kc yM;rw [ah,ah,A]
  rw [N,ah,B];by_cases H:cap<=(V.length)
  .grind
  .rw [cy H,dk H,b7,adz (by rw [h.len];omega),ah,ae6 l.fds f,ah];obtain ⟨c,Q,P,m,K,o⟩:=ah3 h.tabs (by omega) (by omega) (by rw [h.len,p];omega) (Jh l.fds f) (λr x hx=>by have:=h.df r x hx;omega);have L:=h.flags.len;have M  :=by have:=D.n;omega
   rw [P,ah,aO (JV _),OX,aO (eC (by simp;omega) (by simp;omega))]
   -- the new place
   obtain ⟨J,i,z,O,G⟩:=m.top;have F:=o.one 0 I J k z;have y:V.length<=i:=by
    rcases qE i V.length with q|y
    .have C  :=b9 q;have w:=h.ins _ (c9 q);rw [O] at m;have:=((h.code i _ C).ext o.ext).inj (by rw [A3 w.len,p]) (Jh l.fds w) (Jh l.fds f) m;grind [aco,List.getElem_mem]
    .exact y
   refine ⟨(Q,t.2++[0]),rfl,⟨o.tabs,by rw [o.len,h.len],λr x hx=>?_,λx hx=>?_,λu d=>?_,?_,λj u d=>?_,h.flags.add hm⟩⟩
   .have E:r<t.1.length:=by rw [<-o.len];exact pS hx
    have:=o.one r _ x (b9 E) hx;have:=h.df r _ (b9 E);simp;omega
   .grind
   .rcases List.mem_append.1 d with d|d
    .exact h.ins u d
    grind
   .exact List.nodup_append.2 ⟨h.nd,by simp,λa ha b hb=>by grind⟩
   .rw [tt] at d;split at d
    .exact (h.code j u d).ext o.ext
    grind
theorem Xp{s:List Fd}(c:ka s){cap:Int}{t:Tr}{V:w8}{g:Gf}(h:vn s cap t V g){v:zl}(b:In s v)(a:Int):
  (gP V v a≠0/\DU t s v a=some (0,gP V v a))\/(gP V v a=0/\(a=0\/a=1)/\∃i:Nat,i<V.length/\V[i]? =some v/\DU t s v a=some ((i:Int),0)):=by
 unfold DU gP;have:=c.df;rw [wH s v (by have:=b.len;omega),sF.2 b,ah,show ((0:Int) != 0)=false from rfl,b7];simp [aK];rcases AY a with hb|hb
 .grind
 .rcases ZA c h b with ⟨i,hi,e,hm,ef⟩|⟨hm,ef⟩
  .grind
  grind
theorem ahA{s:List Fd}(k:ka s){cap:Int}{t:Tr}{V:w8}{g:Gf}(h:vn s cap t V g){v:zl}(f:In s v)(a:Int):
  ∃t',Lz t s v a=some (t',gP V v a)/\vn s cap t' V (W6 V g v a):=by
 obtain ⟨p,j,l,c,o⟩:=h.ar4;unfold Lz W6;rcases Xp k h f a with ⟨b,e⟩|⟨b,hb,i,hi,ev,e⟩
 .grind
 .have m:=h.flags.len;have:=c.n;rw [e,ah,du b,b];rw [uZ (by omega),ah,fu (h.flags.at_ i v ev),ah,aO (cb (by omega)),ah,gx];refine ⟨(t.1,t.2.set i (fl (g false v|| !(a==1)) (g true v||(a==1)))),?_,⟨h.tabs,h.len,h.df,h.top,h.ins,h.nd,h.code,h.flags.set h.nd ev _⟩⟩;have d:=acm (g false v) (g true v);rcases hb with rfl|rfl
  .rw [d.2.2.1];rfl
  .rw [d.2.2.2];rfl
theorem afX{s:List Fd}(d:ka s){cap:Int}{t:Tr}{V:w8}{g:Gf}(h:vn s cap t V g){v:zl}(c:In s v)(a:Int):
  Ku t s v a=some (W0 V g v a,gP V v a):=by
 unfold Ku W0;rcases Xp d h c a with ⟨b,e⟩|⟨b,hb,i,hi,ev,e⟩
 .grind
 .rw [e,ah,du b,b];rw [fu (h.flags.at_ i v ev),ah,aO (cb (by omega))];have f:=abq (g false v) (g true v);rcases hb with rfl|rfl
  .rw [f.2.2.2.2.1];rfl
  grind
end So
namespace So
def AG(a:Int)(k:Nat):Int:=u8.wrap (iO .i64 a (k:Int))
def Jk(n:Nat):zl:=[AG n 0,AG n 8,AG n 16,AG n 24]
theorem agJ(n:Nat):AG n 0=(n:Int)%256/\AG n 8=(n:Int)/256%256/\AG n 16=(n:Int)/65536%256/\AG n 24=(n:Int)/16777216%256:=by
 refine ⟨?_,?_,?_,?_⟩
 .show u8.wrap ((n)/1)=_;rw [IntKind.wrap_u8];omega
 .show u8.wrap ((n)/256)=_;rw [IntKind.wrap_u8]
 .show u8.wrap ((n)/65536)=_;rw [IntKind.wrap_u8]
 .show u8.wrap ((n)/16777216)=_;rw [IntKind.wrap_u8]
theorem ap4{a b:Nat}(ha:a<4294967296)(hb:b<4294967296)(h:Jk a=Jk b):a=b:=by obtain ⟨a0,j,i,g⟩:=agJ a;obtain ⟨f,e,d,c⟩:=agJ b;simp [Jk,qa] at h;omega
theorem ar6(n:Nat):By (Jk n):=λx hx=>by simp [Jk,qF] at hx;obtain ⟨a0,c,b,a⟩:=agJ n;grind
theorem akw(row:zl)(n:Nat)(c:row.length<100000):wh row [(n:Int)]=some (row++Jk n):=by
 have b:∀k:(zl×Int)->Option zl,aj (Bh 0 k (n)) an (row,0)=k (row++Jk n,1):=by
  intro k;refine wM (λi=>(row++(Jk n).take i,(i:Int))) 4 (by simp) (by omega) (λi hi a=>?_) (λa=>?_)
  .unfold Bh;dsimp only;rw [cb (by omega),ca,bB (by omega),aO (cb (by omega)),aO (eC (by grind) (by grind)),nx (by omega),cx]
   match i,hi with
   |0,_=>rfl
   |1,_=>rfl
   |2,_=>rfl
   |3,_=>rfl
   |_+4,hi=>omega
  .rfl
 refine wM (λi=>(if i=0 then row else row++Jk n,(i:Int))) 1 rfl (by omega) (λi hi k=>?_) (λk=>?_)
 .have:i=0:=by omega
  subst this;unfold AW;dsimp only;rw [show decide (((0:Nat):Int)<(([(n:Int)]:zl).length))=true from rfl,ca,show idx [(n:Int)] ((0:Nat))=some (n:Int) from rfl,ah];exact b k
 .unfold AW;grind
def rowOf(ps:zm):zl:=ps.flatMap Jk
theorem NS(ps:zm):(rowOf ps).length=4*ps.length:=by
 induction ps with
 |nil=>rfl
 |cons p ps ih=>simp [rowOf,qO,eF,eb] at *; show 4+_=_;omega
theorem SQ(ps:zm)(n:Nat):rowOf (ps++[n])=rowOf ps++Jk n:=by simp [rowOf]
theorem Oo:∀{a b:zm},a.length=b.length->(∀x∈a,x<4294967296)->(∀x∈b,x<4294967296)->rowOf a=rowOf b->a=b
 |[],[],_,_,_,_=>rfl
 |[],_::_,h,_,_,_=>by simp at h
 |_::_,[],h,_,_,_=>by simp at h
 |a::aa,b::bb,h,ha,hb,e=>by have e':=List.append_inj (show Jk a++rowOf aa=Jk b++rowOf bb from e) rfl;rw [ap4 (ha a (by simp)) (hb b (by simp)) e'.1,Oo (by simpa using h) (λx hx=>ha x (by simp [hx])) (λx hx=>hb x (by simp [hx])) e'.2]
theorem Yb{ps:zm}(h:ps.length<100):Key (rowOf ps):=by refine ⟨λx hx=>?_,by rw [NS];omega⟩;simp [rowOf,List.mem_flatMap] at hx;obtain ⟨n,_,hx⟩:=hx;exact ar6 n x hx
def ch{α:Type}(l:List α)(i:Nat):List α:=(l.drop (2*i)).take 2
def iM(s:List Fd):Nat:=(s.length+1)/2
theorem Ur(l:List α){n i:Nat}(hn:n=l.length)(h:2*i<n):aV l ((2*i:Nat):Int) ((min n (2*i+2):Nat):Int)=ch l i:=by unfold aV ch;grind [min,List.take_of_length_le]
theorem Pj{s:List Fd}(h:In s v)(i:Nat):In (ch s i) (ch v i):=(h.drop (2*i)).take 2
theorem SK{s:List Fd}(h:jA s)(i:Nat):jA (ch s i):=(h.drop (2*i)).take 2
theorem aqP{l l':zl}{n:Nat}(hl:l.length=n)(a:l'.length=n)(h:∀i,i<(n+1)/2->ch l i=ch l' i):l=l':=by
 refine mm λk=>?_;by_cases hk:k<n
 .have e:=congrArg (λx=>x[k%2]?) (h (k/2) (by omega));simp [ch,qk] at e;grind
 grind
structure Pl(P:List Tb)(s:List Fd)(v:zl)(m:Nat)(ps:zm):Prop where
 len:ps.length=m
 at_:∀i,i<m->∃p t,ps[i]? =some p/\P[i]? =some t/\t.2.1[p]? =some (enc (ch s i) (ch v i))
theorem Pl.fn{P:List Tb}(nd:Nd P){s:List Fd}{v:zl}{m:Nat}{ps a:zm}(h:Pl P s v m ps)(b:Pl P s v m a):ps=a:=by
 refine mm λi=>?_;by_cases hi:i<m
 .obtain ⟨p,t,g,f,e3⟩:=h.at_ i hi;obtain ⟨p',t',e,d,c⟩:=b.at_ i hi;grind [aaX]
 .rw [ma (by have:=h.len;omega),ma (by have:=b.len;omega)]
theorem Pl.inj{P:List Tb}{s:List Fd}{v e:zl}(f:In s v)(a:In s e){ps:zm}(h:Pl P s v (iM s) ps)(g:Pl P s e (iM s) ps):v=e:=by refine aqP f.len a.len λi hi=>?_;obtain ⟨p,t,k,j,e3⟩:=h.at_ i hi;obtain ⟨p',t',d,c,b⟩:=g.at_ i hi;rw [j] at c;cases c;rw [k] at d;cases d;rw [e3] at b;exact aei (Pj f i) (Pj a i) (gj b)
theorem Pl.ext{P a:List Tb}(b:Ext P a){s:List Fd}{v:zl}{m:Nat}{ps:zm}(h:Pl P s v m ps):Pl a s v m ps:=
 ⟨h.len,λi hi=>by obtain ⟨p,t,f,c,e3⟩:=h.at_ i hi;obtain ⟨t',e,d⟩:=b i t c;grind [acU]⟩
theorem Pl.snoc{P:List Tb}{s:List Fd}{p:Nat}{t:Tb}{ps:zm}(h:Pl P s v m ps)(ht:P[m]? =some t)(hp:t.2.1[p]? =some (enc (ch s m) (ch v m))):Pl P s v (m+1) (ps++[p]):=by
 refine ⟨by simp [h.len],λi hi=>?_⟩;by_cases e:i<m
 .obtain ⟨p',t',b,a,e3⟩:=h.at_ i e;grind
 .have:i=m:=by omega
  subst this;exact ⟨p,t,by rw [de (by rw [h.len];omega),h.len];simp,ht,hp⟩
theorem Pl.small{P:List Tb}{cap:Int}(b:Bg P cap){s:List Fd}{v:zl}{m:Nat}{ps:zm}(h:Pl P s v m ps):∀x∈ps,x<4294967296:=by intro x hx;obtain ⟨i,hi,e⟩:=rv hx;obtain ⟨p,t,a,c,e3⟩:=h.at_ i (by rw [<-h.len];exact hi);rw [e] at a;cases a;have:=pS e3;have:=(b.ti i t c).n;omega
abbrev Co:=List Tb×Tb×zl
structure P5(s:List Fd)(cap:Int)(c:Co)(V:w8)(g:Gf):Prop where
 tabs:Bg c.1 cap
 plen:c.1.length=iM s
 df:∀(r:Nat) (x:Tb),c.1[r]? =some x->x.2.1.length<=V.length
 rows:TI c.2.1
 rcap:c.2.1.1=cap
 rlen:c.2.1.2.1.length=V.length
 ins:∀v∈V,In s v
 nd:V.Nodup
 code:∀(j:Nat) v,V[j]? =some v->∃ps,Pl c.1 s v (iM s) ps/\c.2.1.2.1[j]? =some (rowOf ps)
 flags:Flags V g c.2.2
theorem ah4{s:List Fd}(g:jA s){v:zl}(f:In s v){c:Co}{cap:Int}(l:Bg c.1 cap)(hl:c.1.length=iM s)(q:TI c.2.1):
  ∀(d i:Nat) (x:Int) (ps:zm) (M:Nat),i+d=iM s->d<M->Pl c.1 s v i ps->
   (∃a,Pl c.1 s v (iM s) a/\aj (rP c s (s,v)) M ((i:Int),x,rowOf ps)=(dP c.2.1 (rowOf a)).bind λr=>bif (!r.2) then some (-1) else some r.1)\/
   ((∀a,¬Pl c.1 s v (iM s) a)/\aj (rP c s (s,v)) M ((i:Int),x,rowOf ps)=some (-1)):=by
 have u:=g.df;intro d
 induction d with
 |zero=>
  intro i x ps M hi n b;obtain ⟨m,rfl⟩:∃m,M=m+1:=⟨M-1,by omega⟩;rw [ao];have:i=iM s:=by omega
  subst this;refine .inl ⟨ps,b,?_⟩;unfold rP;dsimp only;unfold iM;rw [bB (by omega),cy (by omega),b7]
 |succ d ih=>
  intro i x ps M hi n b;obtain ⟨m,rfl⟩:∃m,M=m+1:=⟨M-1,by omega⟩;rw [ao];have h:i<iM s:=by omega
  have e:2*i<s.length:=by grind [iM]
  have ht:c.1[i]? =some (c.1[i]'(by omega)):=b9 _;have j:=l.ti i _ ht;have hk:=Br (SK g i) (Pj f i);unfold rP;dsimp only;rw [bB (by omega),cb (by omega),ca,nx (by omega),bB (by omega),
   show (i:Int)*2=((2*i:Nat)) by omega,show min (s.length:Int) (((i+1:Nat))*2)=((min s.length (2*i+2):Nat)) by omega,
   aO (JL (by omega) (by omega)),aO (JL (by omega) (by rw [f.len];omega)),Ur s rfl e,Ur v f.len.symm e,Nv (SK g i) (Pj f i),ah,fu ht,ah]
  by_cases hm:enc (ch s i) (ch v i)∈(c.1[i]'(by omega)).2.1
  .obtain ⟨p,hp,k⟩:=rv hm;rw [(mR j hk).1 p k,ah];rw [py,b7,akw _ _ (by rw [NS,b.len];omega),ah,b7,<-SQ];exact ih (i+1) x (ps++[p]) m (by omega) (by omega) (b.snoc ht k)
  .rw [(mR j hk).2 hm,ah];refine .inr ⟨λa o=>?_,rfl⟩;obtain ⟨p,t,_,w,e3⟩:=o.at_ i h;grind
theorem aan{s:List Fd}(x:jA s){cap:Int}{c:Co}{V:w8}{g:Gf}(h:P5 s cap c V g){v:zl}(w:In s v):
  (∃i:Nat,i<V.length/\V[i]? =some v/\v∈V/\uq c s v=some (i:Int))\/(v∉V/\uq c s v=some (-1)):=by
 have A:=x.df;have y:iM s<=9:=by unfold iM;omega
 have p:=h.tabs.nd;have z:uq c s v=aj (rP c s (s,v)) an (((0:Nat)),0,rowOf []):=by rfl
 rw [z];rcases ah4 x w h.tabs h.plen h.rows (iM s) 0 0 [] an (by omega) (by show iM s<2^64;omega) ⟨rfl,λi hi=>by omega⟩ with ⟨ps,a,e⟩|⟨o,e⟩
 .rw [e];have d:=Yb (by rw [a.len];omega);by_cases hm:rowOf ps∈c.2.1.2.1
  .obtain ⟨j,q,m⟩:=rv hm;have k:j<V.length:=by rw [<-h.rlen];exact q
   have b  :=b9 k;obtain ⟨f,l,u⟩:=h.code j _ b;rw [m] at u;have n:=Oo (by rw [a.len,l.len]) (a.small h.tabs) (l.small h.tabs) (gj u);subst n;have r:=h.ins _ (c9 k);have:=l.inj r w a;rw [this] at b;exact .inl ⟨j,k,b,fm b,by rw [(mR h.rows d).1 j m];rfl⟩
  .refine .inr ⟨λt=>?_,by rw [(mR h.rows d).2 hm];rfl⟩;obtain ⟨j,q,m⟩:=rv t;obtain ⟨f,l,u⟩:=h.code j v m;rw [a.fn p l] at hm;grind
 .refine .inr ⟨λt=>?_,e⟩;obtain ⟨j,q,m⟩:=rv t;obtain ⟨f,l,_⟩:=h.code j v m;exact o f l
theorem anh{s:List Fd}(A:jA s){v:zl}(y:In s v){c:Co}{cap:Int}(J:c.2.2.length<100000000):
  ∀(d i:Nat) (P:List Tb) (ps:zm) (M:Nat),i+d=iM s->d<M->Bg P cap->P.length=iM s->Pl P s v i ps->(∀(r:Nat) (x:Tb),i<=r->P[r]? =some x->(x.2.1.length:Int)<cap)->
   ∃w j,Pl w s v (iM s) j/\Grown P w cap i (iM s)/\aj (mU c s (s,v)) M ((i:Int),P,rowOf ps)=(cm c.2.1 (rowOf j)).bind λr=>some ((w,r.1,c.2.2++[0]),true,0):=by
 have S:=A.df;intro d
 induction d with
 |zero=>
  intro i P ps M hi I l hl k _;obtain ⟨m,rfl⟩:∃m,M=m+1:=⟨M-1,by omega⟩;rw [ao];have:i=iM s:=by omega
  subst this;refine ⟨P,ps,k,⟨l,Ext.refl P,rfl,λ_ _=>rfl,λr t t' e e'=>by rw [e] at e';cases e';omega⟩,?_⟩;unfold mU;dsimp only;rw [bB (show _/\((iM s:Nat):Int)*2<=_ by unfold iM;omega),cy (by unfold iM;omega),b7,OX];cases cm c.2.1 (rowOf ps) with
  |none=>rfl
  |some r=>rw [ah,ah,aO (JV _),aO (eC (by simp;omega) (by simp;omega))]
 |succ d ih=>
  intro i P ps M hi I l hl k h;obtain ⟨m,rfl⟩:∃m,M=m+1:=⟨M-1,by omega⟩;rw [ao];have B:i<iM s:=by omega
  have q:2*i<s.length:=by unfold iM at B;omega
  have G:iM s<=9:=by unfold iM;omega
  have b:i<P.length:=by omega
  have ht:P[i]? =some P[i]:=b9 b;have H:=l.ti i _ ht;have hk:=Br (SK A i) (Pj y i);obtain ⟨t',f,e,p,R,Q,O,N,L,K⟩:=aeM H hk (.inr (by rw [l.cap i _ ht];exact h i _ (cK _) ht));have z:Grown P (P.set i t') cap i (i+1):=by
   refine ⟨⟨λr u a=>?_,λr u a=>?_⟩,λr u a=>?_,by simp,λr C=>?_,λr u u' a g=>?_⟩
   .rw [ni b] at a;split at a
    .cases a;exact Q
    .exact l.ti r u a
   .rw [ni b] at a;split at a
    .cases a;rw [O];exact l.cap i _ ht
    .exact l.cap r u a
   .by_cases e:i=r
    .subst e;rw [ht] at a;cases a;exact ⟨t',by rw [ni b,du rfl],N⟩
    .exact ⟨u,by rw [ni b,dk e];exact a,tw _⟩
   .rw [ni b,dk (by omega)]
   .rw [ni b] at g;split at g
    next e=>subst e;cases g;rw [ht] at a;cases a;exact K
    .rw [a] at g;cases g;omega
  obtain ⟨w,j,k1,n,E⟩:=ih (i+1) (P.set i t') (ps++[p]) m (by omega) (by omega) z.tabs (by simpa using hl) ((k.ext z.ext).snoc (by grind) L) (λr x C hx=>h r x (by omega) (by grind));refine ⟨w,j,k1,⟨n.tabs,z.ext.trans n.ext,by rw [n.len];simp,λr C=>?_,λr t D F o=>?_⟩,?_⟩
  .rw [n.out r (by omega),z.out r (by omega)]
  .by_cases T:r=i
   .rw [n.out r (by omega)] at o;grind
   .exact n.one r t D (by grind) o
  .rw [<-E];unfold mU;dsimp only;rw [bB (by omega),cb (by omega),ca,nx (by omega),bB (by omega),
    show (i:Int)*2=((2*i:Nat)) by omega,show min (s.length:Int) (((i+1:Nat))*2)=((min s.length (2*i+2):Nat)) by omega,
    aO (JL (by omega) (by omega)),aO (JL (by omega) (by rw [y.len];omega)),Ur s rfl q,Ur v y.len.symm q,Nv (SK A i) (Pj y i),ah,fu ht,ah]
   rw [R,ah];rw [akw _ _ (by rw [NS,k.len];omega),ah,ah,py,b7,<-SQ,gx]
theorem agN{l:List Tb}(h:l.length<1000000):dF l=some l:=by grind [dF,aO,eC]
theorem adB{s:List Fd}{cap:Int}{c:Co}{V:w8}{g:Gf}(h:P5 s cap c V g):Cc c=some (V.length:Int):=by unfold Cc yM;rw [ah,h.rlen]
theorem ahn{s:List Fd}(y:jA s){cap:Int}{c:Co}{V:w8}{g:Gf}(h:P5 s cap c V g){v:zl}(l:In s v):
  ∃c',BC c s v=some (c',(yC cap V v).2)/\P5 s cap c' (yC cap V v).1 g:=by
 have R:=y.df;have I:iM s<=9:=by unfold iM;omega
 unfold BC yC;rw [wH s v (by have:=l.len;omega),sF.2 l,ah,show ((0:Int) != 0)=false from rfl,b7];rcases aan y h l with ⟨i,hi,e,hm,ef⟩|⟨hm,ef⟩
 .rw [ef,ah,du hm,cb (by omega)];exact ⟨c,rfl,h⟩
 .rw [ef,ah,dk hm,cy (by omega),b7,adB h,ah,h.rcap];by_cases t:cap<=(V.length)
  .rw [cb t,du t];exact ⟨c,rfl,h⟩
  .have J:=h.flags.len;have K:V.length<=1048576:=by have:=h.rows.n;have:=h.rlen;omega
   rw [cy t,dk t,b7,agN (by rw [h.plen];omega),ah];obtain ⟨P,ps,k1,f,H⟩:=anh y l (c:=c) (by omega) (iM s) 0 c.1 [] an (by omega) (by show iM s<2^64;omega) h.tabs h.plen ⟨rfl,λi hi=>by omega⟩ (λr x _ hx=>by have:=h.df r x hx;omega);have O:((wx s v).bind λw=>aj (mU c s w) an (0,c.1,[]))=aj (mU c s (s,v)) an (((0:Nat)),c.1,rowOf []):=by rfl
   rw [O,H];have p:=Yb (by rw [k1.len];omega);have m:rowOf ps∉c.2.1.2.1:=λo=>by
    obtain ⟨j,A,L⟩:=rv o;have k:j<V.length:=by rw [<-h.rlen];exact A
    have B  :=b9 k;obtain ⟨G,E,D⟩:=h.code j _ B;rw [L] at D;have q:=E.ext f.ext;have z:=Oo (by rw [k1.len,E.len]) (k1.small f.tabs) (q.small f.tabs) (gj D);subst z;have:=q.inj (h.ins _ (c9 k)) l k1;exact hm (this▸c9 k)
   obtain ⟨t',N,M,e3,e4⟩:=KE h.rows p m (by rw [h.rlen,h.rcap];omega);rw [N,ah];refine ⟨(P,t',c.2.2++[0]),rfl,⟨f.tabs,by rw [f.len,h.plen],λr x hx=>?_,e4,by rw [M,h.rcap],by rw [e3];simp [h.rlen],λu d=>?_,?_,λj u d=>?_,h.flags.add hm⟩⟩
   .have C:r<c.1.length:=by rw [<-f.len];exact pS hx
    have:=f.one r _ x (b9 C) hx;have:=h.df r _ (b9 C);simp;omega
   .rcases List.mem_append.1 d with d|d
    .exact h.ins u d
    grind
   .exact List.nodup_append.2 ⟨h.nd,by simp,λa ha b hb=>by grind⟩
   .rw [tt] at d;split at d
    .obtain ⟨qs,F,Q⟩:=h.code j u d;exact ⟨qs,F.ext f.ext,by grind⟩
    .have A:j-V.length=0:=by grind
     rw [A] at d;simp at d;subst d;exact ⟨ps,k1,by rw [e3,show j=c.2.1.2.1.length by rw [h.rlen];omega];simp⟩
theorem XU{s:List Fd}(d:jA s){cap:Int}{c:Co}{V:w8}{g:Gf}(h:P5 s cap c V g){v:zl}(b:In s v)(a:Int):
  (gP V v a≠0/\D9 c s v a=some (0,gP V v a))\/(gP V v a=0/\(a=0\/a=1)/\∃i:Nat,i<V.length/\V[i]? =some v/\D9 c s v a=some ((i:Int),0)):=by
 unfold D9 gP;have:=d.df;rw [wH s v (by have:=b.len;omega),sF.2 b,ah,show ((0:Int) != 0)=false from rfl,b7];simp [aK];rcases AY a with hb|hb
 .grind
 .rcases aan d h b with ⟨i,hi,e,hm,ef⟩|⟨hm,ef⟩
  .grind
  grind
theorem agf{s:List Fd}(j:jA s){cap:Int}{c:Co}{V:w8}{g:Gf}(h:P5 s cap c V g){v:zl}(f:In s v)(a:Int):
  ∃c',K6 c s v a=some (c',gP V v a)/\P5 s cap c' V (W6 V g v a):=by
 unfold K6 W6;rcases XU j h f a with ⟨b,e⟩|⟨b,hb,i,hi,ev,e⟩
 .grind
 .have k:=h.flags.len;have:=h.rows.n;have:=h.rlen;rw [e,ah,du b,b];rw [uZ (by omega),ah,fu (h.flags.at_ i v ev),ah,aO (cb (by omega)),ah,gx];refine ⟨(c.1,c.2.1,c.2.2.set i (fl (g false v|| !(a==1)) (g true v||(a==1)))),?_,⟨h.tabs,h.plen,h.df,h.rows,h.rcap,h.rlen,h.ins,h.nd,h.code,h.flags.set h.nd ev _⟩⟩;have d:=acm (g false v) (g true v);rcases hb with rfl|rfl
  .rw [d.2.2.1];rfl
  .rw [d.2.2.2];rfl
theorem ahT{s:List Fd}(j:jA s){cap:Int}{c:Co}{V:w8}{g:Gf}(h:P5 s cap c V g){v:zl}(f:In s v)(a:Int):
  Ks c s v a=some (W0 V g v a,gP V v a):=by
 unfold Ks W0;rcases XU j h f a with ⟨b,e⟩|⟨b,hb,i,hi,ev,e⟩
 .grind
 .rw [e,ah,du b,b];rw [fu (h.flags.at_ i v ev),ah,aO (cb (by omega))];have d:=abq (g false v) (g true v);rcases hb with rfl|rfl
  .rw [d.2.2.1];rfl
  .rw [d.2.2.2.1];rfl
theorem U1{s:List Fd}(a:jA s)(most:Int):KI s most=if most<0\/1048576<most then some (([],(0,[],[]),[]),1) else some ((List.replicate (iM s) (most,[],List.replicate 8 0),(most,[],List.replicate 8 0),[]),0):=by
 have b:=a.df;unfold KI;rw [Sx];by_cases h:most<0\/1048576<most
 .grind
 .rw [dk h,dk h,ah];simp;have hb:i64.wrap (Int.tdiv (i64.wrap ((i64.wrap ((s.length)+2))-1)) 2)=((iM s:Nat)):=by rw [bB (show _/\(s.length:Int)+2<=_ by omega),show (s.length:Int)+2-1=((s.length+1:Nat)) by omega,bB (show _/\((s.length+1:Nat):Int)<=_ by omega),show Int.tdiv ((s.length+1:Nat)) 2=((iM s:Nat)) from rfl,bB (by unfold iM;omega)]
  refine wM (λi=>(List.replicate i (most,[],List.replicate 8 0),(i:Int))) (iM s) (by simp) (by unfold iM;omega) (λi hi k=>?_) (λk=>?_)
  .have:iM s<=9:=by unfold iM;omega
   unfold H4;dsimp only;rw [hb,kY hi,ca,Sx,dk h,ah];rw [aO (eC (by simp;omega) (by simp;omega)),nx (by omega),<-List.replicate_succ']
  simp_all [H4,o5]
theorem ag4(s:List Fd){most:Int}(d:0<=most)(c:most<=1048576):P5 s most (List.replicate (iM s) (most,[],List.replicate 8 0),(most,[],List.replicate 8 0),[]) [] (λ_ _=>false):=by
 have b:∀(r:Nat) (x:Tb),(List.replicate (iM s) ((most,[],List.replicate 8 0)))[r]? =some x->x=(most,[],List.replicate 8 0):=by grind
 exact ⟨⟨λr x hx=>by grind [Ug],λr x hx=>by rw [b r x hx]⟩,by simp,λr x hx=>by grind,Ug d c,rfl,rfl,λv a=>by simp at a,qZ,λi v h=>by simp at h,Flags.nil⟩
end So
variable {h : zl}
namespace Df
theorem ah(x:α)(k:α->Option ρ):(some x).bind k=k x:=rfl
theorem aK(x:α)(k:α->Option ρ):ai x k=k x:=rfl
theorem aO(k:Option ρ):aN true k=k:=rfl
theorem dN(d:α)(m:Option α)(k:α->Option ρ):bm true d m k=m.bind k:=rfl
theorem rY(d:α)(m:Option α)(k:α->Option ρ):bm false d m k=k d:=rfl
theorem bG(xs:List α)(k:Nat):idx xs (k:Int)=xs[k]? :=by simp [idx]
theorem fz{α:Type}{xs:List α}{k:Nat}(h:k<xs.length):idx xs (k:Int)=some xs[k]:=by rw [bG,b9 h]
theorem sM{xs:List α}{i:Int}(a:0<=i)(h:i<xs.length):∃x,idx xs i=some x:=by obtain ⟨k,rfl⟩:=qm a;simp_all [fz]
theorem oz{l pre r:List α}{x:α}(h:l=pre++x::r):idx l (pre.length:Int)=some x:=by subst h;simp [idx]
theorem aeL{xs:List α}{i j:Int}{x:α}(a:0<=i)(hi:i<xs.length):idx (xs.set i.toNat x) j=if j=i then some x else idx xs j:=by grind [idx]
theorem kY{l pre r:List α}{x:α}(h:l=pre++x::r):decide ((pre.length:Int)<(l.length:Int))=true:=by subst h;simp;omega
theorem vT{l pre:List α}(h:l=pre++[]):decide ((pre.length:Int)<(l.length:Int))=false:=by subst h;simp
theorem mT{n:Nat}(h:n<4611686018427387904):i64.wrap ((n:Int)+1)=((n+1:Nat):Int):=by grind [bB]
theorem eC{k b:Nat}(h:k*b<=140737488355328)(a:k<=9223372036854775807):aH k b=true:=by simp_all [aH,au]
theorem Je{l m:List α}(hl:l.Nodup)(h:∀x∈l,x∈m):l.length<=m.length:=by
 classical
 induction l generalizing m with
 |nil=>simp
 |cons x l ih=>
  have hx:=h x (by simp);have hn:=List.nodup_cons.1 hl;obtain ⟨s,t,rfl⟩:=List.append_of_mem hx;have:=ih (m:=s++t) hn.2 λy a=>by grind
  simp at this ⊢; omega
theorem WV{i j:Int}(b:0<=i)(hi:i<h.length)(a:0<=j)(c:j<h.length):∃h',im h i j=some h'/\h'.Perm h/\h'.length=h.length:=by obtain ⟨i,rfl⟩:=qm b;obtain ⟨j,rfl⟩:=qm a;simp_all [List.set_set_perm,im,fz,sM]
theorem VD{i j:Int}(c:0<=i)(hi:i<h.length)(a:0<=j)(d:j<h.length):∃b,ir h i j=some b:=by unfold ir;obtain ⟨x,hx⟩:=sM c hi;obtain ⟨y,e⟩:=sM a d;simp_all
theorem aoA:∀(n:Nat) (l:zl) (j:Nat),j<l.length->l.length<4611686018427387904->j<n->∃l',aj n3 n (l,(j:Int))=some l'/\l'.Perm l
 |0,_,_,_,_,h=>by omega
 |n+1,l,j,hj,hl,hn=>by
  rw [ao];unfold n3;simp [aK];rw [bB (x:=(j)-1) (by omega)];by_cases f:j=0
  .subst f;refine ⟨l,?_,.refl _⟩;rfl
  .have hi:i64.wrap (Int.tdiv ((j)-1) 2)=(((j-1)/2:Nat)):=by rw [show (j:Int)-1=((j-1:Nat)) by omega];rw [show Int.tdiv ((j-1:Nat)) 2=(((j-1)/2:Nat)) from rfl];exact bB (by omega)
   rw [hi];have a:((((j-1)/2:Nat):Int)==(j))=false:=by simp;omega
   rw [a];obtain ⟨b,hb⟩:=VD (h:=l) (i:=(j)) (j:=(((j-1)/2:Nat))) (by omega) (by omega) (by omega) (by omega);simp only [iN,dN,hb,ah];cases b
   .simp_all
   .obtain ⟨l1,e,p1,g⟩:=WV (h:=l) (i:=(((j-1)/2:Nat))) (j:=(j)) (by omega) (by omega) (by omega) (by omega);obtain ⟨c,d,p2⟩:=aoA n l1 ((j-1)/2) (by omega) (by omega) (by omega);refine ⟨c,?_,p2.trans p1⟩;simp only [e];exact d
theorem D8(x:Int)(hl:h.length<1099511627776):∃h',nO x h=some h'/\h'.Perm (x::h):=by unfold nO wJ kW sD;rw [eC (by simp;omega) (by simp;omega)];simp [aO,ah];rw [bB (by simp;omega)];obtain ⟨l,a,p⟩:=aoA an (h++[x]) h.length (by simp) (by simp;omega) (by show _<2^64;omega);grind
theorem afb{i0:Int}{m:Nat}:∀(n:Nat) (l:zl) (i:Nat),m<l.length->l.length<1099511627776->i<l.length->l.length-i<n->∃b l',aj (iE i0 (m:Int)) n (l,(i:Int))=some (b,l')/\l'.Perm l/\l'[m]? =l[m]?
 |0,_,_,_,_,_,h=>by omega
 |n+1,l,i,hm,hl,hi,hn=>by
  rw [ao];unfold iE;simp only [aK];rw [bB (x:=2*(i)) (by omega),bB (by omega),bB (by omega)];by_cases p:m<=2*i+1
  .have:decide ((m:Int)<=2*(i)+1)=true:=by simp;omega
   rw [this];exact ⟨_,l,rfl,.refl _,rfl⟩
  .have:decide ((m:Int)<=2*(i)+1)=false:=by simp;omega
   rw [this];have K:∀j:Nat,i<j->j<m->∃b l',pD i0 l (i) (aj (iE i0 (m)) n) (j)=some (b,l')/\l'.Perm l/\l'[m]? =l[m]? :=by
    intro j g f;unfold pD;obtain ⟨b,hb⟩:=VD (h:=l) (i:=(j)) (j:=(i)) (by omega) (by omega) (by omega) (by omega);rw [hb,ah];cases b
    .exact ⟨_,l,rfl,.refl _,rfl⟩
    .obtain ⟨l1,c,p1,q⟩:=WV (h:=l) (i:=(i)) (j:=(j)) (by omega) (by omega) (by omega) (by omega);have a:=c;obtain ⟨b,e,k,p2,d⟩:=afb (m:=m) n l1 j (by omega) (by omega) (by omega) (by omega);refine ⟨b,e,?_,p2.trans p1,?_⟩
     .simp [c];exact k
     .rw [d];obtain ⟨x,_,a⟩:=iJ a;obtain ⟨y,_,a⟩:=iJ a;obtain ⟨z,_,a⟩:=iJ a;obtain ⟨u,_,a⟩:=iJ a;cases a;rw [qN (by omega),qN (by omega)]
   by_cases o:2*i+2<m
   .have:decide (2*(i:Int)+1+1<(m))=true:=by simp;omega
    rw [this];obtain ⟨b,hb⟩:=VD (h:=l) (i:=2*(i)+1+1) (j:=2*(i)+1) (by omega) (by omega) (by omega) (by omega);simp only [hb,ah];cases b
    .exact K (2*i+1) (by omega) (by omega)
    .exact K (2*i+2) (by omega) (by omega)
   .have:decide (2*(i:Int)+1+1<(m))=false:=by simp;omega
    rw [this];exact K (2*i+1) (by omega) (by omega)
theorem arw(f:h≠[])(hl:h.length<1099511627776):∃x h',pd h=some (x,h')/\(x::h').Perm h:=by
 have hp  :=List.length_pos_iff.2 f;unfold pd kW;rw [ah,bB (by omega),show ((h.length:Int)-1)=((h.length-1:Nat)) by omega];obtain ⟨l1,e,p1,g⟩:=WV (h:=h) (i:=0) (j:=((h.length-1:Nat))) (by omega) (by omega) (by omega) (by omega);rw [e,ah];unfold ta;obtain ⟨b,a,c,p2,_⟩:=afb (m:=h.length-1) an l1 0 (by omega) (by omega) (by omega) (by show _<2^64;omega);have c:aj (iE 0 ((h.length-1:Nat))) an (l1,0)=some (b,a):=c;rw [c,ah];unfold yx;simp;have d:a.length=h.length:=by rw [p2.length_eq,g]
 rw [bB (by omega),show ((a.length:Int)-1)=((a.length-1:Nat)) by omega,fz (by omega)];simp;rw [wO.2 (by omega),aO];have:aV a 0 ((a.length-1:Nat))=a.take (a.length-1):=by simp [aV]
 grind [List.take_append_drop,List.drop_eq_getElem_cons,List.drop_eq_nil_of_le,List.perm_append_comm]
end Df
namespace Df
abbrev Nd:=xb×Int
def nx(N:List Nd)(i:Int):xb:=((idx N i).getD ([],0)).1
def rf(N:List Nd)(i:Int):Int:=((idx N i).getD ([],0)).2
def tg(N:List Nd)(i:Int):zl:=(nx N i).map (·.2)
theorem BS{N:List Nd}{i:Int}(a:0<=i)(h:i<N.length):idx N i=some (nx N i,rf N i):=by obtain ⟨x,hx⟩:=sM a h;simp [nx,rf,hx]
theorem NQ{N:List Nd}{i j:Int}{x:Nd}(a:0<=i)(hi:i<N.length):nx (N.set i.toNat x) j=if j=i then x.1 else nx N j:=by unfold nx;grind [aeL]
theorem NU{N:List Nd}{i j:Int}{x:Nd}(a:0<=i)(hi:i<N.length):rf (N.set i.toNat x) j=if j=i then x.2 else rf N j:=by unfold rf;grind [aeL]
def CK(l:xb):Prop:=l.Pairwise (λa b=>a.1<b.1)/\∀e∈l,0<=e.1/\e.1<256
def At(N:List Nd)(A:zl):Nat->Int->Prop
 |0,i=>i∈A/\nx N i=[]
 |h+1,i=>i∈A/\nx N i≠[]/\CK (nx N i)/\∀e∈nx N i,At N A h e.2
theorem At.mem{N:List Nd}{A:zl}:∀{h:Nat} {i:Int},At N A h i->i∈A
 |0,_,a=>a.1
 |_+1,_,a=>a.1
theorem At.OB{N:List Nd}{A:zl}:∀{h:Nat} {i:Int},At N A h i->CK (nx N i)
 |0,_,a=>by rw [a.2];exact ⟨List.Pairwise.nil,by simp⟩
 |_+1,_,a=>a.2.2.1
theorem At.da{N d:List Nd}{A b:zl}(hn:∀j∈b,j∈A->nx d j=nx N j)(c:∀j∈b,j∈A->∀e∈nx N j,e.2∈A->e.2∈b):∀{h:Nat} {i:Int},At N A h i->i∈b->At d b h i
 |0,_,a,m=>⟨m,by rw [hn _ m a.1];exact a.2⟩
 |h+1,i,a,m=>by
  have e:=hn i m a.1;exact ⟨m,by rw [e];exact a.2.1,by rw [e];exact a.2.2.1,λx hx=>by rw [e] at hx;exact At.da hn c (a.2.2.2 x hx) (c i m a.1 x hx (a.2.2.2 x hx).mem)⟩
theorem At.grow{N c:List Nd}{A d:zl}(b:∀j∈A,j∈d)(hn:∀j∈A,nx c j=nx N j){h:Nat}{i:Int}(a:At N A h i):At c d h i:=
 a.da (λj _ e=>hn j e) (λ_ _ _ _ _ h=>b _ h) (b _ a.mem)
def acc(N:List Nd):zl->Int->Prop
 |[],_=>True
 |b::w,i=>∃e∈nx N i,e.1=b/\acc N w e.2
theorem acc.same{N c:List Nd}{A:zl}(hn:∀j∈A,nx c j=nx N j):∀{h:Nat} {i:Int},At N A h i->∀{w:zl},w.length=h->(acc c w i↔acc N w i)
 |0,_,_,[],_=>Iff.rfl
 |h+1,i,a,b::w,hw=>by unfold acc;rw [hn i a.1];exact exists_congr λe=>⟨λ⟨m,x,y⟩=>⟨m,x,(acc.same hn (a.2.2.2 e m) (by simpa using hw)).1 y⟩,λ⟨m,x,y⟩=>⟨m,x,(acc.same hn (a.2.2.2 e m) (by simpa using hw)).2 y⟩⟩
theorem aa6{l:xb}(h:CK l){a b:Int×Int}(ha:a∈l)(hb:b∈l)(e:a.1=b.1):a=b:=by
 replace h:=h.1
 induction l with
 |nil=>cases ha
 |cons x l ih=>
  grind [List.pairwise_cons]
theorem al6{N:List Nd}{i b:Int}{w:zl}(d:CK (nx N i)){e:Int×Int}(c:e∈nx N i)(hb:e.1=b):acc N (b::w) i↔acc N w e.2:=
 ⟨λ⟨x,hx,a,h⟩=>by grind [aa6],λh=>⟨e,c,hb,h⟩⟩
structure Inv(N:List Nd)(F Z A X T:zl)(W:Nat):Prop where
 nd:(A++F++Z).Nodup
 rng:∀i,i∈A++F++Z↔0<=i/\i<N.length
 dV:∀i,rf N i=((A.flatMap (tg N)++X).count i:Nat)
 dead:∀i,i∉A->rf N i=0
 top:∀i∈A,rf N i=0->i∈T
 dist:∀i∈A,∀j∈A,nx N i=nx N j->i=j
 good:∀i∈A,∃h,h<=W/\At N A h i
variable {N : List Nd} {F Z A X T : zl} {W : Nat}
theorem Inv.range(I:Inv N F Z A X T W){i:Int}(h:i∈A):0<=i/\i<N.length:=(I.rng i).1 (by simp [h])
theorem Inv.closed(I:Inv N F Z A X T W){i:Int}(h:i∈A){e:Int×Int}(b:e∈nx N i):e.2∈A:=by
 obtain ⟨k,_,a⟩:=I.good i h;cases k with
 |zero=>rw [a.2] at b;cases b
 |succ k=>exact (a.2.2.2 e b).mem
theorem Inv.ext(I:Inv N F Z A X T W){i:Int}(h:i∈X):i∈A:=by
 by_cases ha:i∈A
 .exact ha
 .have b:=I.dead i ha;have a:=I.dV i;grind
theorem Inv.pos(I:Inv N F Z A X T W)(i:Int):0<=rf N i:=by rw [I.dV];omega
theorem Inv.led(I:Inv N F Z A X T W){j i:Int}(a:j∈A)(h:i∈tg N j):0<rf N i:=by rw [I.dV];grind [List.count_pos_iff]
end Df
namespace Df
theorem arT(x y:Int):nj x y=some (if x<y then -1 else if y<x then 1 else 0):=by unfold nj uY;grind
theorem aon(e:Int×Int)(y:Int):Cf e y=some (if e.1<y then -1 else if y<e.1 then 1 else 0):=by grind [Cf,arT]
theorem aq2{i j:Nat}(h:i+j<4611686018427387904):i64.wrap (iO .u64 (u64.wrap (i64.wrap ((i:Int)+j))) 1)=(((i+j)/2:Nat):Int):=by
 have:u64.wrap ((i)+j)=(i)+j:=by show ((i:Int)+j)%(2^64)=_;omega
 have:iO .u64 ((i)+j) 1=((i)+j)/2:=rfl;grind [bB]
theorem WS{x:xb}{t:Int}(c:x.Pairwise (λa b=>a.1<b.1))(hx:x.length<1099511627776):∀(n i j:Nat),i<=j->j<=x.length->
  (∀k (hk:k<x.length),k<i->x[k].1<t)->(∀k (hk:k<x.length),j<=k->t<=x[k].1)->j-i<n->
  ∃(m:Nat) (b:Bool),aj (ct x t) n ((i:Int),(j:Int))=some ((m:Int),b)/\m<=x.length/\(∀k (hk:k<x.length),k<m->x[k].1<t)/\(∀k (hk:k<x.length),m<=k->t<=x[k].1)/\(b=true↔ ∃h:m<x.length,x[m].1=t)
 |0,_,_,_,_,_,_,h=>by omega
 |n+1,i,j,hij,hj,h1,h2,hn=>by
  rw [ao];unfold ct;have hp:=List.pairwise_iff_getElem.1 c;simp only [aq2 (show i+j<_ by omega),aK];by_cases h:i<j
  .rw [show decide ((i:Int)<(j))=true by simpa using h,ca,fz (by omega),ah,aon,ah];by_cases e:(x[(i+j)/2]'(by omega)).1<t
   .simp only [e,show decide ((-1)<0)=true from rfl];rw [mT (by omega)];exact WS c hx n ((i+j)/2+1) j (by omega) hj (λk hk d=>by
     grind) h2 (by omega)
   .have:decide ((if (x[(i+j)/2]'(by omega)).1<t then (-1) else if t<(x[(i+j)/2]'(by omega)).1 then 1 else 0)<0)=false:=by grind
    rw [this,b7];exact WS c hx n i ((i+j)/2) (by omega) (by omega) h1 (λk hk d=>by
     grind) (by omega)
  .have:i=j:=by omega
   subst this;by_cases hl:i<x.length
   .rw [show decide ((i:Int)<(List.length x))=true by simpa using hl,dN,fz hl,ah,dN,aon,ah];grind
   .rw [show decide ((i:Int)<(List.length x))=false by simpa using hl,rY,rY];grind
theorem an8{x:xb}(t:Int)(c:CK x)(hx:x.length<1099511627776):
  ∃(p q:xb),x=p++q/\(∀e∈p,e.1<t)/\(∀e∈q,t<=e.1)/\
   bE x t=some ((p.length:Int),(q.head?.map (·.1))==some t):=by
 obtain ⟨m,b,h,hm,f,d,hb⟩:=WS (t:=t) c.1 hx an 0 x.length (by omega) (by omega) (λk _ h=>by omega) (λk h g=>by omega) (by show _<2^64;omega);refine ⟨x.take m,x.drop m,(qv m x).symm,?_,?_,?_⟩
 .intro e a;obtain ⟨k,hk,rfl⟩:=qR a;grind
 .intro e a;obtain ⟨k,hk,rfl⟩:=qR a;grind
 .unfold bE;have h:aj (ct x t) an (0,(x.length))=some ((m:Int),b):=h;rw [h,dq,iQ hm];congr 2;rw [qC,hb,n6,List.head?_drop];grind
theorem arK:cu=bE:=rfl
theorem asb:M8=Cb:=rfl
theorem an4{d:Int×List Nd×Int×Int×zl}{i:Int}(b:Int)(g:0<=i)(hi:i<d.2.1.length)(c:CK (nx d.2.1 i))(hl:(nx d.2.1 i).length<1099511627776):
  (∃e∈nx d.2.1 i,e.1=b/\Cb d i b=some e.2)\/((∀e∈nx d.2.1 i,e.1≠b)/\Cb d i b=some (-1)):=by
 obtain ⟨p,q,hx,hp,j,h⟩:=an8 b c hl;unfold Cb;rw [show (i== -1)=false by simp;omega,b7,BS g hi];simp only [ah];rw [h,ah];cases q with
 |nil=>
  grind
 |cons e q=>
  by_cases hb:e.1=b
  .refine .inl ⟨e,by rw [hx];simp,hb,?_⟩;simp [List.head?_cons,mj,hb,qh,py];rw [oz hx];rfl
  .refine .inr ⟨λx a=>?_,?_⟩
   .rw [hx] at a c;rcases List.mem_append.1 a with a|a
    .have:=hp x a;omega
    .rcases List.mem_cons.1 a with rfl|f
     .exact hb
     .have k:=(List.pairwise_cons.1 (List.pairwise_append.1 c.1).2.1).1 x f;grind
   grind
theorem ael{a b:xb}(hl:a.length=b.length)(hb:a.length<1099511627776):∀(n k:Nat),k<=a.length->a.length-k<n->
  aj (iF a b) n (k:Int)=some (decide (a.drop k=b.drop k))
 |0,_,_,h=>by omega
 |n+1,k,hk,hn=>by
  rw [ao];unfold iF;by_cases h:k<a.length
  .rw [show decide ((k:Int)<(List.length a))=true by simpa using h,ca,fz h,fz (hl▸h)];simp only [ah];rw [mT (by omega),nJ h,nJ (show k<b.length from hl▸h)];unfold aiV;by_cases e:a[k]=b[k]'(hl▸h)
   .rw [<-e];simp only [qh,qa,true_and];exact ael hl hb n (k+1) (by omega) (by omega)
   .have:(a[k].1==(b[k]'(hl▸h)).1&&a[k].2==(b[k]'(hl▸h)).2)=false:=by grind
    rw [this];simp only [iN,ca,ej];grind
  grind
theorem as3{a b:xb}(hb:a.length<1099511627776):ga a b=some (decide (a=b)):=by
 unfold ga;by_cases hl:a.length=b.length
 .rw [show ((a.length:Int) != (List.length b))=false by simp [hl],b7];exact ael hl hb an 0 (by omega) (by show _<2^64;omega)
 .have:a≠b:=λe=>hl (by rw [e]);grind
theorem XS{N:List Nd}{A:zl}{y:List (Int×Bool)}{next:xb}(b:∀i:Int,0<=i->i<N.length->((0<rf N i\/eA (some y) i false=true)↔i∈A))(hb:∀i∈A,(nx N i).length<1099511627776)(hN:N.length<1099511627776):∀(n k:Nat),k<=N.length->N.length-k<n->
  (∃i:Int,aj (iP next N (some y)) n (k:Int)=some (i,true)/\i∈A/\0<=i/\i<N.length/\nx N i=next)\/
  (aj (iP next N (some y)) n (k:Int)=some (-1,false)/\∀i∈A,(k:Int)<=i->i<N.length->nx N i≠next)
 |0,_,_,h=>by omega
 |n+1,k,hk,hn=>by
  rw [ao];unfold iP;by_cases h:k<N.length
  .rw [show decide ((k:Int)<(List.length N))=true by simpa using h,ca,BS (by omega) (by omega)];simp [ah,aK];rw [mT (by omega)];have ih:=XS (next:=next) b hb hN n (k+1) (by omega) (by omega);have a:=b (k) (by omega) (by omega);have go:(∀x:Int,x∈A->x=(k)->nx N x≠next)->(∃i:Int,aj (iP next N (some y)) n ((k+1:Nat))=some (i,true)/\i∈A/\0<=i/\i<N.length/\nx N i=next)\/
     (aj (iP next N (some y)) n ((k+1:Nat))=some (-1,false)/\∀i∈A,(k)<=i->i<N.length->nx N i≠next):=by
    grind
   by_cases ha:(k:Int)∈A
   .have:(decide (0<rf N (k))||eA (some y) (k) false)=true:=by simpa using a.2 ha
    rw [this,dN,as3 (hb _ ha),ah];by_cases c:nx N (k)=next
    .grind
    .simp [c,qK];exact go λx _ e=>by rw [e];exact c
   .have:(decide (0<rf N (k))||eA (some y) (k) false)=false:=by grind
    rw [this,rY];exact go λx hx e=>absurd (e▸hx) ha
  grind
end Df
namespace Df
theorem Bn{l:xb}(h:CK l):l.length<=256:=by
 have b:(l.map (·.1)).Nodup:=by refine List.pairwise_map.2 (h.1.imp ?_);omega
 have:=Je b (m:=(List.range 256).map Int.ofNat) λx hx=>by obtain ⟨e,a,rfl⟩:=List.mem_map.1 hx;have:=h.2 e a;exact List.mem_map.2 ⟨e.1.toNat,by simp;omega,by simp;omega⟩
 simpa using this
theorem G7{l:List (Int×Bool)}{r i:Int}:pJ (l6 l r true) i=if i=r then some true else pJ l i:=by
 induction l with
 |nil=>
  grind [l6,pJ]
 |cons p l ih=>
  unfold l6;by_cases h:r=p.1
  .grind [pJ]
  .simp [show (r==p.1)=false by simpa using h];by_cases a:i=p.1
   .simp_all [pJ,Ne.symm]
   .simp [pJ,show (i==p.1)=false by simpa using a,b7,ih]
theorem Ub{l:List (Int×Bool)}{r i:Int}:eA (some (l6 l r true)) i false=true↔i=r\/eA (some l) i false=true:=by grind [eA,G7]
theorem al2{N:List Nd}{F A X T:zl}{W:Nat}(I:Inv N F [] A X T W)(hN:N.length<1099511627775)(e f g:Int)(y:Option (List (Int×Bool))):
  ∃i N1 b,vd e N f g F y=some (i,N1,b)/\(i::(A++b)).Nodup/\(∀j,j∈i::(A++b)↔0<=j/\j<N1.length)/\(∀j,j≠i->nx N1 j=nx N j/\rf N1 j=rf N j)/\rf N i=0/\N1.length<=N.length+1:=by
 unfold vd;have a:=I.nd;have c:=I.rng;simp only [ko] at a c;by_cases d:F=[]
 .subst d;rw [show ((List.length ([]):Int)==0)=true from rfl,ca,eC (by simp;omega) (by simp;omega),aO];have hn:((N.length):Int)∉A:=λh=>by grind
  refine ⟨(N.length),N++[([],0)],[],?_,?_,?_,?_,I.dead _ hn,by simp⟩
  .grind [bB]
  .grind
  .grind
  .intro j k;have:idx (N++[([],0)]) j=idx N j:=by grind [idx,List.getElem?_append_left,List.getElem?_eq_none]
   unfold nx rf;grind
 .rw [show ((F.length:Int)==0)=false by simpa using d,b7];have l  :=by
   have:=Je (List.nodup_append.1 a).2.1 (m:=(List.range N.length).map Int.ofNat) λx hx=>by have:=(c x).1 (by simp [hx]);exact List.mem_map.2 ⟨x.toNat,by simp;omega,by simp;omega⟩
   simpa using this
  obtain ⟨x,b,h,p⟩:=arw d (by omega);rw [h,ah];have p2  :=(List.perm_middle.symm).trans (List.Perm.append_left A p);refine ⟨x,N,b,rfl,p2.nodup_iff.2 a,λj=>(p2.mem_iff).trans (c j),λ_ _=>⟨rfl,rfl⟩,I.dead x ?_,by omega⟩;grind
theorem aru{next:xb}{r:Int×List Nd×zl}{m:List (Int×Bool)}(hx:next.length<1099511627776):∀(q p:xb),next=p++q->∀(l:List Nd),(∀e∈q,0<=e.2/\e.2<l.length)->(∀j,0<=rf l j/\rf l j+q.length<1099511627776)->
  ∀n,q.length<n->∃l',aj (nC next r m) n (l,(p.length:Int))=some (r.1,l',r.2.2,some (l6 m r.1 true))/\l'.length=l.length/\(∀j,nx l' j=nx l j)/\∀j,rf l' j=rf l j+((q.map (·.2)).count j:Nat)
 |[],p,h,l,_,_,n,hn=>by
  obtain ⟨n,rfl⟩:∃k,n=k+1:=⟨n-1,by omega⟩;rw [ao];unfold nC;grind
 |e::q,p,h,l,hq,hb,n,hn=>by
  obtain ⟨n,rfl⟩:∃k,n=k+1:=⟨n-1,by omega⟩;rw [ao];unfold nC;have b:=hq e (by simp);have d:=hb e.2;dsimp only;rw [kY h,ca,oz h];simp;rw [BS b.1 b.2];simp;have hp:p.length<1099511627776:=by grind
  rw [mT (by omega),bB (by omega)];have a:∀j,nx (l.set e.2.toNat (nx l e.2,rf l e.2+1)) j=nx l j:=λj=>by grind [NQ]
  have c:∀j,rf (l.set e.2.toNat (nx l e.2,rf l e.2+1)) j=if j=e.2 then rf l j+1 else rf l j:=λj=>by grind [NU]
  obtain ⟨l',g,o,f,i⟩:=aru hx q (p++[e]) (by rw [h];simp) (l.set e.2.toNat (nx l e.2,rf l e.2+1)) (λx hx=>by
   grind) (λj=>by
   grind) n (by simp at hn;omega)
  refine ⟨l',?_,by grind,λj=>(f j).trans (a j),λj=>?_⟩
  .rw [show ((p.length+1:Nat))=((p++[e]).length) by simp];exact g
  grind
theorem aff{N:List Nd}{F A X T:zl}{W h:Nat}{y:List (Int×Bool)}{next:xb}(I:Inv N F [] A X T W)(hN:N.length<1099511627775)(hb:∀j,rf N j<549755813888)
  (q:∀i,eA (some y) i false=true->i∈A) (w:∀i∈A,rf N i=0->eA (some y) i false=true)
  (Q:CK next) (hW:h<=W) (hk:(h=0/\next=[])\/∃k,h=k+1/\next≠[]/\∀e∈next,At N A k e.2) (S:∀t∈T,t∈next.map (·.2)) (G H K:Int):
  ∃r d F' y' o,sN next G N H K F (some y)=some (r,d,F',some y')/\Inv d F' [] o X [r] W/\nx d r=next/\(∀j∈A,j∈o/\nx d j=nx N j)/\At d o h r/\
   (∀i,eA (some y') i false=true->i∈o)/\(∀i∈o,rf d i=0->eA (some y') i false=true)/\d.length<=N.length+1/\∀j,rf d j<=256+rf N j:=by
 have R:=Bn Q;have B:∀e∈next,e.2∈A:=by
  rcases hk with ⟨_,rfl⟩|⟨k,_,_,h⟩
  .intro e l;cases l
  .exact λe l=>(h e l).mem
 have hat:∀{d o},(∀j∈A,j∈o)->(∀j∈A,nx d j=nx N j)->∀r∈o,nx d r=next->At d o h r:=by
  intro d o C s r z hn;rcases hk with ⟨rfl,h⟩|⟨k,rfl,L,h⟩
  .exact ⟨z,by rw [hn,h]⟩
  .exact ⟨z,by rw [hn];exact L,by rw [hn];exact Q,λe l=>by rw [hn] at l;exact (h e l).grow C s⟩
 unfold sN;have hv:∀i:Int,0<=i->i<N.length->((0<rf N i\/eA (some y) i false=true)↔i∈A):=λi _ _=>by
  constructor
  .rintro (h|h)
   .by_cases ha:i∈A
    .exact ha
    .have:=I.dead i ha;omega
   .exact q i h
  .intro ha;have:=I.pos i;by_cases D:rf N i=0
   .exact .inr (w i ha D)
   .exact .inl (by omega)
 have hs:=XS (next:=next) hv (λi hi=>by obtain ⟨k,_,a⟩:=I.good i hi;have:=Bn a.OB;omega) (by omega) an 0 (by omega) (by show _<2^64;omega)
 have l:Cy next G N H K F (some y)=aj (iP next N (some y)) an ((0:Nat):Int):=rfl;rw [l];rcases hs with ⟨i,C,s,h3,n,g⟩|⟨C,s⟩
 .rw [C];refine ⟨i,N,F,y,A,rfl,⟨I.nd,I.rng,I.dV,I.dead,λj c D=>?_,I.dist,I.good⟩,g,λj c=>⟨c,rfl⟩,hat (λ_ h=>h) (λ_ _=>rfl) i s g,q,w,by omega,λj=>by omega⟩;have:=S j (I.top j c D);have:=I.led s (i:=j) (by unfold tg;rw [g];exact this);omega
 .rw [C];simp only [ah,b7];obtain ⟨i,v,E,g1,V,O,U,g5,g6⟩:=al2 I hN G H K (some y);rw [g1];simp only [ah];have hi:=(O i).1 (by simp);obtain ⟨x,hx⟩:=sM hi.1 hi.2;rw [hx];simp only [ah];have P4:i∉A:=λh=>(List.nodup_cons.1 V).1 (by simp [h]);have n1:∀j,nx (v.set i.toNat (next,0)) j=if j=i then next else nx N j:=λj=>by
   rw [NQ hi.1 hi.2];split
   .rfl
   next h=>exact (U j h).1
  have r1:∀j,rf (v.set i.toNat (next,0)) j=rf N j:=λj=>by
   rw [NU hi.1 hi.2];split
   next h=>rw [h,g5]
   next h=>exact (U j h).2
  obtain ⟨d,P,e2,e3,e4⟩:=aru (next:=next) (r:=(i,v,E)) (m:=y) (by omega) next [] rfl (v.set i.toNat (next,0)) (λe l=>by
   rw [qM];exact (O _).1 (by simp [B e l])) (λj=>by
   rw [r1];have:=I.pos j;have:=hb j;omega) an (by show _<2^64;omega)
  have P:aj (nC next (i,v,E) y) an (v.set i.toNat (next,0),0)=some (i,d,E,some (l6 y i true)):=P;rw [P];have p:∀j∈A,nx d j=nx N j:=λj c=>by rw [e3,n1,dk (λh=>P4 (by rw [<-h];exact c))]
  have u:nx d i=next:=by rw [e3,n1,du rfl]
  have J:∀j,rf d j=rf N j+((next.map (·.2)).count j:Nat):=λj=>by rw [e4,r1]
  have Y:∀j∈A,tg d j=tg N j:=λj c=>by unfold tg;rw [p j c]
  have Z:A.flatMap (tg d)=A.flatMap (tg N):=by rw [List.flatMap_def,List.flatMap_def,qQ Y]
  have cI:∀j,rf d j=(((i::A).flatMap (tg d)++X).count j:Nat):=λj=>by rw [J,I.dV,qO,Z,cx,qd (l₁:=tg d i)];unfold tg;rw [u];omega
  refine ⟨i,d,E,l6 y i true,i::A,rfl,⟨?_,?_,cI,?_,?_,?_,?_⟩,u,λj c=>⟨by simp [c],p j c⟩,hat (λj c=>by simp [c]) p i (by simp) u,?_,?_,?_,?_⟩
  .simp only [ko];exact V
  .intro j;simp only [ko];rw [e2,qM];exact O j
  .intro j c;simp at c;rw [J,I.dead j c.2,List.count_eq_zero.2]
   .rfl
   .intro h;obtain ⟨e,l,rfl⟩:=List.mem_map.1 h;exact c.2 (B e l)
  .intro j c D;rcases List.mem_cons.1 c with rfl|c
   .simp
   .have:=J j;have:=I.pos j;have h:=S j (I.top j c (by omega));have:=List.count_pos_iff.2 h;omega
  .intro a ha b M f;rcases List.mem_cons.1 ha with n|n <;> rcases List.mem_cons.1 M with g|g
   .rw [n,g]
   .rw [n,u,p b g] at f;exact absurd f.symm (s b g (by have:=I.range g;omega) (I.range g).2)
   .rw [g,u,p a n] at f;exact absurd f (s a n (by have:=I.range n;omega) (I.range n).2)
   .rw [p a n,p b g] at f;exact I.dist a n b g f
  .intro j c;rcases List.mem_cons.1 c with rfl|c
   .exact ⟨h,hW,hat (λj c=>by simp [c]) p _ (by simp) u⟩
   .obtain ⟨k,hk,a⟩:=I.good j c;exact ⟨k,hk,a.grow (λj c=>by simp [c]) p⟩
  .intro j c;rcases Ub.1 c with rfl|c
   .simp
   .simp [q j c]
  .intro j c D;rw [Ub];rcases List.mem_cons.1 c with rfl|c
   .exact .inl rfl
   .have:=I.pos j;grind
  .grind
  grind [List.count_le_length]
end Df
namespace Df
theorem aqA{x:xb}(hx:CK x){b r:Int}(hb:0<=b/\b<256)(K:xb->Option ρ):
  ∃y,CK y/\y≠[]/\(∀e,e∈y↔e=(b,r)\/(e∈x/\e.1≠b))/\
   ((cu x b).bind λd=>
    bif d.2 then ((idx x d.1).bind λ_=>K (List.set x (Int.toNat d.1) (b,r)))
    else (aN (CF d.1 (List.length x))<|aN (aH (List.length x+List.length ([(b,r)]:xb)) 16)<|K (nc x d.1 ([(b,r)]:xb))))=K y:=by
 have hl:=Bn hx;obtain ⟨p,q,e,hp,o,h⟩:=an8 b hx (by omega);rw [arK,h];simp;have f:=hx;rw [e] at f;have g:=List.pairwise_append.1 f.1;have mk:∀q':xb,q'.Pairwise (λa b=>a.1<b.1)->(∀e∈q',b<e.1)->(∀e∈q',e∈q)->CK (p++(b,r)::q'):=by
  intro q' n m k;refine ⟨List.pairwise_append.2 ⟨g.1,List.pairwise_cons.2 ⟨m,n⟩,?_⟩,?_⟩
  .intro u c v i;rcases List.mem_cons.1 i with rfl|i
   .exact hp u c
   .exact g.2.2 u c v (k v i)
  .intro u c;rcases List.mem_append.1 c with c|c
   .exact f.2 u (by simp [c])
   .rcases List.mem_cons.1 c with rfl|c
    .exact hb
    .exact f.2 u (by simp [k u c])
 have out:∀q':xb,(∀e∈q',b<e.1)->aN (CF (p.length) (List.length x)) (aN (aH (List.length x+List.length ([(b,r)])) 16) (K (nc x (p.length) [(b,r)])))=K (p++(b,r)::q):=by rw [aaK.2 (by rw [e];simp;omega),eC (by simp;omega) (by simp;omega),aO,aO];simp_all [nc]
 cases q with
 |nil=>
  refine ⟨p++[(b,r)],mk [] .nil (by simp) (by simp),by simp,λu=>?_,?_⟩
  .grind
  .exact out [] (by simp)
 |cons z q=>
  have l:=List.pairwise_cons.1 g.2.1;by_cases j:z.1=b
  .refine ⟨p++(b,r)::q,mk q l.2 (λu c=>by grind) (by simp+contextual),by simp,λu=>?_,?_⟩
   .grind
   .rw [oz e];simp_all
  .refine ⟨p++(b,r)::z::q,mk (z::q) g.2.1 (λu c=>by
    grind) (λ_ h=>h),by simp,λu=>?_,?_⟩
   .grind
   .have:((List.head? (z::q)).map (·.1)==some b)=false:=by simp [j]
    rw [this,b7];exact out [] (by simp)
abbrev SP:=Int×zl×Int×List Nd×Int×Int×zl×Option (List (Int×Bool))
abbrev RP:=Int×List Nd×zl×Option (List (Int×Bool))
def PUT(k:SP->Option RP)(s:SP):Option RP:=mQ k s.1 s.2.1 s.2.2.1 s.2.2.2.1 s.2.2.2.2.1 s.2.2.2.2.2.1 s.2.2.2.2.2.2.1 s.2.2.2.2.2.2.2
theorem put_eq(at_:Int)(w:zl)(a:Int)(N:List Nd)(b c:Int)(F:zl)(y:Option (List (Int×Bool))):y9 at_ w a N b c F y=aj PUT an (at_,w,a,N,b,c,F,y):=rfl
theorem aoW(x:xb)(k:Int)(e:Int×Int)(K:xb->Option ρ):(We 16 x k [e]).bind K=aN (CF k x.length) (aN (aH (x.length+[e].length) 16) (K (nc x k [e]))):=by show (aN (CF k x.length&&aH (x.length+[e].length) 16) (some (nc x k [e]))).bind K=_;cases CF k x.length <;> cases aH (x.length+[e].length) 16 <;> rfl
theorem ark{l:xb}(h:l.length<1000000000):fY l=some l:=by grind [fY,So.aO,So.eC]
def alh(N:List Nd)(_F A X:zl)(W:Nat)(w:zl)(at_:Int)(res:Option RP):Prop:=
 ∃r N' F' y' A',res=some (r,N',F',some y')/\Inv N' F' [] A' X [r] W/\(∀j∈A,j∈A'/\nx N' j=nx N j)/\At N' A' w.length r/\
  (∀i,eA (some y') i false=true->i∈A')/\(∀i∈A',rf N' i=0->eA (some y') i false=true)/\N'.length<=N.length+(w.length+1)/\(∀j,rf N' j<=256*((w.length:Int)+1)+rf N j)/\
  ∀v,v.length=w.length->(acc N' v r↔v=w\/(at_≠ -1/\acc N v at_))
theorem aj5{W:Nat}(s u B:Int){X:zl}:∀(w:zl) (at_:Int) (N:List Nd) (F A:zl) (y:List (Int×Bool)),(∀b∈w,0<=b/\b<256)->w.length<=W->(at_= -1\/At N A w.length at_)->Inv N F [] A X [] W->
  (∀i,eA (some y) i false=true->i∈A)->(∀i∈A,rf N i=0->eA (some y) i false=true)->N.length+(w.length+1)<1099511627775->(∀j,rf N j+256*((w.length:Int)+1)<549755813888)->∀n,w.length<n->
  alh N F A X W w at_ (aj PUT n (at_,w,s,N,u,B,F,some y))
 |[],at_,N,F,A,y,_,hW,hat,I,hy1,hy2,hN,hrf,n,hn=>by
  obtain ⟨n,rfl⟩:∃k,n=k+1:=⟨n-1,by simp at hn;omega⟩;rw [ao];unfold PUT mQ;simp only [qf];rw [show (((0:Nat):Int)==0)=true from rfl,ca];obtain ⟨r,U,F',V,A',h1,h2,K,h4,h5,h6,h7,h8,Q⟩:=aff (h:=0) (next:=[]) I (by simp at hN;omega) (λj=>by have:=hrf j;simp at this;omega) hy1 hy2 ⟨.nil,by simp⟩ (by omega) (.inl ⟨rfl,rfl⟩) (by simp) s u B;rw [h1];refine ⟨r,U,F',V,A',rfl,h2,h4,h5,h6,h7,by simp;omega,λj=>by have:=Q j;simp;omega,λv C=>?_⟩;have:v=[]:=List.length_eq_zero_iff.1 C;subst this;simp [acc]
 |b::w,at_,N,F,A,y,hw,hW,hat,I,hy1,hy2,hN,hrf,n,hn=>by
  obtain ⟨n,rfl⟩:∃k,n=k+1:=⟨n-1,by simp at hn;omega⟩;rw [ao];simp only [eb] at hN hW hrf hn hat
  have hb:=hw b (by simp)
  -- the rest of the word, and the node
  have rest:∀(g:Int) (x:xb),CK x->(∀e∈x,At N A w.length e.2)->(g= -1\/At N A w.length g)->(g≠ -1->(b,g)∈x)->(∀e∈x,e.1=b->g≠ -1)->
    (at_≠ -1->nx N at_=x)->(at_= -1->x=[])->Cb (s,N,u,B,F) at_ b=some g->
    alh N F A X W (b::w) at_ (Al (aj PUT n) at_ (b::w) s N u B F (some y) x):=by
   intro g x hx hk ha2 G O E M hto;unfold Al;rw [show idx (b::w) 0=some b from rfl];simp only [ah];rw [wO.2 (by simp;omega),aO,asb,hto];simp only [ah];rw [show aV (b::w) 1 ((List.length (b::w):Nat):Int)=w by simp [aV]];obtain ⟨r,T,F1,y1,A1,h1,h2,K,h4,h5,h6,h7,h8,Q⟩:=aj5 s u B w g N F A y (λc hc=>hw c (by simp [hc])) (by omega) ha2 I hy1 hy2 (by omega) (λj=>by have:=hrf j;omega) n (by omega);rw [h1];simp only [ah,aK,aoW];obtain ⟨z,hz,Z,l,Y⟩:=aqA hx hb (r:=r) (Ae s u B (r,T,F1,some y1));rw [Y];unfold Ae;have kz:∀e∈z,At T A1 w.length e.2:=by
    intro e f;rcases (l e).1 f with rfl|⟨f,_⟩
    .exact h4
    .exact (hk e f).grow (λj p=>(K j p).1) (λj p=>(K j p).2)
   obtain ⟨r',U,F',V,A',g1,g2,S,g4,g5,g6,g7,g8,g9⟩:=aff (h:=w.length+1) (next:=z) h2 (by omega) (λj=>by have:=hrf j;have:=h8 j;omega) h5 h6 hz hW (.inr ⟨w.length,rfl,Z,kz⟩) (λt ht=>by simp only [mi] at ht;subst ht;exact List.mem_map.2 ⟨(b,t),(l _).2 (.inl rfl),rfl⟩) s u B
   simp only [];rw [g1];refine ⟨r',U,F',V,A',rfl,g2,λj p=>⟨(g4 j (K j p).1).1,by rw [(g4 j (K j p).1).2,(K j p).2]⟩,g5,g6,g7,by simp;omega,λj=>by have:=h8 j;have:=g9 j;simp;omega,?_⟩;intro v C;cases v with
   |nil=>simp at C
   |cons c v=>
    have C:v.length=w.length:=by simpa using C
    have R:∀e∈z,(acc U v e.2↔acc T v e.2):=λe f=>acc.same (λj p=>(g4 j p).2) (kz e f) C;have s2:∀e∈x,(acc T v e.2↔acc N v e.2):=λe f=>acc.same (λj p=>(K j p).2) (hk e f) C;constructor
    .rintro ⟨e,f,o,ha⟩;rw [S] at f;rw [R e f] at ha;rcases (l e).1 f with rfl|⟨D,P⟩
     .rcases (Q v C).1 ha with rfl|⟨q,ha⟩
      .left;rw [<-o]
      .right;have m:at_≠ -1:=λh=>by have:=G q;rw [M h] at this;cases this
       exact ⟨m,(b,g),by rw [E m];exact G q,o,ha⟩
     .right;have m:at_≠ -1:=λh=>by rw [M h] at D;cases D
      exact ⟨m,e,by rw [E m];exact D,o,(s2 e D).1 ha⟩
    .rintro (h|⟨m,e,f,o,ha⟩)
     .cases h;refine ⟨(b,r),by rw [S];exact (l _).2 (.inl rfl),rfl,?_⟩;rw [R _ ((l _).2 (.inl rfl))];exact (Q w rfl).2 (.inl rfl)
     .rw [E m] at f;by_cases J:e.1=b
      .have q:=O e f J;have  :=aa6 hx f (G q) J;subst this;refine ⟨(b,r),by rw [S];exact (l _).2 (.inl rfl),o,?_⟩;rw [R _ ((l _).2 (.inl rfl))];exact (Q v C).2 (.inr ⟨q,ha⟩)
      .have L:=(l e).2 (.inr ⟨f,J⟩);exact ⟨e,by rw [S];exact L,o,(R e L).2 ((s2 e f).2 ha)⟩
  show alh N F A X W (b::w) at_ (mQ (aj PUT n) at_ (b::w) s N u B F (some y));unfold mQ;simp only [aK];rw [show ((List.length (b::w):Int)==0)=false by simp;omega,b7];by_cases q:at_= -1
  .subst q;rw [show ((-1) != -1)=false from rfl,b7];exact rest (-1) [] ⟨.nil,by simp⟩ (by simp) (.inl rfl) (by simp) (by simp) (by simp) (by simp) rfl
  .have a:=hat.resolve_left q;have hm:=I.range a.mem;rw [show (at_ != -1)=true by grind,ca,BS hm.1 hm.2];simp;have hl:=Bn a.OB;rw [ark (by omega)];rcases an4 (d:=(s,N,u,B,F)) b hm.1 hm.2 a.OB (by simp;omega) with ⟨e,f,H,h⟩|⟨P,h⟩
   .have ae:=a.2.2.2 e f;have hpos:=(I.range ae.mem).1;exact rest e.2 (nx N at_) a.OB a.2.2.2 (.inr ae) (λ_=>by rw [<-H];exact f) (λ_ _ _=>by omega) (λ_=>rfl) (λh=>absurd h q) h
   .exact rest (-1) (nx N at_) a.OB a.2.2.2 (.inl rfl) (by simp) (λe f H=>absurd H (P e f)) (λ_=>rfl) (λh=>absurd h q) h
end Df
namespace Df
abbrev SL:=Int×Int×List Nd×Int×Int×zl×Option (List (Int×Bool))
abbrev RL:=List Nd×zl
def Ph(k:SL->Option RL)(s:SL):Option RL:=ss k s.1 s.2.1 s.2.2.1 s.2.2.2.1 s.2.2.2.2.1 s.2.2.2.2.2.1 s.2.2.2.2.2.2
theorem ak0(i a:Int)(N:List Nd)(b c:Int)(F:zl)(y:Option (List (Int×Bool))):ve i a N b c F y=aj Ph an (i,a,N,b,c,F,y):=rfl
def Leaves(N:List Nd)(Z A X:zl)(W:Nat)(res:Option RL):Prop:=
 ∃N' F' A',res=some (N',F')/\Inv N' F' Z A' X [] W/\N'.length=N.length/\(∀j∈A',j∈A/\nx N' j=nx N j)/\∀j,rf N' j<=rf N j
theorem Inv.abO{N:List Nd}{F Z A X T:zl}{W:Nat}(I:Inv N F Z A X T W):F.length<=N.length:=by
 have:=Je (List.nodup_append.1 (List.nodup_append.1 I.nd).1).2.1 (m:=(List.range N.length).map Int.ofNat) λx hx=>by have:=(I.rng x).1 (by simp [hx]);exact List.mem_map.2 ⟨x.toNat,by simp;omega,by simp;omega⟩
 simpa using this
theorem Inv.perm{N:List Nd}{F Z A X a T:zl}{W:Nat}(I:Inv N F Z A X T W)(p:a.Perm X):Inv N F Z A a T W:=
 ⟨I.nd,I.rng,λi=>by rw [I.dV i,qd,qd,p.count_eq],I.dead,I.top,I.dist,I.good⟩
theorem UH{W k n:Nat}{t v w i:Int}{y:Option (List (Int×Bool))}{Z X:zl}{x:Nd}
  (ih:x.1≠[]->∀(i:Int) (N:List Nd) (F Z A X:zl),At N A k i->Inv N F Z A (i::X) [] W->N.length<1099511627775->(∀j,rf N j<549755813888)->Leaves N Z A X W (aj Ph n (i,t,N,v,w,F,y))) (hx:x.1.length<1099511627776):
  ∀(q p:xb),x.1=p++q->∀(l:List Nd) (F A:zl),(∀e∈q,e.2∈A->At l A k e.2)->Inv l F (i::Z) A (q.map (·.2)++X) [] W->l.length<1099511627775->(∀j,rf l j<549755813888)->∀m,q.length<m->
   Leaves l Z A X W (aj (pR (aj Ph n) i t v w y x) m (l,F,(p.length:Int)))
 |[],p,h,l,F,A,_,I,hl,hr,m,hm=>by
  obtain ⟨m,rfl⟩:∃k,m=k+1:=⟨m-1,by omega⟩;rw [ao];unfold pR;dsimp only;rw [vT h,b7];have hi  :=(I.rng i).1 (by simp);have P4:i∉A:=λh=>by have:=(List.nodup_append.1 I.nd).2.2 i (by simp [h]) i (by simp);exact this rfl
  rw [BS hi.1 hi.2,ah];obtain ⟨o,J,T⟩:=D8 i (h:=F) (by have:=I.abO;omega);rw [J,ah];have E:∀j,j≠i->nx (l.set i.toNat ([],0)) j=nx l j:=λj h=>by rw [NQ hi.1 hi.2,dk h]
  have d  :=λj h=>E j λe=>P4 (e▸h);have g:∀j,rf (l.set i.toNat ([],0)) j=rf l j:=λj=>by
   rw [NU hi.1 hi.2];split
   next h=>rw [h,I.dead i P4]
   .rfl
  have S:∀j∈A,tg (l.set i.toNat ([],0)) j=tg l j:=λj c=>by unfold tg;rw [d j c]
  have D:A.flatMap (tg (l.set i.toNat ([],0)))=A.flatMap (tg l):=by grind [List.map_congr_left]
  have pp:(A++o++Z).Perm (A++F++(i::Z)):=by grind
  refine ⟨l.set i.toNat ([],0),o,A,rfl,⟨pp.nodup_iff.2 I.nd,λj=>?_,λj=>?_,λj c=>?_,λj c h=>?_,λa ha b hb h=>?_,λj c=>?_⟩,by simp,λj c=>⟨c,d j c⟩,λj=>by rw [g];omega⟩
  .rw [pp.mem_iff,I.rng,qM]
  .rw [g,D,I.dV];rfl
  .rw [g,I.dead j c]
  .rw [g] at h;exact I.top j c h
  .rw [d a ha,d b hb] at h;exact I.dist a ha b hb h
  .obtain ⟨h,H,a⟩:=I.good j c;exact ⟨h,H,a.grow (λ_ h=>h) d⟩
 |e::q,p,h,l,F,A,ha,I,hl,hr,m,hm=>by
  obtain ⟨m,rfl⟩:∃k,m=k+1:=⟨m-1,by omega⟩;rw [ao];have r:=I.ext (i:=e.2) (by simp);obtain ⟨C,o,R,K,B,Y,s,V⟩:=ih (by rw [h];simp) e.2 l F (i::Z) A _ (ha e (by simp) r) I hl hr;have hp:p.length<1099511627776:=by grind
  obtain ⟨N2,P,Q,O,M,g3,L,g5⟩:=UH ih hx q (p++[e]) (by rw [h];simp) C o R (λz G f=>by
   have:=ha z (by simp [G]) (s _ f).1;exact this.da (λj c _=>(s j c).2) (λj c _ u U _=>by
    have:u∈nx C j:=by grind
    exact B.closed c this) f) B (by omega) (λj=>by grind) m (by simp at hm;omega)
  refine ⟨N2,P,Q,?_,M,by omega,λj c=>⟨(s j (L j c).1).1,by grind⟩,λj=>by grind⟩;unfold pR;dsimp only;rw [kY h,ca,oz h];simp;rw [K];rw [mT (by omega),show ((p.length+1:Nat))=((p++[e]).length) by simp];exact O
theorem akG{W:Nat}{J K L:Int}{y:Option (List (Int×Bool))}:∀(h n:Nat),h<n->∀(i:Int) (N:List Nd) (F Z A X:zl),At N A h i->Inv N F Z A (i::X) [] W->N.length<1099511627775->(∀j,rf N j<549755813888)->Leaves N Z A X W (aj Ph n (i,J,N,K,L,F,y)):=by
 intro h
 induction h with
 |zero=>?_
 |succ k ih=>?_
 all_goals
  intro n hn i N F Z A X a I hN T;obtain ⟨n,rfl⟩:∃k,n=k+1:=⟨n-1,by omega⟩;rw [ao];unfold Ph ss;dsimp only;have hi:=I.range a.mem;have P:0<rf N i:=by rw [I.dV];have:0<(A.flatMap (tg N)++i::X).count i:=List.count_pos_iff.2 (by simp);omega
  rw [BS hi.1 hi.2];simp only [ah];rw [bB (x:=rf N i-1) (by have:=T i;omega)];have n1:nx (N.set i.toNat (nx N i,rf N i-1))=nx N:=by
   funext j;rw [NQ hi.1 hi.2];split
   next h=>rw [h]
   .rfl
  have r1:∀j,rf (N.set i.toNat (nx N i,rf N i-1)) j=if j=i then rf N i-1 else rf N j:=λj=>by rw [NU hi.1 hi.2]
  have l1:(N.set i.toNat (nx N i,rf N i-1)).length=N.length:=by simp
  have t1:tg (N.set i.toNat (nx N i,rf N i-1))=tg N:=by unfold tg;rw [n1]
  have c1:∀j,rf (N.set i.toNat (nx N i,rf N i-1)) j=((A.flatMap (tg N)++X).count j:Nat):=λj=>by
   rw [r1];have l:=I.dV j;rw [qd,List.count_cons] at l;rw [qd];split
   next h=>subst h;simp at l;omega
   .rename_i h;have:(i==j)=false:=by simp;exact λe=>h e.symm
    rw [this] at l;simp at l;omega
  rw [BS (N:=N.set i.toNat (nx N i,rf N i-1)) hi.1 (by rw [l1];exact hi.2)];simp only [ah];rw [r1,du rfl,n1];have d:∀j,nx (N.set i.toNat (nx N i,rf N i-1)) j=nx N j:=λj=>by rw [n1]
  generalize N.set i.toNat (nx N i,rf N i-1)=m at*;by_cases O:0<rf N i-1
  .rw [show decide (0<rf N i-1)=true by simpa using O,ca];refine ⟨m,F,A,rfl,⟨I.nd,λj=>by rw [l1];exact I.rng j,λj=>by rw [t1];exact c1 j,λj c=>?_,λj c h=>?_,λu z v w h=>?_,λj c=>?_⟩,l1,λj c=>⟨c,d j⟩,λj=>by rw [r1];split <;> rename_i h <;> first|(rw [h];omega)|omega⟩
   .rw [r1,dk (λh=>c (by rw [h];exact a.mem))];exact I.dead j c
   .rw [r1] at h;split at h
    .omega
    .exact I.top j c h
   .rw [n1] at h;exact I.dist u z v w h
   .obtain ⟨k,hk,a⟩:=I.good j c;exact ⟨k,hk,a.grow (λ_ h=>h) λj _=>d j⟩
  .rw [show decide (0<rf N i-1)=false by simpa using O,b7];have h1:rf N i=1:=by omega
   have H:(A.flatMap (tg N)++X).count i=0:=by have:=c1 i;rw [r1,du rfl] at this;omega
   have B:=List.count_eq_zero.1 H;have o:A.Perm (i::A.erase i):=List.perm_cons_erase a.mem;have r:A.Nodup:=(List.nodup_append.1 (List.nodup_append.1 I.nd).1).1;have E  :=(List.nodup_cons.1 (o.nodup_iff.1 r)).1;have g:∀j,j∈A.erase i->j∈A:=λj c=>List.mem_of_mem_erase c;have M:∀j,j∈A->j≠i->j∈A.erase i:=λj c h=>(List.mem_erase_of_ne h).2 c;have pp:(A.erase i++F++(i::Z)).Perm (A++F++Z):=by refine List.perm_middle.trans ?_;rw [cx,cx];exact (List.Perm.append_right (F++Z) o).symm
   have S:∀{h:Nat} {j:Int},At N A h j->j∈A.erase i->At m (A.erase i) h j:=λb hb=>b.da (λj _ _=>d j) (λj _ c e G f=>M _ f λh=>B (by simp;exact .inl ⟨j,c,List.mem_map.2 ⟨e,G,h⟩⟩)) hb
   have I1:Inv m F (i::Z) (A.erase i) ((nx N i).map (·.2)++X) [] W:=⟨pp.nodup_iff.2 I.nd,λj=>by rw [pp.mem_iff,I.rng,l1],λj=>by
     rw [c1,t1];have:=(o.flatMap_right (tg N)).count_eq j;rw [qO,qd] at this;rw [qd,qd,qd,this];unfold tg;omega,λj c=>by
     rw [r1];split
     .omega
     next h=>exact I.dead j λD=>c (M j D h),λj c h=>by
     rw [r1,dk (λh=>E (by have Q:=c;rw [h] at Q;exact Q))] at h;exact I.top j (g j c) h,λu z v w h=>by
     rw [n1] at h;exact I.dist u (g u z) v (g v w) h,λj c=>by
     obtain ⟨k,hk,b⟩:=I.good j (g j c);grind⟩
   have hl:=Bn a.OB;obtain ⟨s,C,t⟩:∃s,(∀e∈nx N i,At N A s e.2)/\(nx N i≠[]->∀(i:Int) (N:List Nd) (F Z A X:zl),At N A s i->Inv N F Z A (i::X) [] W->N.length<1099511627775->(∀j,rf N j<549755813888)->Leaves N Z A X W (aj Ph n (i,J,N,K,L,F,y))):=by
    first
    |exact ⟨0,by rw [a.2];simp,λh=>absurd a.2 h⟩
    |exact ⟨k,a.2.2.2,λ_=>ih n (by omega)⟩
   obtain ⟨Y,F',A',V,U,g3,R,g5⟩:=UH (x:=(nx N i,rf N i-1)) (p:=[]) (q:=nx N i) t (by simp;omega) rfl m F (A.erase i) (λe G f=>S (C e G) f) I1 (by omega) (λj=>by grind) an (by show _<2^64;omega);exact ⟨Y,F',A',V,U,by omega,λj c=>⟨g j (R j c).1,by rw [(R j c).2,n1]⟩,λj=>by grind⟩
end Df
namespace Df
abbrev D:=Int×List Nd×Int×Int×zl
structure Good(d:D)(W m:Nat)(A:zl):Prop where
 wide:d.1=W
 w1:1<=W/\W<=64
 m4:m<=2097152
 inv:Inv d.2.1 d.2.2.2.2 [] A (if d.2.2.1= -1 then [] else [d.2.2.1]) [] W
 root:(d.2.2.1= -1/\A=[])\/At d.2.1 A W d.2.2.1
 long:d.2.1.length<=66*m
 refs:∀j,rf d.2.1 j<=16896*(m:Int)
 many:d.2.2.2.1=m
def GG(d:D)(v:zl):Prop:=d.2.2.1≠ -1/\acc d.2.1 v d.2.2.1
theorem UI{W:Nat}(h:1<=W/\W<=64):OM (W:Int)=some (((W:Int),[],-1,0,[]),0):=by grind [OM,aK,decide]
theorem akO{W:Nat}(h:1<=W/\W<=64):Good ((W:Int),[],-1,0,[]) W 0 [] where
 wide:=rfl
 w1:=h
 m4:=by omega
 inv:=⟨by simp,λi=>by simp;try omega,λi=>by simp [rf,idx],λi _=>by simp [rf,idx],by simp,by simp,by simp⟩
 root:= .inl ⟨rfl,rfl⟩
 long:=by simp
 refs:=λj=>by simp [rf,idx]
 many:=rfl
theorem acF{d:D}{F Z A X T:zl}{W:Nat}(I:Inv d.2.1 F Z A X T W){w:zl}(v:w.length<1099511627776):∀(q p:zl),w=p++q->∀at_:Int,(at_= -1\/∃h,At d.2.1 A h at_)->∀n,q.length<n->
  ∃r,aj (u7 d w) n (at_,(p.length:Int))=some (((w.length:Int)==d.1&&decide (0<d.1))&&r)/\(∀h,At d.2.1 A h at_->q.length=h->(r=true↔acc d.2.1 q at_))/\(at_= -1->r=false)
 |[],p,h,at_,ha,n,hn=>by
  obtain ⟨n,rfl⟩:∃k,n=k+1:=⟨n-1,by omega⟩;rw [ao];unfold u7;dsimp only;rw [vT h,b7];refine ⟨at_ != -1,rfl,λh a _=>?_,λh=>by simp [h]⟩;have:=I.range a.mem;simp [acc,iff_true,bne_iff_ne];omega
 |b::q,p,h,at_,ha,n,hn=>by
  obtain ⟨n,rfl⟩:∃k,n=k+1:=⟨n-1,by omega⟩;rw [ao];have hp:p.length<1099511627776:=by grind
  have go:∀c:Int,(c= -1\/∃h,At d.2.1 A h c)->Cb d at_ b=some c->(∀h,At d.2.1 A (h+1) at_->(c= -1/\∀e∈nx d.2.1 at_,e.1≠b)\/((b,c)∈nx d.2.1 at_/\At d.2.1 A h c))->(at_= -1->c= -1)->
    ∃r,u7 d w (aj (u7 d w) n) (at_,(p.length))=some (((w.length)==d.1&&decide (0<d.1))&&r)/\(∀h,At d.2.1 A h at_->(b::q).length=h->(r=true↔acc d.2.1 (b::q) at_))/\(at_= -1->r=false):=by
   intro c o f hk m;obtain ⟨r,y,x,u⟩:=acF I v q (p++[b]) (by rw [h];simp) c o n (by simp at hn;omega);refine ⟨r,?_,λk a t=>?_,λh=>u (m h)⟩
   .unfold u7;dsimp only;rw [kY h,ca,oz h];simp;rw [f];rw [mT (by omega),show ((p.length+1:Nat))=((p++[b]).length) by simp];exact y
   .obtain ⟨k,rfl⟩:∃j,k=j+1:=⟨k-1,by simp at t;omega⟩;rcases hk k a with ⟨rfl,l⟩|⟨g,z⟩
    .rw [u rfl];simp;rintro ⟨e,g,i,_⟩;exact l e g i
    .rw [x k z (by simpa using t),al6 a.2.2.1 g rfl]
  by_cases s:at_= -1
  .subst s;exact go (-1) (.inl rfl) rfl (λh a=>by have:=I.range a.mem;omega) (λ_=>rfl)
  .obtain ⟨k,a⟩:=ha.resolve_left s;have hm:=I.range a.mem;have hl:=Bn a.OB;rcases an4 b hm.1 hm.2 a.OB (by omega) with ⟨e,g,i,f⟩|⟨l,f⟩
   .obtain ⟨k,rfl⟩:∃j,k=j+1:=by
     cases k with
     |zero=>rw [a.2] at g;cases g
     |succ j=>exact ⟨j,rfl⟩
    exact go e.2 (.inr ⟨k,a.2.2.2 e g⟩) f (λC B=> .inr ⟨by rw [<-i];exact g,B.2.2.2 e g⟩) (λh=>absurd h s)
   grind
theorem ah6{d:D}{W:Nat}{A:zl}(G:Good d W m A){w:zl}(b:w.length<1099511627776):∃r,rE d w=some r/\(r=true↔w.length=W/\GG d w):=by
 have c:=G.root;obtain ⟨r,f,e,g⟩:=acF G.inv b w [] rfl d.2.2.1 (by grind) an (by show _<2^64;omega);refine ⟨_,f,?_⟩;have:=G.w1;rw [G.wide];simp;constructor
 .rintro ⟨⟨hl,_⟩,a⟩;have hl:w.length=W:=by omega
  refine ⟨hl,?_⟩;rcases c with h|h
  .grind
  .have:=G.inv.range h.mem;exact ⟨by omega,(e W h hl).1 a⟩
 .rintro ⟨hl,i,ha⟩;grind
theorem asu{l:List Nd}(h:l.length<1000000000):dT l=some l:=by grind [dT,So.aO,So.eC]
theorem aiI{d:D}{W:Nat}{A:zl}(G:Good d W m A)(hm:m<2097152){w:zl}(hb:∀b∈w,0<=b/\b<256)(hl:w.length<1099511627776):
  (w.length≠W/\fT d w=some (d,false,1))\/(w.length=W/\GG d w/\fT d w=some (d,false,0))\/
  (w.length=W/\ ¬GG d w/\∃d' y,fT d w=some (d',true,0)/\Good d' W (m+1) y/\∀v,v.length=W->(GG d' v↔v=w\/GG d v)):=by
 have hW:=G.w1;obtain ⟨r,hr,C⟩:=ah6 G hl;by_cases f:¬w.length=W
 .left;refine ⟨f,?_⟩;unfold fT;simp only [aK];rw [G.wide,show ((w.length:Int) != (W:Int))=true by simp only [bne_iff_ne,ne_eq];omega];rfl
 replace f:w.length=W:=Decidable.not_not.1 f;right;have pre:fT d w=(rE d w).bind λP=>bif P then (some (d,false,0)) else ((dT d.2.1).bind λO=>
   (bz d.2.2.2.2).bind λM=>
   (y9 d.2.2.1 w d.1 O d.2.2.1 d.2.2.2.1 M (some []:(Option (List (Int×Bool))))).bind λc=>
   (idx c.2.1 c.1).bind λI=>
   (idx c.2.1 c.1).bind λH=>
   bif d.2.2.1 != (-1) then    (ve d.2.2.1 d.1 (List.set c.2.1 (Int.toNat c.1) (H.1,(i64.wrap (I.2+1)))) c.1 d.2.2.2.1 c.2.2.1 c.2.2.2).bind λB=>
   Cq d c B.1 B.2
   else    Cq d c (List.set c.2.1 (Int.toNat c.1) (H.1,(i64.wrap (I.2+1)))) c.2.2.1):=by
  unfold fT;simp only [aK];rw [G.wide,show ((w.length:Int) != (W:Int))=false by simp;omega,show ((W:Int)==0)=false by simp;omega];rfl
 rw [pre,hr];simp only [ah];by_cases ht:GG d w
 .left;exact ⟨f,ht,by rw [C.2 ⟨f,ht⟩];rfl⟩
 right;refine ⟨f,ht,?_⟩;have Q:r=false:=by rw [<-u9];intro h;exact ht (C.1 h).2
 rw [Q,b7];have hN:=G.long;have S:=G.refs;have hF:=G.inv.abO;rw [asu (by omega),So.ah,So.Xc (by omega),So.ah];have s:d.2.2.1= -1\/At d.2.1 A w.length d.2.2.1:=by
  rcases G.root with h|h
  .exact .inl h.1
  .exact .inr (by rw [f];exact h)
 obtain ⟨r,g,V,y',y,h1,o,h3,T,h5,h6,h7,h8,h9⟩:=aj5 (W:=W) d.1 d.2.2.1 d.2.2.2.1 w d.2.2.1 d.2.1 d.2.2.2.2 A [] hb (by omega) s G.inv (λi h=>by simp [eA,pJ] at h) (λi hi z=>absurd (G.inv.top i hi z) (by simp)) (by omega) (λj=>by have:=S j;omega) an (by show _<2^64;omega);rw [put_eq,h1];simp only [ah];have E:=T.mem;have n:=o.range E;rw [BS n.1 n.2];simp only [ah];have hrr:=h8 r;have Z:=S r;have Y:=o.pos r;rw [bB (x:=rf g r+1) (by omega)];have n1:nx (g.set r.toNat (nx g r,rf g r+1))=nx g:=by
  funext j;rw [NQ n.1 n.2];split
  next h=>rw [h]
  .rfl
 have r1:∀j,rf (g.set r.toNat (nx g r,rf g r+1)) j=if j=r then rf g r+1 else rf g j:=λj=>by rw [NU n.1 n.2]
 have l1:(g.set r.toNat (nx g r,rf g r+1)).length=g.length:=by simp
 have t1:tg (g.set r.toNat (nx g r,rf g r+1))=tg g:=by unfold tg;rw [n1]
 have q:∀j,nx (g.set r.toNat (nx g r,rf g r+1)) j=nx g j:=λj=>by rw [n1]
 generalize g.set r.toNat (nx g r,rf g r+1)=t at*
 -- one more leads to the new root
 have K:Inv t V [] y (r::(if d.2.2.1= -1 then [] else [d.2.2.1])) [] W:=⟨o.nd,λj=>by rw [l1];exact o.rng j,λj=>by
   rw [r1,t1];have hc:=o.dV j;rw [qd] at hc;rw [qd,List.count_cons];split
   next h=>subst h;simp;omega
   .rename_i h;have:(r==j)=false:=by simp;exact λe=>h e.symm
    rw [this];simp;omega,λj l=>by
   rw [r1,dk (λh=>l (by rw [h];exact E))];exact o.dead j l,λj l h=>by
   rw [r1] at h;have:=o.pos j;split at h
   .omega
   next R=>have:=o.top j l h;simp at this;exact absurd this R,λu hu v p h=>by rw [n1] at h;exact o.dist u hu v p h,λj l=>by
   obtain ⟨k,hk,a⟩:=o.good j l;exact ⟨k,hk,a.grow (λ_ h=>h) λj _=>q j⟩⟩
 have a1:At t y w.length r:=T.grow (λ_ h=>h) λj _=>q j;have F:r≠ -1:=by omega
 have J:∀v:zl,v.length=w.length->(acc t v r↔v=w\/GG d v):=λv p=>by rw [acc.same (A:=y) (N:=g) (λj _=>q j) T p];exact h9 v p
 have X:i64.wrap (d.2.2.2.1+1)=((m+1:Nat):Int):=by rw [G.many,bB (by omega)];omega
 by_cases z:d.2.2.1= -1
 .rw [show (d.2.2.1 != -1)=false by simp [z],b7];refine ⟨(d.1,t,r,i64.wrap (d.2.2.2.1+1),V),y,rfl,⟨G.wide,hW,by omega,?_,.inr (by rw [<-f];exact a1),by simp only [];omega,λj=>?_,X⟩,λv p=>?_⟩
  .simp only [dk F];simp only [du z] at K;exact K
  .simp only [];rw [r1];have:=h8 j;have:=S j;split <;> omega
  .show (r≠ -1/\acc t v r)↔_;rw [J v (by omega)];exact ⟨λh=>h.2,λh=>⟨F,h⟩⟩
 .rw [show (d.2.2.1 != -1)=true by grind,ca];simp [dk z] at K;have aR:=G.root.resolve_left λh=>z h.1;have U  :=aR.grow (λj l=>(h3 j l).1) λj l=>by rw [n1,(h3 j l).2]
  have I2  :=K.perm (List.Perm.swap r d.2.2.1 []);obtain ⟨N2,F2,A2,g1,g2,g3,g4,g5⟩:=akG W an (by show _<2^64;omega) d.2.2.1 t V [] y [r] U I2 (by omega) (λj=>by grind);rw [ak0,g1];have L:=g2.ext (i:=r) (by simp);have a2:At N2 A2 W r:=by rw [<-f];exact a1.da (λj l _=>(g4 j l).2) (λj l _ e he _=>g2.closed l (by grind)) L
  have acc2:∀v:zl,v.length=W->(acc t v r↔acc N2 v r):=λv p=>acc.same (λj l=>(g4 j l).2.symm) a2 p;refine ⟨(d.1,N2,r,i64.wrap (d.2.2.2.1+1),F2),A2,rfl,⟨G.wide,hW,by omega,?_,.inr a2,by simp;omega,λj=>?_,X⟩,λv p=>?_⟩
  .grind
  .grind
  .show (r≠ -1/\acc N2 v r)↔_;grind
end Df
variable {L : w8} {W : Nat} {p : zl -> Bool}
namespace So
def DS(d:Df.D)(W:Nat)(L:w8):Prop:= ∃A,Df.Good d W L.length A/\∀w,w.length=W->(Df.GG d w↔w∈L)
theorem aaN{W:Nat}(h:1<=W/\W<=64):DS ((W:Int),[],-1,0,[]) W []:=
 ⟨[],Df.akO h,λw _=>⟨λh=>absurd rfl h.1,λh=>by simp at h⟩⟩
theorem ab6{d:Df.D}(h:DS d W L){w:zl}(a:w.length=W):rE d w=some (decide (w∈L)):=by obtain ⟨A,G,ht⟩:=h;have:=G.w1;obtain ⟨r,c,b⟩:=Df.ah6 G (w:=w) (by omega);grind
theorem asN{d:Df.D}(h:DS d W L){w:zl}(a:w.length=W)(hb:By w)(hm:w∈L)(hl:L.length<2097152):fT d w=some (d,false,0):=by obtain ⟨A,G,ht⟩:=h;have:=G.w1;grind [Df.aiI,absurd]
theorem ajm{d:Df.D}(h:DS d W L){w:zl}(f:w.length=W)(hb:By w)(hm:w∉L)(hl:L.length<2097152):∃a,fT d w=some (a,true,0)/\DS a W (L++[w]):=by
 obtain ⟨A,G,ht⟩:=h;have:=G.w1;rcases Df.aiI G hl (λb c=>by have:=hb b c;omega) (by omega) with ⟨e,_⟩|⟨_,e,_⟩|⟨_,_,a,j,i,g,l⟩
 .exact absurd f e
 .grind
 .refine ⟨a,i,j,by simpa using g,λv k=>?_⟩;grind
theorem apx{d:Df.D}(h:DS d W L):Lr d=some (L.length:Int):=by obtain ⟨A,G,_⟩:=h;unfold Lr;rw [G.many]
abbrev Wo:=Df.D×Df.D×Df.D
def GI(s:List Fd)(d:Df.D)(V:w8)(p:zl->Bool):Prop:= ∃F:w8,DS d (iz s) (F.map (enc s))/\F.Nodup/\(∀v,v∈F↔p v=true)/\∀v∈F,v∈V
structure OkW(s:List Fd)(cap:Int)(t:Wo)(V:w8)(g:Gf):Prop where
 cap1:cap<=1048576
 df:(V.length:Int)<=cap
 ins:∀v∈V,In s v
 nd:V.Nodup
 d0:DS t.1 (iz s) (V.map (enc s))
 d1:GI s t.2.1 V (g false)
 d2:GI s t.2.2 V (g true)
theorem afm{s:List Fd}(a:jA s):1<=iz s/\iz s<=64:=by have:=AP a;have:=a.df;unfold iz;omega
theorem GI.add{s:List Fd}{d:Df.D}{V:w8}(h:GI s d V p)(v:zl):GI s d (V++[v]) p:=by obtain ⟨F,f,e,c,b⟩:=h;exact ⟨F,f,e,c,λu a=>qA _ (b u a)⟩
theorem GI.has{s:List Fd}{d:Df.D}{V:w8}(c:∀v∈V,In s v)(h:GI s d V p){v:zl}(a:In s v):rE d (enc s v)=some (p v):=by obtain ⟨F,g,i,f,e⟩:=h;rw [ab6 g (AZ a.len)];congr 1;rw [qC,er,DV (λu b=>c u (e u b)) a,f]
theorem GI.set{s:List Fd}{d:Df.D}{V:w8}(m:∀v∈V,In s v)(hl:V.length<2097152)(h:GI s d V p){v:zl}(g:In s v)(hm:v∈V):
  ∃c b,fT d (enc s v)=some (c,b,0)/\GI s c V (λu=>p u||u==v):=by
 obtain ⟨F,f,e,o,i⟩:=h;have n:=aoy e i;by_cases hp:v∈F
 .refine ⟨d,false,asN f (AZ g.len) (SW s v) (List.mem_map.2 ⟨v,hp,rfl⟩) (by simp;omega),F,f,e,λu=>?_,i⟩;grind
 .obtain ⟨c,k,j⟩:=ajm f (AZ g.len) (SW s v) (by grind [DV]) (by simp;omega);refine ⟨c,true,k,F++[v],by simpa using j,List.nodup_append.2 ⟨e,by simp,λa ha b hb=>by grind⟩,λu=>?_,λu l=>?_⟩
  .grind
  grind
abbrev St:=Int×List Fd×Int×Fl×Co×Tr×Wo×(Int×Int×Int×(zl×zl×zl))
structure OkS(t:St)(s:List Fd)(cap:Int)(V:w8)(g:Gf):Prop where
 sch:t.2.1=s
 cap_:t.2.2.1=cap
 kind:(t.1=0/\Hc s t.2.2.2.1 V g/\t.2.2.2.1.1.1=cap)\/(t.1=1/\P5 s cap t.2.2.2.2.1 V g)\/(t.1=2/\vn s cap t.2.2.2.2.2.1 V g)\/(t.1=3/\OkW s cap t.2.2.2.2.2.2.1 V g)
theorem Eu{t:St}{s:List Fd}(b:jA s)(ht:t.2.1=s){v:zl}(a:In s v):eS t v=some (enc s v):=by grind [eS,Nv,ah]
theorem aas{t:St}(a:fL t.2.1 v=some 0):
  (t.1=0->dC t v=lg () t v)/\(t.1=1->dC t v=km () t v)/\(t.1=2->dC t v=ki () t v)/\(t.1=3->dC t v=kZ () t v)/\(t.1=4->dC t v=kX () t v):=by
 have b:∀x:Option (St×Bool×Int),(x.bind λr=>some (r.1,r.2.1,r.2.2))=x:=λx=>by cases x <;> rfl
 have k:∀n:Nat,dL t=some n->dC t v=(bif (Nat.beq n 154) then lg () t v else bif (Nat.beq n 155) then km () t v else bif (Nat.beq n 156) then ki () t v else bif (Nat.beq n 157) then kZ () t v else bif (Nat.beq n 158) then kX () t v else none):=by unfold dC;grind
 refine ⟨λh=>?_,λh=>?_,λh=>?_,λh=>?_,λh=>?_⟩
 .rw [k 154 (by unfold dL ck;rw [h];rfl)];rfl
 .rw [k 155 (by unfold dL ck;rw [h];rfl)];rfl
 .rw [k 156 (by unfold dL ck;rw [h];rfl)];rfl
 .rw [k 157 (by unfold dL ck;rw [h];rfl)];rfl
 .rw [k 158 (by unfold dL ck;rw [h];rfl)];rfl
theorem acf{t:St}(f:Int)(a:fL t.2.1 v=some 0):
  (t.1=0->gE t v f=oK () t v f)/\(t.1=1->gE t v f=nq () t v f)/\(t.1=2->gE t v f=mX () t v f)/\(t.1=3->gE t v f=oY () t v f)/\(t.1=4->gE t v f=oX () t v f):=by
 have b:∀x:Option (St×Int),(x.bind λr=>some (r.1,r.2))=x:=λx=>by cases x <;> rfl
 have k:∀n:Nat,dL t=some n->gE t v f=(bif (Nat.beq n 154) then oK () t v f else bif (Nat.beq n 155) then nq () t v f else bif (Nat.beq n 156) then mX () t v f else bif (Nat.beq n 157) then oY () t v f else bif (Nat.beq n 158) then oX () t v f else none):=by unfold gE;grind
 refine ⟨λh=>?_,λh=>?_,λh=>?_,λh=>?_,λh=>?_⟩
 .rw [k 154 (by unfold dL ck;rw [h];rfl)];rfl
 .rw [k 155 (by unfold dL ck;rw [h];rfl)];rfl
 .rw [k 156 (by unfold dL ck;rw [h];rfl)];rfl
 .rw [k 157 (by unfold dL ck;rw [h];rfl)];rfl
 .rw [k 158 (by unfold dL ck;rw [h];rfl)];rfl
theorem acI{t:St}(f:Int)(a:fL t.2.1 v=some 0):
  (t.1=0->dR t v f=oQ () t v f)/\(t.1=1->dR t v f=nu () t v f)/\(t.1=2->dR t v f=nb () t v f)/\(t.1=3->dR t v f=pa () t v f)/\(t.1=4->dR t v f=oV () t v f):=by
 have b:∀x:Option (Bool×Int),(x.bind λr=>some (r.1,r.2))=x:=λx=>by cases x <;> rfl
 have k:∀n:Nat,dL t=some n->dR t v f=(bif (Nat.beq n 154) then oQ () t v f else bif (Nat.beq n 155) then nu () t v f else bif (Nat.beq n 156) then nb () t v f else bif (Nat.beq n 157) then pa () t v f else bif (Nat.beq n 158) then oV () t v f else none):=by unfold dR;grind
 refine ⟨λh=>?_,λh=>?_,λh=>?_,λh=>?_,λh=>?_⟩
 .rw [k 154 (by unfold dL ck;rw [h];rfl)];rfl
 .rw [k 155 (by unfold dL ck;rw [h];rfl)];rfl
 .rw [k 156 (by unfold dL ck;rw [h];rfl)];rfl
 .rw [k 157 (by unfold dL ck;rw [h];rfl)];rfl
 .rw [k 158 (by unfold dL ck;rw [h];rfl)];rfl
theorem in0{t:St}{s:List Fd}(b:jA s)(ht:t.2.1=s){v:zl}(a:In s v):fL t.2.1 v=some 0:=by have:=b.df;have:=a.len;grind [wH,sF]
def Wz(s:List Fd)(cap:Int)(V:w8)(v:zl):w8×Bool×Int:=if pX s v=0 then yC cap V v else (V,false,pX s v)
def GS(s:List Fd)(V:w8)(v:zl)(flag:Int):Int:=if pX s v=0 then gP V v flag else pX s v
def alQ(s:List Fd)(V:w8)(g:Gf)(v:zl)(flag:Int):Gf:=if GS s V v flag=0 then mM g (flag==1) v else g
def amF(s:List Fd)(V:w8)(g:Gf)(v:zl)(flag:Int):Bool:=if GS s V v flag=0 then g (flag==1) v else false
theorem asd{s:List Fd}(j:ka s){t:St}{cap:Int}{V:w8}{g:Gf}(h:OkS t s cap V g)(v:zl)(hl:v.length<100000000):
  ∃t',dC t v=some (t',(Wz s cap V v).2)/\OkS t' s cap (Wz s cap V v).1 g/\t'.1=t.1:=by
 unfold Wz;by_cases n:pX s v=0
 .rw [du n];have c:=sF.1 n;have m:=in0 j.fds h.sch c;have hk:=Eu j.fds h.sch c;obtain ⟨y,k1,x,w,_⟩:=aas m;rcases h.kind with ⟨e,ok,k⟩|⟨e,ok⟩|⟨e,ok⟩|⟨e,ok⟩
  .rw [y e];unfold lg;obtain ⟨f,d,i,r⟩:=afK j.fds ok c;rw [k] at d i r;rw [hk,ah,d,ah];exact ⟨_,rfl,⟨h.sch,h.cap_,.inl ⟨e,i,r⟩⟩,rfl⟩
  .rw [k1 e];unfold km;obtain ⟨f,d,i⟩:=ahn j.fds ok c;rw [h.sch,d,ah];exact ⟨_,rfl,⟨rfl,h.cap_,.inr (.inl ⟨e,i⟩)⟩,rfl⟩
  .rw [x e];unfold ki;obtain ⟨f,d,i⟩:=agp j ok c;rw [h.sch,d,ah];exact ⟨_,rfl,⟨rfl,h.cap_,.inr (.inr (.inl ⟨e,i⟩))⟩,rfl⟩
  .rw [w e];unfold kZ yC;have hm:=DV ok.ins c;rw [hk,ah,ab6 ok.d0 (AZ c.len),ah];by_cases o:v∈V
   .grind
   .rw [cy (λp=>o (hm.1 p)),dk o,b7,apx ok.d0,ah,h.cap_,nI];by_cases q:cap<=(V.length)
    .grind
    .have d:=ok.cap1;rw [cy q,dk q,b7];obtain ⟨B,A,z⟩:=ajm ok.d0 (AZ c.len) (SW s v) (λp=>o (hm.1 p)) (by simp;omega);rw [A,ah];refine ⟨_,rfl,⟨h.sch,rfl,.inr (.inr (.inr ⟨e,⟨d,by simp;omega,λu l=>?_,?_,by simpa using z,ok.d1.add v,ok.d2.add v⟩⟩))⟩,rfl⟩
     .rcases List.mem_append.1 l with l|l
      .exact ok.ins u l
      grind
     .exact List.nodup_append.2 ⟨ok.nd,by simp,λa ha b hb=>by grind⟩
 .unfold dC;rw [h.sch,wH s v hl,ah,show (pX s v != 0)=true by simpa using n,ca];grind
theorem Up{s:List Fd}(c:jA s){t:St}(ht:t.2.1=s){cap:Int}{V:w8}{g:Gf}(ok:OkW s cap t.2.2.2.2.2.2.1 V g){v:zl}(b:In s v)(a:Int):sL t v a=some (gP V v a):=by
 unfold sL gP;simp [aK];rcases AY a with hb|hb
 .grind
 .rw [dk (by omega),show (decide (a<0)||decide (1<a))=false by grind,b7,Eu c ht b,ah,ab6 ok.d0 (AZ b.len),ah];by_cases hm:v∈V
  .grind
  .rw [cy (λh=>hm ((DV ok.ins b).1 h)),dk hm];rfl
theorem aqI{s:List Fd}(k:ka s){t:St}{cap:Int}{V:w8}{g:Gf}(h:OkS t s cap V g)(v:zl)(hl:v.length<100000000)(a:Int):
  ∃t',gE t v a=some (t',GS s V v a)/\OkS t' s cap V (alQ s V g v a)/\t'.1=t.1:=by
 unfold alQ GS;by_cases m:pX s v=0
 .rw [du m];have d:=sF.1 m;have n:=in0 k.fds h.sch d;have hk:=Eu k.fds h.sch d;obtain ⟨x,k1,w,r,_⟩:=acf a n;rcases h.kind with ⟨e,ok,l⟩|⟨e,ok⟩|⟨e,ok⟩|⟨e,ok⟩
  .rw [x e];unfold oK;obtain ⟨f,j,i,y⟩:=agZ k.fds ok d a;rw [hk,ah,j,ah];exact ⟨_,rfl,⟨h.sch,h.cap_,.inl ⟨e,i,y.trans l⟩⟩,rfl⟩
  .rw [k1 e];unfold nq;obtain ⟨f,j,i⟩:=agf k.fds ok d a;rw [h.sch,j,ah];exact ⟨_,rfl,⟨rfl,h.cap_,.inr (.inl ⟨e,i⟩)⟩,rfl⟩
  .rw [w e];unfold mX;obtain ⟨f,j,i⟩:=ahA k ok d a;rw [h.sch,j,ah];exact ⟨_,rfl,⟨rfl,h.cap_,.inr (.inr (.inl ⟨e,i⟩))⟩,rfl⟩
  .rw [r e];unfold oY;have j:=ok.cap1;have i:=ok.df;rw [Up k.fds h.sch ok d,ah];by_cases c:gP V v a=0
   .rw [du c,c,show ((0:Int) != 0)=false from rfl,b7];have hb:a=0\/a=1:=by
     rcases AY a with hb|hb
     .unfold gP at c;omega
     .exact hb
    have hm:v∈V:=Decidable.byContradiction λhm=>by unfold gP at c;rw [dk (by omega),dk hm] at c;omega
    rcases hb with rfl|rfl
    .obtain ⟨q,b,p,o⟩:=ok.d1.set ok.ins (by omega) d hm;rw [show (i64.wrap (1+0)==0)=false from rfl,show (i64.wrap (1+0)==1)=true from rfl,b7,ca,hk,ah,p,ah,b7,ca];refine ⟨_,rfl,⟨h.sch,h.cap_,.inr (.inr (.inr ⟨e,⟨j,i,ok.ins,ok.nd,ok.d0,?_,?_⟩⟩))⟩,rfl⟩
     .show GI s q V (λu=>g false u||(false==(0==1)&&u==v));simpa using o
     .show GI s _ V (λu=>g true u||(true==((0)==1)&&u==v));simpa using ok.d2
    .obtain ⟨q,b,p,o⟩:=ok.d2.set ok.ins (by omega) d hm;rw [show (i64.wrap (1+1)==0)=false from rfl,show (i64.wrap (1+1)==1)=false from rfl,show (i64.wrap (1+1)==2)=true from rfl,b7,b7,ca,hk,ah,p,ah,b7,b7,ca];refine ⟨_,rfl,⟨h.sch,h.cap_,.inr (.inr (.inr ⟨e,⟨j,i,ok.ins,ok.nd,ok.d0,?_,?_⟩⟩))⟩,rfl⟩
     .show GI s _ V (λu=>g false u||(false==((1)==1)&&u==v));simpa using ok.d1
     .show GI s q V (λu=>g true u||(true==((1)==1)&&u==v));simpa using o
   grind
 .unfold gE;rw [h.sch,wH s v hl,ah,show (pX s v != 0)=true by simpa using m,ca,dk m];grind
theorem arW{s:List Fd}(c:ka s){t:St}{cap:Int}{V:w8}{g:Gf}(h:OkS t s cap V g)(v:zl)(hl:v.length<100000000)(a:Int):
  dR t v a=some (amF s V g v a,GS s V v a):=by
 unfold amF GS;by_cases f:pX s v=0
 .rw [du f];have b:=sF.1 f;have i:=in0 c.fds h.sch b;have hk:=Eu c.fds h.sch b;obtain ⟨m,k1,l,k,_⟩:=acI a i;rcases h.kind with ⟨e,ok,j⟩|⟨e,ok⟩|⟨e,ok⟩|⟨e,ok⟩
  .rw [m e];unfold oQ;rw [hk,ah,afI c.fds ok b a,ah];rfl
  .rw [k1 e];unfold nu;rw [h.sch,ahT c.fds ok b a,ah];rfl
  .rw [l e];unfold nb;rw [h.sch,afX c ok b a,ah];rfl
  .rw [k e];unfold pa;rw [Up c.fds h.sch ok b,ah];by_cases d:gP V v a=0
   .rw [du d,d,show ((0:Int) != 0)=false from rfl,b7];have hb:a=0\/a=1:=by
     rcases AY a with hb|hb
     .simp_all [gP]
     .exact hb
    rcases hb with rfl|rfl
    .rw [show (i64.wrap (1+0)==0)=false from rfl,show (i64.wrap (1+0)==1)=true from rfl,b7,ca,hk,ah,ok.d1.has ok.ins b,ah];rfl
    .rw [show (i64.wrap (1+1)==0)=false from rfl,show (i64.wrap (1+1)==1)=false from rfl,show (i64.wrap (1+1)==2)=true from rfl,b7,b7,ca,hk,ah,ok.d2.has ok.ins b,ah];rfl
   grind
 .rw [dk f];unfold dR;rw [h.sch,wH s v hl,ah,show (pX s v != 0)=true by simpa using f,ca,dk f]
end So
namespace So
theorem NH{l:List Fd}(h:l.length<1000000000):cP l=some l:=by grind [cP,aO,eC]
abbrev Op:=Int×Int×Int×Int×Int×Int
def aa7:St:=(0,[],0,((0,[],[]),[]),([],(0,[],[]),[]),([],[]),((0,[],0,0,[]),(0,[],0,0,[]),(0,[],0,0,[])),(0,0,0,([],[],[])))
def wP(s:List Fd)(o:Op):St:=(o.1,s,o.2.1,((0,[],[]),[]),([],(0,[],[]),[]),([],[]),((0,[],0,0,[]),(0,[],0,0,[]),(0,[],0,0,[])),(0,0,0,([],[],[])))
def thenS(x:Option (St×Int)):Option (St×Int):=x.bind λr=>bif (r.2 != 0) then some (aa7,r.2) else some (r.1,0)
theorem Rk{s:List Fd}(d:FI s)(c:ka s)(o:Op):
  (o.1=0->dv s o=thenS (jO () (wP s o) o))/\(o.1=1->dv s o=thenS (jd () (wP s o) o))/\(o.1=2->dv s o=thenS (iU () (wP s o) o))/\
  (o.1=3->dv s o=thenS (hZ () (wP s o) o))/\(o.1=4->dv s o=thenS (jQ () (wP s o) o)):=by
 have hl:=c.df;have k:∀n:Nat,(decide (((5:Nat))<=o.1))=false->decide (o.1<0)=false->(ck).bind (λa=>idx a o.1)=some n->dv s o=
   (bif (Nat.beq n 154) then thenS (jO () (wP s o) o) else bif (Nat.beq n 155) then thenS (jd () (wP s o) o) else bif (Nat.beq n 156) then thenS (iU () (wP s o) o) else bif (Nat.beq n 157) then thenS (hZ () (wP s o) o) else bif (Nat.beq n 158) then thenS (jQ () (wP s o) o) else none):=by
  intro n e f hn;unfold dv;obtain ⟨l,hk,hi⟩:=iJ hn;have b:l.length=5:=by grind [ck]
  simp only [aK];rw [Rw d,ah,Mz.2 c,f,hk,py,mE,iN,dN,ah,b,e,mE,b7,ah,hi,ah,NH (by omega),ah];rfl
 refine ⟨λh=>?_,λh=>?_,λh=>?_,λh=>?_,λh=>?_⟩
 .rw [k 154 (by rw [h];rfl) (by rw [h];rfl) (by rw [h];rfl)];rfl
 .rw [k 155 (by rw [h];rfl) (by rw [h];rfl) (by rw [h];rfl)];rfl
 .rw [k 156 (by rw [h];rfl) (by rw [h];rfl) (by rw [h];rfl)];rfl
 .rw [k 157 (by rw [h];rfl) (by rw [h];rfl) (by rw [h];rfl)];rfl
 .rw [k 158 (by rw [h];rfl) (by rw [h];rfl) (by rw [h];rfl)];rfl
theorem ao1{s:List Fd}(f:FI s)(o:Op)(h:¬(ka s/\0<=o.1/\o.1<5)):dv s o=some (aa7,1):=by
 unfold dv;simp only [aK];rw [Rw f,ah];cases d:lX s
 .rfl
 .have c:=Mz.1 d;by_cases b:o.1<0
  .rw [cb b];rfl
  .rw [cy b];have hx:¬(0<=o.1/\o.1<5):=λx=>h ⟨c,x⟩;have e:decide ((5:Int)<=o.1)=true:=cb (by omega);obtain ⟨l,hk,a⟩:∃l,ck=some l/\l.length=5:=⟨_,rfl,rfl⟩;rw [hk,py,mE,iN,dN,ah,a];rw [show decide (((5:Nat):Int)<=o.1)=true from e];rfl
theorem ac5{s:List Fd}(f:jA s)(t:St)(ht:t.2.1=s)(o:Op)(h:0<=o.2.1)(g:o.2.1<=1048576):
  hZ () t o=some ((t.1,t.2.1,t.2.2.1,t.2.2.2.1,t.2.2.2.2.1,t.2.2.2.2.2.1,(((iz s:Int),[],-1,0,[]),((iz s:Int),[],-1,0,[]),((iz s:Int),[],-1,0,[])),t.2.2.2.2.2.2.2),0):=by
 unfold hZ;simp [aK];rw [cy (by omega),cy (by omega),tA,b7];have e:rD t.2.1=some (iz s:Int):=by grind [aaB]
 have hN:=Df.UI (afm f);obtain ⟨m,hm⟩:∃m,an=m+4:=⟨2^64-4,rfl⟩;rw [hm,ao];generalize a:jy () t=F;have d:∀k a1 a2 a3 a4 a5 b1 b2 b3 b4 b5 c1 c2 c3 c4 c5,F k (a1,a2,a3,a4,a5,b1,b2,b3,b4,b5,c1,c2,c3,c4,c5,0)=k ((iz s),[],-1,0,[],b1,b2,b3,b4,b5,c1,c2,c3,c4,c5,1):=by intros;rw [<-a];unfold jy;dsimp only;rw [e,ah,hN,ah];rfl
 have c:∀k a1 a2 a3 a4 a5 b1 b2 b3 b4 b5 c1 c2 c3 c4 c5,F k (a1,a2,a3,a4,a5,b1,b2,b3,b4,b5,c1,c2,c3,c4,c5,1)=k (a1,a2,a3,a4,a5,(iz s),[],-1,0,[],c1,c2,c3,c4,c5,2):=by intros;rw [<-a];unfold jy;dsimp only;rw [e,ah,hN,ah];rfl
 have b:∀k a1 a2 a3 a4 a5 b1 b2 b3 b4 b5 c1 c2 c3 c4 c5,F k (a1,a2,a3,a4,a5,b1,b2,b3,b4,b5,c1,c2,c3,c4,c5,2)=k (a1,a2,a3,a4,a5,b1,b2,b3,b4,b5,(iz s),[],-1,0,[],3):=by intros;rw [<-a];unfold jy;dsimp only;rw [e,ah,hN,ah];rfl
 rw [d,ao,c,ao,b,ao,<-a];rfl
theorem Wq{s:List Fd}(k:FI s)(a:ka s)(o:Op)(hk:0<=o.1/\o.1<4):
  ((o.2.1<0\/1048576<o.2.1)->dv s o=some (aa7,1))/\(0<=o.2.1->o.2.1<=1048576->∃t,dv s o=some (t,0)/\OkS t s o.2.1 [] (λ_ _=>false)/\t.1=o.1):=by
 obtain ⟨j,k1,i,g,_⟩:=Rk k a o;have c:o.1=0\/o.1=1\/o.1=2\/o.1=3:=by omega
 refine ⟨λhb=>?_,λe d=>?_⟩
 .rcases c with h|h|h|h
  .rw [j h];unfold jO;rw [SG,du hb];rfl
  .rw [k1 h];unfold jd;rw [show (wP s o).2.1=s from rfl,U1 a.fds,du hb];rfl
  .rw [i h];unfold iU;rw [show (wP s o).2.1=s from rfl,Uz a.fds,du hb];rfl
  .rw [g h];unfold hZ;simp [aK];rw [show (decide (o.2.1<0)||decide (1048576<o.2.1))=true by simpa using hb];rfl
 .have hb:¬(o.2.1<0\/1048576<o.2.1):=by omega
  rcases c with h|h|h|h
  .rw [j h];unfold jO;rw [SG,dk hb];exact ⟨_,rfl,⟨rfl,rfl,.inl ⟨h,af9 s e d,rfl⟩⟩,rfl⟩
  .rw [k1 h];unfold jd;rw [show (wP s o).2.1=s from rfl,U1 a.fds,dk hb];exact ⟨_,rfl,⟨rfl,rfl,.inr (.inl ⟨h,ag4 s e d⟩)⟩,rfl⟩
  .rw [i h];unfold iU;rw [show (wP s o).2.1=s from rfl,Uz a.fds,dk hb];exact ⟨_,rfl,⟨rfl,rfl,.inr (.inr (.inl ⟨h,agW s e d⟩))⟩,rfl⟩
  .rw [g h,ac5 a.fds (wP s o) rfl o e d];have f:=afm a.fds;exact ⟨_,rfl,⟨rfl,rfl,.inr (.inr (.inr ⟨h,⟨d,e,λv b=>by simp at b,qZ,aaN f,⟨[],aaN f,qZ,λv=>by simp,λv b=>by simp at b⟩,⟨[],aaN f,qZ,λv=>by simp,λv b=>by simp at b⟩⟩⟩))⟩,rfl⟩
theorem ajN(a b:zl)(hn:a.length<100000000):ia a b=some (a==b):=by
 unfold ia;by_cases hl:a.length=b.length
 .rw [show ((a.length:Int) != (b.length:Int))=false by simp;omega,b7];have step:∀i (hi:i<a.length) (k:Int->za),dQ a b k (i:Int)=bif (a[i] != b[i]'(by omega)) then some false else k ((i+1:Nat):Int):=by intro i hi k;unfold dQ;rw [kY hi,ca,fz hi,fz (show i<b.length by omega),ah,ah,nx (show i<9223372036854775807 by omega)]
  refine (findF (F:=dQ a b) (λi=>(i:Int)) (λi=>if h:i<a.length then a[i] != b[i]'(by omega) else false) (r:=λi=>if i<a.length then some false else some true) a.length (s:=0) rfl (by omega) (λi hi hp k=>?_) (λi hi hp k=>?_) (λk=>?_)).elim (λ⟨i,d,c,f,e⟩=>?_) (λ⟨d,e⟩=>?_)
  .rw [ub hi] at hp;rw [step i hi,hp,b7]
  .rw [ub hi] at hp;rw [step i hi,hp,ca,du hi]
  .unfold dQ;rw [vT (o5 _),b7,dk (o5 _)]
  .rw [e,du d];rw [ub d] at c;congr 1;rw [eq_comm,qD];rintro rfl;simp at c
  .rw [e,dk (o5 _)];congr 1;rw [eq_comm,n6];refine s7 hl λi c f=>?_;have:=d i c;rw [ub c] at this;simpa using this
 .rw [show ((a.length:Int) != (b.length:Int))=true by simp;omega,ca];congr 1;rw [eq_comm,qD];rintro rfl;exact hl rfl
end So
variable {p : Nat -> Bool}
namespace So
def KX(e:Int)(k:Nat):Bool:=rB .u8 e (lN .u8 1 (k:Int)) != 0
theorem alH:∀e:Fin 256,∀j k:Fin 8,KX (vu .u8 (e.val:Int) (lN .u8 1 (j.val:Int))) k.val=(KX (e.val:Int) k.val||j.val==k.val)/\0<=vu .u8 (e.val:Int) (lN .u8 1 (j.val:Int))/\vu .u8 (e.val:Int) (lN .u8 1 (j.val:Int))<=255:=by decide+kernel
theorem ah7{e:Int}(b:0<=e)(c:e<=255){j k:Nat}(a:j<8)(hk:k<8):KX (vu .u8 e (lN .u8 1 (j:Int))) k=(KX e k||j==k)/\0<=vu .u8 e (lN .u8 1 (j:Int))/\vu .u8 e (lN .u8 1 (j:Int))<=255:=by obtain ⟨n,rfl⟩:=qm b;exact alH ⟨n,by omega⟩ ⟨j,a⟩ ⟨k,hk⟩
theorem agY:∀k:Fin 8,KX 0 k.val=false:=by decide+kernel
structure sk(row:zl)(M:Nat)(p:Nat->Bool):Prop where
 len:row.length=(M+7)/8
 uv:By row
 bit:∀n e,row[n/8]? =some e->KX e (n%8)=p n
 low:∀n,p n=true->n<M
theorem sk.get{row:zl}{M:Nat}(h:sk row M p){n:Nat}(hn:n<M):∃e,row[n/8]? =some e/\KX e (n%8)=p n/\0<=e/\e<=255:=by
 have hl:n/8<row.length:=by rw [h.len];omega
 have a:=b9 hl;exact ⟨_,a,h.bit n _ a,h.uv _ (c9 hl)⟩
theorem sk.zero(M:Nat):sk (List.replicate ((M+7)/8) 0) M (λ_=>false):=
 ⟨by simp,λx hx=>by grind,λn e h=>(by
  rw [List.getElem?_replicate] at h;split at h
  .rw [<-gj h];exact agY ⟨n%8,qT _ (by omega)⟩
  .cases h),λn h=>(by cases h)⟩
theorem sk.set{row:zl}{M:Nat}(h:sk row M p){n:Nat}(hn:n<M){e:Int}(a:row[n/8]? =some e):
  sk (row.set (n/8) (vu .u8 e (lN .u8 1 ((n%8:Nat):Int)))) M (λm=>p m||m==n):=by
 have hl:=pS a;have hb:=h.uv e (fm a);refine ⟨by rw [qM];exact h.len,λx hx=>?_,λm e' hm=>?_,λm hm=>?_⟩
 .rcases List.mem_or_eq_of_mem_set hx with hx|hx
  .exact h.uv x hx
  .rw [hx];have:=ah7 hb.1 hb.2 (j:=n%8) (k:=0) (by omega) (by omega);exact this.2
 .rw [ni hl] at hm;split at hm
  next b=>rw [<-gj hm,(ah7 hb.1 hb.2 (by omega) (by omega)).1,<-h.bit m e (by rw [<-b];exact a)];grind
  next b=>rw [h.bit m e' hm];have:(m==n)=false:=beq_eq_false_iff_ne.2 (λc=>b (by rw [c]));grind
 .rcases Bool.or_eq_true_iff.1 hm with hm|hm
  .exact h.low m hm
  grind
def rS(key:zl)(seed:Int)(K M:Nat):zm:=(List.range K).map λi:Nat=>(sK key (u64.wrap (seed+u64.wrap (i:Int)))).toNat%M
theorem Cl{key:zl}{seed:Int}{K M:Nat}(a:0<M):∀n∈rS key seed K M,n<M:=by intro n hn;simp [rS,List.mem_map] at hn;obtain ⟨i,_,rfl⟩:=hn;exact qT _ a
theorem aiK{key:zl}(hk:key.length<100000)(seed:Int){K M:Nat}(c:K<=16)(b:0<M)(a:M<1000000000):o6 key seed (K:Int) (M:Int)=some ((rS key seed K M).map λn:Nat=>(n:Int)):=by
 refine wM (λi=>(((rS key seed K M).take i).map λn:Nat=>(n:Int),(i:Int))) K (by simp) (by omega) (λi hi k=>?_) (λk=>?_)
 .unfold Cr;dsimp only;rw [cb (by omega),ca,aeG _ _ (by omega),ah,xj _ _ b a,ah,aO (eC (by grind) (by grind)),nx (by omega)];grind [rS,sK,List.getElem?_range,List.take_add_one]
 simp_all [Cr,fb,rS]
abbrev Bl:=Int×Int×Int×(zl×zl×zl)
structure QA(b:Bl)(M K:Nat)(seed:Int)(p0 p1 p2:Nat->Bool):Prop where
 m:b.1=(M:Int)
 k:b.2.1=(K:Int)
 s:b.2.2.1=seed
 m1:1<=M/\M<=4194304
 k1:1<=K/\K<=16
 r0:sk b.2.2.2.1 M p0
 r1:sk b.2.2.2.2.1 M p1
 r2:sk b.2.2.2.2.2 M p2
def xK(p:Nat->Bool)(l:zm):Nat->Bool:=λn=>p n||l.contains n
theorem akF(p:Nat->Bool)(l:zm)(n:Nat):(λm=>xK p l m||m==n)=xK p (l++[n]):=by unfold xK;grind
theorem ab0{row:zl}{M:Nat}(h:sk row M p){ps:zm}(hp:∀n∈ps,n<M)(a:M<=4194304)(hl:ps.length<=16)(F:(Bool×Int->za)->Bool×Int->za)
  (b:∀k c (i:Nat) n e,ps[i]? =some n->row[n/8]? =some e->F k (c,(i:Int))=k (c&&KX e (n%8),((i+1:Nat):Int))) (d:∀k c,F k (c,(ps.length:Int))=some c):aj F an (true,0)=some (ps.all p):=by
 refine wM (λi=>((ps.take i).all p,(i:Int))) ps.length (by simp) (by omega) (λi hi k=>?_) (λk=>by grind);obtain ⟨e,g,f,_⟩:=h.get (hp _ (c9 hi));grind [List.take_add_one]
theorem Sg{row:zl}{M:Nat}(h:sk row M p){ps:zm}(hp:∀n∈ps,n<M)(q:M<=4194304)(hl:ps.length<=16):∃a,aj (jM (ps.map λn:Nat=>(n:Int))) an (row,0)=some a/\sk a M (xK p ps):=by
 have key:∀(d i:Nat) (r:zl) (m:Nat),i+d=ps.length->d<m->sk r M (xK p (ps.take i))->∃a,aj (jM (ps.map λn:Nat=>(n))) m (r,(i))=some a/\sk a M (xK p ps):=by
  intro d
  induction d with
  |zero=>
   intro i r m hi hm g;obtain ⟨m,rfl⟩:∃k,m=k+1:=⟨m-1,by omega⟩;simp_all [ao,jM,o5]
  |succ d ih=>
   intro i r m hi hm g;obtain ⟨m,rfl⟩:∃k,m=k+1:=⟨m-1,by omega⟩;rw [ao];have b:i<ps.length:=by omega
   have hn:=b9 b;have c:=hp _ (c9 b);obtain ⟨e,o,_⟩:=g.get c;have f:=g.set c o;rw [akF] at f;obtain ⟨a,l,j⟩:=ih (i+1) (r.set (ps[i]/8) (vu .u8 e (lN .u8 1 ((ps[i]%8:Nat))))) m (by omega) (by omega) (by simp_all);refine ⟨a,?_,j⟩;rw [<-l];unfold jM;dsimp only;rw [nI,kY b,ca,bG,qt,hn,mj,ah,show Int.tdiv ((ps[i]:Nat)) 8=((ps[i]/8:Nat)) from rfl,bB (by omega),fu o,ah,show Int.tmod ((ps[i]:Nat)) 8=((ps[i]%8:Nat)) from rfl,aO (cb (by omega)),gx,nx (by omega)]
 obtain ⟨a,l,j⟩:=key ps.length 0 row an (by omega) (by show ps.length<2^64;omega) (by
  have:xK p (ps.take 0)=p:=by funext n;simp [xK]
  rw [this];exact h)
 grind
variable {b : Bl} {M K : Nat} {seed : Int} {p0 p1 p2 : Nat -> Bool}
theorem OP(key:zl)(seed:Int)(K M:Nat):(rS key seed K M).length=K:=by simp [rS]
theorem QA.pl(h:QA b M K seed p0 p1 p2){key:zl}(hk:Key key):o6 key b.2.2.1 b.2.1 b.1=some ((rS key seed K M).map λn:Nat=>(n:Int)):=by rw [h.m,h.k,h.s];exact aiK hk.short seed h.k1.2 (by have:=h.m1;omega) (by have:=h.m1;omega)
theorem ad6(h:QA b M K seed p0 p1 p2){key:zl}(hk:Key key):wa b key=some ((rS key seed K M).all p0):=by
 have hm:=h.m1;have hl:=OP key seed K M;have f:=h.k1;unfold wa RC N5;rw [h.pl hk,ah];rw [ab0 (ps:=rS key seed K M) h.r0 (Cl (by omega)) hm.2 (by omega) _ (λk c i n e hn d=>?_) (λk c=>?_),ah,ah]
 .have a:=Cl (by omega) n (fm hn);have:=pS hn;unfold EB;simp only [aK];rw [nI,kY (pS hn),ca,bG,qt,hn,mj,ah,show Int.tdiv ((n:Nat)) 8=((n/8:Nat)) from rfl,bB (by omega),fu d,ah,show Int.tmod ((n:Nat)) 8=((n%8:Nat)) from rfl,aO (cb (by omega)),nx (by omega)];rfl
 simp_all [EB,o5]
theorem apv(h:QA b M K seed p0 p1 p2){key:zl}(hk:Key key):∃b',Bt b key=some (b',!(rS key seed K M).all p0)/\QA b' M K seed (xK p0 (rS key seed K M)) p1 p2:=by
 have hm:=h.m1;have hl:=OP key seed K M;have e:=h.k1;unfold Bt;rw [ad6 h hk,ah];cases ha:(rS key seed K M).all p0
 .obtain ⟨a,d,c⟩:=Sg h.r0 (Cl (by omega)) hm.2 (by omega) (ps:=rS key seed K M);unfold Ro Ah;rw [b7,uZ (by rw [h.r0.len];omega),ah];rw [h.pl hk,ah,d,ah,ah];exact ⟨_,rfl,⟨h.m,h.k,h.s,h.m1,h.k1,c,h.r1,h.r2⟩⟩
 .have:xK p0 (rS key seed K M)=p0:=by
   funext n
   simp_all [xK,qo]
  grind
def AM(key:zl)(seed:Int)(K M:Nat)(p0:Nat->Bool)(flag:Int):Int:=if flag<0\/1<flag then 1 else if (rS key seed K M).all p0=true then 0 else 10
theorem ajc(h:QA b M K seed p0 p1 p2){key:zl}(hk:Key key)(a:Int):EY b key a=some (AM key seed K M p0 a):=by
 unfold EY AM;simp [aK];by_cases hb:a<0\/1<a
 .grind
 .rw [dk hb,show (decide (a<0)||decide (1<a))=false by simp;omega,b7,ad6 h hk,ah];grind
theorem atk: @GF= @jM:=rfl
theorem atd: @G3= @jM:=rfl
theorem aoH(h:QA b M K seed p0 p1 p2){key:zl}(hk:Key key)(a:Int):∃b',KV b key a=some (b',AM key seed K M p0 a)/\
  QA b' M K seed p0 (if AM key seed K M p0 a=0/\a=0 then xK p1 (rS key seed K M) else p1) (if AM key seed K M p0 a=0/\a=1 then xK p2 (rS key seed K M) else p2):=by
 have hm:=h.m1;have hl:=OP key seed K M;have g:=h.k1;unfold KV;rw [ajc h hk,ah];by_cases f:AM key seed K M p0 a=0
 .have hb:a=0\/a=1:=by grind [AM]
  rw [f,show ((0:Int) != 0)=false from rfl,b7];rcases hb with rfl|rfl
  .obtain ⟨c,e,d⟩:=Sg h.r1 (Cl (by omega)) hm.2 (by omega) (ps:=rS key seed K M);unfold BJ Fm;rw [show (i64.wrap (1+0)==0)=false from rfl,show (i64.wrap (1+0)==1)=true from rfl,b7,ca,uZ (by rw [h.r1.len];omega),ah];rw [h.pl hk,ah,atk,e,ah,ah];refine ⟨_,rfl,?_⟩;exact ⟨h.m,h.k,h.s,h.m1,h.k1,h.r0,d,h.r2⟩
  .obtain ⟨c,e,d⟩:=Sg h.r2 (Cl (by omega)) hm.2 (by omega) (ps:=rS key seed K M);unfold BJ Fh;rw [show (i64.wrap (1+1)==0)=false from rfl,show (i64.wrap (1+1)==1)=false from rfl,show (i64.wrap (1+1)==2)=true from rfl,b7,b7,ca,uZ (by rw [h.r2.len];omega),ah];rw [h.pl hk,ah,atd,e,ah,ah];refine ⟨_,rfl,?_⟩;exact ⟨h.m,h.k,h.s,h.m1,h.k1,h.r0,h.r1,d⟩
 grind
theorem aqx(h:QA b M K seed p0 p1 p2){key:zl}(hk:Key key)(a:Int):Lm b key a=some (if AM key seed K M p0 a=0 then (rS key seed K M).all (if a=1 then p2 else p1) else false,AM key seed K M p0 a):=by
 have hm:=h.m1;have hl:=OP key seed K M;have o:=h.k1;unfold Lm;rw [ajc h hk,ah];by_cases j:AM key seed K M p0 a=0
 .have hb:a=0\/a=1:=by grind [AM]
  rw [du j,j,show ((0:Int) != 0)=false from rfl,b7];have d:∀(row:zl) (p:Nat->Bool) (r:Int),sk row M p->(∀(k:_->za) c (i:Nat) (n:Nat) e,(rS key seed K M)[i]? =some n->row[n/8]? =some e->oD b r true ((rS key seed K M).map λn:Nat=>(n)) k (c,(i))=k (c&&KX e (n%8),((i+1:Nat))))->
    BL b key r=some ((rS key seed K M).all p):=by
   intro row p r m l;unfold BL ES;rw [h.pl hk,ah,ab0 m (Cl (by omega)) hm.2 (by omega) _ l (λk c=>?_),ah];simp_all [oD,o5]
  rcases hb with rfl|rfl
  .rw [d b.2.2.2.2.1 p1 _ h.r1 (λk c i n e hn g=>?_),ah]
   .rfl
   .have f:=Cl (by omega) n (fm hn);have:=pS hn;unfold oD;simp only [aK];rw [nI,kY (pS hn),ca,bG,qt,hn,mj,ah,show (i64.wrap (1+0)==0)=false from rfl,show (i64.wrap (1+0)==1)=true from rfl,b7,ca,show Int.tdiv ((n:Nat)) 8=((n/8:Nat)) from rfl,bB (by omega),fu g,ah,show Int.tmod ((n:Nat)) 8=((n%8:Nat)) from rfl,aO (cb (by omega)),nx (by omega)];rfl
  .rw [d b.2.2.2.2.2 p2 _ h.r2 (λk c i n e hn g=>?_),ah]
   .rfl
   .have f:=Cl (by omega) n (fm hn);have:=pS hn;unfold oD;simp only [aK];rw [nI,kY (pS hn),ca,bG,qt,hn,mj,ah,show (i64.wrap (1+1)==0)=false from rfl,show (i64.wrap (1+1)==1)=false from rfl,show (i64.wrap (1+1)==2)=true from rfl,b7,b7,ca,show Int.tdiv ((n:Nat)) 8=((n/8:Nat)) from rfl,bB (by omega),fu g,ah,show Int.tmod ((n:Nat)) 8=((n%8:Nat)) from rfl,aO (cb (by omega)),nx (by omega)];rfl
 grind
structure OkL(t:St)(s:List Fd)(M K:Nat)(seed:Int)(p0 p1 p2:Nat->Bool):Prop where
 sch:t.2.1=s
 kind:t.1=4
 ok:QA t.2.2.2.2.2.2.2 M K seed p0 p1 p2
def X9(s:List Fd)(v:zl)(seed:Int)(K M:Nat):zm:=rS (enc s v) seed K M
def ahl(s:List Fd)(v:zl)(seed:Int)(K M:Nat)(p0:Nat->Bool):Bool:=(X9 s v seed K M).all p0
variable {s : List Fd} {t : St}
theorem aqE(c:jA s)(h:OkL t s M K seed p0 p1 p2)(v:zl)(hl:v.length<100000000):
  ∃t',dC t v=some (t',if pX s v=0 then (!ahl s v seed K M p0,0) else (false,pX s v))/\OkL t' s M K seed (if pX s v=0 then xK p0 (X9 s v seed K M) else p0) p1 p2:=by
 by_cases a:pX s v=0
 .have b:=sF.1 a;rw [du a,du a,(aas (in0 c h.sch b)).2.2.2.2 h.kind];unfold kX;obtain ⟨f,e,d⟩:=apv h.ok (Br c b);rw [Eu c h.sch b,ah,e,ah];exact ⟨_,rfl,⟨h.sch,h.kind,d⟩⟩
 .rw [dk a,dk a];unfold dC;rw [h.sch,wH s v hl,ah,show (pX s v != 0)=true by simpa using a,ca];exact ⟨t,rfl,h⟩
def DE(s:List Fd)(v:zl)(seed:Int)(K M:Nat)(p0:Nat->Bool)(flag:Int):Int:=if pX s v=0 then AM (enc s v) seed K M p0 flag else pX s v
theorem ao8(d:jA s)(h:OkL t s M K seed p0 p1 p2)(v:zl)(hl:v.length<100000000)(a:Int):
  ∃t',gE t v a=some (t',DE s v seed K M p0 a)/\OkL t' s M K seed p0 (if DE s v seed K M p0 a=0/\a=0 then xK p1 (X9 s v seed K M) else p1) (if DE s v seed K M p0 a=0/\a=1 then xK p2 (X9 s v seed K M) else p2):=by
 unfold DE;by_cases b:pX s v=0
 .have c:=sF.1 b;rw [du b,(acf a (in0 d h.sch c)).2.2.2.2 h.kind];unfold oX;obtain ⟨i,g,f⟩:=aoH h.ok (Br d c) a;rw [Eu d h.sch c,ah,g,ah];exact ⟨_,rfl,⟨h.sch,h.kind,f⟩⟩
 .rw [dk b,dk (λe=>b e.1),dk (λe=>b e.1)];unfold gE;rw [h.sch,wH s v hl,ah,show (pX s v != 0)=true by simpa using b,ca];exact ⟨t,rfl,h⟩
theorem ap7(d:jA s)(h:OkL t s M K seed p0 p1 p2)(v:zl)(hl:v.length<100000000)(a:Int):
  dR t v a=some (if DE s v seed K M p0 a=0 then (X9 s v seed K M).all (if a=1 then p2 else p1) else false,DE s v seed K M p0 a):=by
 unfold DE;by_cases b:pX s v=0
 .have c:=sF.1 b;rw [du b,(acI a (in0 d h.sch c)).2.2.2.2 h.kind];unfold oV;rw [Eu d h.sch c,ah,aqx h.ok (Br d c) a,ah];rfl
 .rw [dk b,dk b];unfold dR;rw [h.sch,wH s v hl,ah,show (pX s v != 0)=true by simpa using b,ca]
theorem ahm{M K:Nat}(e:1<=M/\M<=4194304)(f:1<=K/\K<=16)(seed:Int):El (M:Int) (K:Int) seed=some (((M:Int),(K:Int),seed,(List.replicate ((M+7)/8) 0,List.replicate ((M+7)/8) 0,List.replicate ((M+7)/8) 0)),0):=by
 unfold El;rw [cy (by omega),cy (by omega),cy (by omega),cy (by omega)];have hb:i64.wrap (Int.tdiv (i64.wrap ((M)+7)) 8)=(((M+7)/8:Nat)):=by rw [bB (show _/\(M:Int)+7<=_ by omega),show Int.tdiv ((M)+7) 8=(((M+7)/8:Nat)) from rfl,bB (by omega)]
 obtain ⟨m,hm⟩:∃m,an=m+4:=⟨2^64-4,rfl⟩;rw [hm,ao];generalize a:wg (M) (K) seed=F;have c1:aH ((M+7)/8) 1=true:=eC (by omega) (by omega);have c0:decide ((0:Int)<=(((M+7)/8:Nat)))=true:=cb (by omega);have d:∀k a1 a2 a3,F k (a1,a2,a3,0)=k (List.replicate ((M+7)/8) 0,a2,a3,1):=by intros;rw [<-a];unfold wg;rw [hb,gx,c0,c1];rfl
 have c:∀k a1 a2 a3,F k (a1,a2,a3,1)=k (a1,List.replicate ((M+7)/8) 0,a3,2):=by intros;rw [<-a];unfold wg;rw [hb,gx,c0,c1];rfl
 have b:∀k a1 a2 a3,F k (a1,a2,a3,2)=k (a1,a2,List.replicate ((M+7)/8) 0,3):=by intros;rw [<-a];unfold wg;rw [hb,gx,c0,c1];rfl
 rw [d,ao,c,ao,b,ao,<-a];rfl
theorem aeu(f:FI s)(e:ka s){M K:Nat}(b:1<=M/\M<=4194304)(c:1<=K/\K<=16)(o:Op)(d:o.1=4)(a:0<=o.2.1/\o.2.1<=1048576)(hm:o.2.2.2.2.1=(M:Int))(hk:o.2.2.2.2.2=(K:Int)):
  ∃t,dv s o=some (t,0)/\OkL t s M K o.2.2.2.1 (λ_=>false) (λ_=>false) (λ_=>false):=by
 rw [(Rk f e o).2.2.2.2 d];unfold jQ;simp only [aK];rw [cy (by omega),cy (by omega),tA,b7,hm,hk,ahm b c,ah];exact ⟨_,rfl,⟨rfl,d,⟨rfl,rfl,rfl,b,c,sk.zero M,sk.zero M,sk.zero M⟩⟩⟩
end So
end
end Go.Proofs.YtcgihjbfppkcfaaGreatDoor
