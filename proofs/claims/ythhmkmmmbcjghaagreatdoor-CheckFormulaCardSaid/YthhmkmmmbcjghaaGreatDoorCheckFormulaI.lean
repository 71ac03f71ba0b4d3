/- Own texts for CheckFormula, cut and joined by a program. -/
import Derived.Test.YthhmkmmmbcjghaaGreatDoorCheckFormulaH
import Derived.Lib.LaidTab
import Derived.Below
import Derived.ProofKit
set_option linter.all false
namespace Go.Proofs.YthhmkmmmbcjghaaGreatDoor
open IntKind (i32 i64)
noncomputable section
open Go.Proofs
noncomputable section
set_option maxRecDepth 100000
open Tryz
def Aj:aq:=⟨3,[.str,uC],.bool,[],U2 gL⟩
def jb(eta:Ex->Ex)(m:Sh->(R:Type)->Option R->Option R)(text:aD)(names:aF):x6:= (lz).bind λc=> ah (decide (400<(text.length:Int))) λl=> ah (decide (10<(names.length:Int))) λk=> ah (l||k) λj=> bif j then ( some c) else ( (j8 text names).bind λb=> (gX text names).bind λa=> bl c default (kM (eta b.1) (eta a.1)) λd=> ah (c&&d) λi=> ah (b.2.1==a.2.1) λh=> ah (i&&h) λg=> ah (b.2.2==a.2.2) λf=> ah (g&&f) λe=> some e)
theorem we:Ko Aj:=
 aY .o call3 func3 (al DY (al sE (al BB (al C6 aj)))) aj aj λs=>(show _=jb bf aN s.1 s.2 from by kernel_rfl).trans ((congrArg (λeta=>jb eta aN s.1 s.2) aL).trans ((congrArg (λa=>jb id a s.1 s.2) aO).trans (by kernel_rfl)))
end
theorem eP(e:Ex):1<=e.sz:=by rw [Ex.akQ];omega
theorem anN{x:Ex}:∀{l:List Ex},x∈l->x.sz<=DF l
 |y::l,h=>by
  simp only [DF];rcases List.mem_cons.1 h with rfl|h
  .omega
  .have:=anN h;omega
theorem aim:∀(l:List Ex),l.length<=DF l
 |[]=>ch _
 |x::l=>by have:=aim l;have:=eP x;simp only [DF,c9];omega
theorem Ax{e x:Ex}(h:x∈e.l):x.sz<e.sz:=by have:=anN h;rw [Ex.akQ e];omega
theorem aeG(e:Ex):e.l.length<e.sz:=by have:=aim e.l;rw [Ex.akQ e];omega
theorem aR{α ρ:Type}(x:α)(k:α->Option ρ):(some x).bind k=k x:=rfl
theorem dv{α ρ:Type}(x:α)(k:α->Option ρ):ah x k=k x:=rfl
theorem oH{α ρ:Type}(d:α)(m:Option α)(k:α->Option ρ):bl true d m k=m.bind k:=rfl
theorem LB{α ρ:Type}(d:α)(m:Option α)(k:α->Option ρ):bl false d m k=k d:=rfl
theorem Z9{l pre r:List Ex}{x:Ex}(h:l=pre++x::r):idx l (pre.length:Int)=some x:=by subst h;simp [idx]
theorem nE{n:Nat}(h:n<4611686018427387904):i64.wrap ((n:Int)+1)=((n+1:Nat):Int):=by rw [dO (by omega)];omega
theorem ap1{l pre r:List Ex}{x:Ex}(h:l=pre++x::r):decide ((pre.length:Int)<(l.length:Int))=true:=by subst h;simp;omega
theorem aqo{l pre:List Ex}(h:l=pre++[]):decide ((pre.length:Int)<(l.length:Int))=false:=by subst h;simp
def wV(op a:Int)(i b t:Bool):Int×Int×Int:=
 bif decide (op<=6)&&i then (1,0,0)
 else bif decide (6<op)&&decide (op<=12)&&i||op==13||op==14||decide (15<=op)&&decide (op<=19)&&b then (2,0,0)
 else bif decide (15<=op)&&t then (3,0,0) else (0,4,a)
mutual
def ty:Ex->Int×Int×Int
 | .mk op _ a l=>AL op a l true true true
def AL(op a:Int):List Ex->Bool->Bool->Bool->Int×Int×Int
 |[],i,b,t=>wV op a i b t
 |x::r,i,b,t=>bif (ty x).2.1 != 0 then (0,(ty x).2.1,(ty x).2.2) else AL op a r (i&&(ty x).1==1) (b&&(ty x).1==2) (t&&(ty x).1 != 1)
end
theorem adq(e:Ex):ty e=AL e.op e.at_ e.l true true true:=by cases e;simp only [ty,Ex.op,Ex.at_,Ex.l]
theorem alU(op a:Int)(i b t:Bool):(wV op a i b t).2.1=0->(wV op a i b t).1=1\/(wV op a i b t).1=2\/(wV op a i b t).1=3:=by
 unfold wV;cases decide (op<=6)&&i
 .cases decide (6<op)&&decide (op<=12)&&i||op==13||op==14||decide (15<=op)&&decide (op<=19)&&b
  .cases decide (15<=op)&&t
   .intro h;cases h
   .intro _;exact .inr (.inr rfl)
  .intro _;exact .inr (.inl rfl)
 .intro _;exact .inl rfl
theorem ai3(op a:Int):∀(l:List Ex) (i b t:Bool),(AL op a l i b t).2.1=0->(AL op a l i b t).1=1\/(AL op a l i b t).1=2\/(AL op a l i b t).1=3
 |[],i,b,t=>alU op a i b t
 |x::r,i,b,t=>by
  simp only [AL];cases h:(ty x).2.1 != 0
  .simp only [bd];exact ai3 op a r _ _ _
  .simp only [cw];intro c;rw [c] at h;cases h
theorem anz(e:Ex):(ty e).2.1=0->(ty e).1=1\/(ty e).1=2\/(ty e).1=3:=by rw [adq];exact ai3 _ _ _ _ _ _
def nN(op:Int):Int:=bif op==1||op==2||op==13||op==14 then 0 else bif op==6||op==15||op==20||op==21||op==22 then 1 else 2
def DO(op n len want vars:Int):Bool:=
 !(decide (op<1)||decide (24<op)||len != want)&& !((op==1)&&(decide (n<0)||decide (1073741824<n))||(op==2)&&(decide (n<0)||decide (vars<=n))||decide (2<op)&&n != 0)
mutual
def nz(vars:Int):Ex->Bool
 | .mk op n _ l=>DO op n (l.length:Int) (nN op) vars&&Nu vars l
def Nu(vars:Int):List Ex->Bool
 |[]=>true
 |x::r=>nz vars x&&Nu vars r
end
theorem arB(a:Int)(e:Ex):nz a e=(DO e.op e.n (e.l.length:Int) (nN e.op) a&&Nu a e.l):=by cases e;simp only [nz,Ex.op,Ex.n,Ex.l]
def tr(b:Bool):Int:=bif b then 1 else 0
def evF(op n:Int)(v:zg)(a b:Int):Int:=
 bif op==1 then n else bif op==2 then (bif decide (n<0)||decide ((v.length:Int)<=n) then 0 else v.getD n.toNat 0)
 else bif op==3 then i64.wrap (a+b) else bif op==5 then i64.wrap (a*b) else bif op==6 then i64.wrap (0-a) else bif op==4 then i64.wrap (a-b)
 else bif op==8 then tr ((a==b) != true) else bif op==7 then tr ((a==b) != false) else bif op==19 then tr ((a==b) != false)
 else bif op==12 then tr (decide (a<b) != true) else bif op==9 then tr (decide (a<b) != false) else bif op==11 then tr (decide (a<=b) != true) else bif op==10 then tr (decide (a<=b) != false)
 else bif op==13 then 1 else bif op==15 then i64.wrap (1-a) else bif op==16 then i64.wrap (a*b) else bif op==17 then max a b else bif op==18 then max (i64.wrap (1-a)) b else 0
mutual
def ev(v:zg):Ex->Int
 | .mk op n _ l=>evF op n v (RY v l) (ev1 v l)
def RY(v:zg):List Ex->Int
 |[]=>0
 |x::_=>ev v x
def ev1(v:zg):List Ex->Int
 |[]=>0
 |_::r=>RY v r
end
theorem auw(v:zg)(e:Ex):ev v e=evF e.op e.n v (RY v e.l) (ev1 v e.l):=by cases e;simp only [ev,Ex.op,Ex.n,Ex.l]
def QE(op a len i b t:Int):Int×Int×Int:=
 bif decide (op<=6)&&(i==len) then (1,0,0)
 else bif decide (7<=op)&&decide (op<=12)&&(i==len)||op==13||op==14 then (2,0,0)
 else bif decide (15<=op)&&decide (op<=19)&&(b==len) then (2,0,0)
 else bif decide (15<=op)&&(b+t==len) then (3,0,0) else (0,4,a)
mutual
def rt:Ex->Int×Int×Int
 | .mk op _ a l=>Ba op a (l.length:Int) l 0 0 0
def Ba(op a len:Int):List Ex->Int->Int->Int->Int×Int×Int
 |[],i,b,t=>QE op a len i b t
 |x::r,i,b,t=>bif (rt x).2.1 != 0 then (0,(rt x).2.1,(rt x).2.2) else Ba op a len r (bif (rt x).1==1 then i+1 else i) (bif (rt x).1==2 then b+1 else b) (bif (rt x).1==3 then t+1 else t)
end
theorem rt_eq(e:Ex):rt e=Ba e.op e.at_ (e.l.length:Int) e.l 0 0 0:=by cases e;simp only [rt,Ex.op,Ex.at_,Ex.l]
theorem ajd(op a len:Int):∀(l:List Ex) (i b t:Int),(Ba op a len l i b t).1=2->7<=op/\op<=19
 |[],i,b,t,h=>by
  simp only [Ba,QE] at h;cases c1:(decide (op<=6)&&(i==len))
  .rw [c1] at h;simp only [bd] at h;cases f:(decide (7<=op)&&decide (op<=12)&&(i==len)||op==13||op==14)
   .rw [f] at h;simp only [bd] at h;cases e:(decide (15<=op)&&decide (op<=19)&&(b==len))
    .rw [e] at h;simp only [bd] at h;cases d:(decide (15<=op)&&(b+t==len))
     .rw [d] at h;simp at h
     .rw [d] at h;simp at h
    .simp only [ar,mZ] at e;omega
   .simp only [dk,ar,mZ,eT] at f;omega
  .rw [c1] at h;simp at h
 |x::r,i,b,t,h=>by
  simp only [Ba] at h;cases c:((rt x).2.1 != 0)
  .rw [c] at h;exact ajd op a len r _ _ _ h
  .rw [c] at h;simp at h
theorem agm(op a len:Int)(e:15<=op)(d:op<=19):∀(l:List Ex) (i b t:Int),b+l.length<len->(Ba op a len l i b t).1≠2
 |[],i,b,t,hb,h=>by
  simp only [Ba,QE] at h;have c1:decide (op<=6)=false:=e9 (by omega);have m:decide (op<=12)=false:=e9 (by omega);have k:(op==13)=false:=beq_eq_false_iff_ne.2 (by omega);have j:(op==14)=false:=beq_eq_false_iff_ne.2 (by omega);have g:(b==len)=false:=beq_eq_false_iff_ne.2 (by simp at hb;omega);rw [c1,m,k,j,g] at h;simp only [p0,qy,sj,bd] at h;cases f:(decide (15<=op)&&(b+t==len))
  .rw [f] at h;simp at h
  .rw [f] at h;simp at h
 |x::r,i,b,t,hb,h=>by
  simp only [Ba] at h;simp only [c9] at hb;cases c:((rt x).2.1 != 0)
  .rw [c] at h;refine agm op a len e d r _ _ _ ?_ h;cases (rt x).1==2
   .simp only [bd];omega
   .simp only [cw];omega
  .rw [c] at h;simp at h
theorem aiH(op a len:Int)(e:15<=op)(d:op<=19):∀(l:List Ex) (i b t:Int),b+l.length<=len->(Ba op a len l i b t).1=2->∀x∈l,(rt x).1=2/\(rt x).2.1=0
 |[],_,_,_,_,_,x,hx=>by cases hx
 |y::r,i,b,t,hb,h,x,hx=>by
  simp only [Ba] at h;simp only [c9] at hb;cases c:((rt y).2.1 != 0)
  .rw [c] at h;simp only [bd] at h;cases f:((rt y).1==2)
   .rw [f] at h;exact absurd h (agm op a len e d r _ _ _ (by simp only [bd];omega))
   .rw [f] at h;rcases List.mem_cons.1 hx with rfl|hx
    .exact ⟨by simpa using f,by simpa using c⟩
    .exact aiH op a len e d r _ _ _ (by simp only [cw];omega) h x hx
  .rw [c] at h;simp at h
theorem UN(b:Bool):tr b=0\/tr b=1:=by cases b;exact .inl rfl;exact .inr rfl
theorem avb(v:zg){l:List Ex}(h:∀x∈l,ev v x=0\/ev v x=1):(RY v l=0\/RY v l=1)/\(ev1 v l=0\/ev1 v l=1):=by
 match l,h with
 |[],_=>exact ⟨.inl (by simp only [RY]),.inl (by simp only [ev1])⟩
 |[x],h=>exact ⟨by simp only [RY];exact h x (by simp),.inl (by simp only [ev1,RY])⟩
 |x::y::r,h=>exact ⟨by simp only [RY];exact h x (by simp),by simp only [ev1,RY];exact h y (by simp)⟩
theorem auJ(op n:Int)(v:zg)(a b:Int)(f:7<=op)(e:op<=19)(c:15<=op->(a=0\/a=1)/\(b=0\/b=1)):evF op n v a b=0\/evF op n v a b=1:=by
 have:op=7\/op=8\/op=9\/op=10\/op=11\/op=12\/op=13\/op=14\/op=15\/op=16\/op=17\/op=18\/op=19:=by omega
 rcases this with rfl|rfl|rfl|rfl|rfl|rfl|rfl|rfl|rfl|rfl|rfl|rfl|rfl
 .exact UN _
 .exact UN _
 .exact UN _
 .exact UN _
 .exact UN _
 .exact UN _
 .exact .inr rfl
 .exact .inl rfl
 .obtain ⟨d,_⟩:=c (by omega);rcases d with rfl|rfl
  .exact .inr rfl
  .exact .inl rfl
 .obtain ⟨d,hb⟩:=c (by omega);rcases d with rfl|rfl <;> rcases hb with rfl|rfl
  .exact .inl rfl
  .exact .inl rfl
  .exact .inl rfl
  .exact .inr rfl
 .obtain ⟨d,hb⟩:=c (by omega);rcases d with rfl|rfl <;> rcases hb with rfl|rfl
  .exact .inl rfl
  .exact .inr rfl
  .exact .inr rfl
  .exact .inr rfl
 .obtain ⟨d,hb⟩:=c (by omega);rcases d with rfl|rfl <;> rcases hb with rfl|rfl
  .exact .inr rfl
  .exact .inr rfl
  .exact .inl rfl
  .exact .inr rfl
 .exact UN _
theorem bool01(v:zg):∀(N:Nat) (e:Ex),e.sz<=N->(rt e).1=2->ev v e=0\/ev v e=1:=by
 intro N
 induction N with
 |zero=>intro e h;have:=eP e;omega
 |succ N ih=>
  intro e h b;rw [rt_eq] at b;obtain ⟨d,a⟩:=ajd _ _ _ _ _ _ _ b;rw [auw];refine auJ _ _ _ _ _ d a (λc=>avb v (λx hx=>?_));have:=aiH _ _ _ c a _ _ _ _ (by omega) b x hx;exact ih x (by have:=Ax hx;omega) this.1
theorem aoT(op a len:Int)(i b t:Int):wV op a (i==len) (b==len) (b+t==len)=QE op a len i b t:=by
 unfold wV QE;have c:decide (6<op)=decide (7<=op):=by
  by_cases h:6<op
  .rw [ql h,ql (by omega)]
  .rw [e9 h,e9 (by omega)]
 rw [c];cases (decide (op<=6)&&(i==len))
 .cases (decide (7<=op)&&decide (op<=12)&&(i==len))
  .cases (op==13)
   .cases (op==14)
    .cases (decide (15<=op)&&decide (op<=19)&&(b==len)) <;> rfl
    .rfl
   .rfl
  .rfl
 .rfl
theorem Xu(op a len:Int):∀(r:List Ex) (m:Int) (i b t:Int),(∀x∈r,ty x=rt x)->m+r.length=len->0<=i/\0<=b/\0<=t->i+b+t=m->
  AL op a r (i==m) (b==m) (b+t==m)=Ba op a len r i b t
 |[],m,i,b,t,_,hm,h0,_=>by
  obtain rfl:m=len:=by simpa using hm
  simp only [AL,Ba];exact aoT op a m i b t
 |x::r,m,i,b,t,hx,hm,h0,hs=>by
  have e:=hx x (by simp);have one:=anz x;simp only [AL,Ba,e] at one ⊢;cases j:((rt x).2.1 != 0)
  .simp only [bd];have ih:=Xu op a len r (m+1);have g:∀y∈r,ty y=rt y:=λy h=>hx y (cb _ h);have c:m+1+(r.length:Int)=len:=by simp only [c9] at hm;omega
   have q:∀z:Int,z<=m->((z==m)&&true)=(z+1==m+1):=λz _=>by rw [Bool.and_true,qC,eT,eT];omega
   have d:∀z:Int,z<=m->((z==m)&&false)=(z==m+1):=λz k=>by rw [qy];symm;rw [beq_eq_false_iff_ne];omega
   rcases one (by simpa using j) with f|f|f
   .rw [f];have:=ih (i+1) b t g c ⟨by omega,by omega,by omega⟩ (by omega);rw [<-q i (by omega),<-d b (by omega),<-d (b+t) (by omega)] at this;exact this
   .rw [f];have:=ih i (b+1) t g c ⟨by omega,by omega,by omega⟩ (by omega);rw [show b+1+t=b+t+1 by omega,<-d i (by omega),<-q b (by omega),<-q (b+t) (by omega)] at this;exact this
   .rw [f];have:=ih i b (t+1) g c ⟨by omega,by omega,by omega⟩ (by omega);rw [show b+(t+1)=b+t+1 by omega,<-d i (by omega),<-d b (by omega),<-q (b+t) (by omega)] at this;exact this
  .rfl
theorem Yk:∀(N:Nat) (e:Ex),e.sz<=N->ty e=rt e:=by
 intro N
 induction N with
 |zero=>intro e h;have:=eP e;omega
 |succ N ih=>
  intro e h;rw [adq,rt_eq];exact Xu e.op e.at_ (e.l.length:Int) e.l 0 0 0 0 (λx hx=>ih x (by have:=Ax hx;omega)) (by omega) ⟨by omega,by omega,by omega⟩ rfl
theorem anp{a:Int}{e:Ex}(h:nz a e=true):(1<=e.op/\e.op<=24)/\(e.l.length:Int)=nN e.op/\(e.op=1->0<=e.n/\e.n<=1073741824)/\(e.op=2->0<=e.n/\e.n<a)/\∀x∈e.l,nz a x=true:=by
 rw [arB] at h;simp only [DO,ar,eF,qh,tj,bne_eq_false_iff_eq,Bool.and_eq_false_imp,eT] at h;obtain ⟨⟨⟨⟨i,g⟩,f⟩,⟨d,c⟩,_⟩,b⟩:=h;refine ⟨by omega,f,λh=>by have:=d h;omega,λh=>by have:=c h;omega,?_⟩;have:∀(l:List Ex),Nu a l=true->∀x∈l,nz a x=true:=λl=>by
  induction l with
  |nil=>intro _ x hx;cases hx
  |cons y r ih=>
   intro h x hx;simp only [Nu,ar] at h;rcases List.mem_cons.1 hx with rfl|hx
   .exact h.1
   .exact ih h.2 x hx
 exact this _ b
theorem aa1(k:Ex->Option (Int×Int×Int))(e:Ex)(hk:∀x∈e.l,k x=some (ty x))(hl:e.l.length<4611686018427387904):
  ∀(r pre:List Ex),e.l=pre++r->∀(M:Nat) (i b t:Bool),r.length<M->aw (sH k e) M (i,b,t,(pre.length:Int))=some (AL e.op e.at_ r i b t)
 |[],pre,h,M,i,b,t,hM=>by
  obtain ⟨m,rfl⟩:∃m,M=m+1:=⟨M-1,by simp at hM;omega⟩;rw [bz];simp only [sH,aqo h,bd,dv,Dj,AL,wV];generalize decide (e.op<=6)=c1;generalize decide (6<e.op)=n;generalize decide (e.op<=12)=j;generalize (e.op==13)=g;generalize (e.op==14)=f;generalize decide (15<=e.op)=d;generalize decide (e.op<=19)=c;cases c1 <;> cases i <;> cases n <;> cases j <;> cases g <;> cases f <;> cases d <;> cases c <;> cases b <;> cases t <;> rfl
 |x::r,pre,h,M,i,b,t,hM=>by
  obtain ⟨m,rfl⟩:∃m,M=m+1:=⟨M-1,by omega⟩;rw [bz];have hx:k x=some (ty x):=hk x (by rw [h];simp);have a:pre.length<4611686018427387904:=by rw [h] at hl;simp at hl;omega
  have ih:=aa1 k e hk hl r (pre++[x]) (by rw [h];simp) m (i&&(ty x).1==1) (b&&(ty x).1==2) (t&&(ty x).1 != 1) (by simp at hM;omega);rw [show ((pre++[x]).length:Int)=((pre.length+1:Nat):Int) by simp] at ih;simp only [sH,ap1 h,cw,Z9 h,aR,hx,dv,nE a,AL];cases (ty x).2.1 != 0
  .exact ih
  .rfl
theorem am4:∀(N:Nat) (e:Ex),e.sz<=N->e.sz<4611686018427387904->aw (λk s=>Az k s) N e=some (ty e):=by
 intro N
 induction N with
 |zero=>intro e h;have:=eP e;omega
 |succ N ih=>
  intro e h hb;rw [bz];show aw (sH _ e) ax (true,true,true,0)=_;have hl:=aeG e;have:=aa1 (aw (λk s=>Az k s) N) e (λx hx=>ih x (by have:=Ax hx;omega) (by have:=Ax hx;omega)) (by omega) e.l [] rfl ax true true true (by show e.l.length<2^64;omega);rw [adq];exact this
theorem aiR(e:Ex)(h:e.sz<4611686018427387904):kO e=some (ty e):=am4 ax e (by show e.sz<=2^64;omega) h
theorem XR(k:Ex->Option (Int×Int×Int))(e:Ex)(hk:∀x∈e.l,k x=some (rt x))(hl:e.l.length<1152921504606846976):
  ∀(r pre:List Ex),e.l=pre++r->∀(M:Nat) (i b t:Int),0<=i/\i<=pre.length->0<=b/\b<=pre.length->0<=t/\t<=pre.length->r.length<M->
   aw (ie k e) M (i,b,t,(pre.length:Int))=some (Ba e.op e.at_ (e.l.length:Int) r i b t)
 |[],pre,h,M,i,b,t,hi,hb,c,hM=>by
  obtain ⟨m,rfl⟩:∃m,M=m+1:=⟨M-1,by simp at hM;omega⟩;rw [bz];have a:pre.length<1152921504606846976:=by rw [h] at hl;simp at hl;omega
  have j:i64.wrap (b+t)=b+t:=dO (by omega);simp only [ie,aqo h,bd,dv,Ba,QE,j];generalize (decide (e.op<=6)&&(i==(e.l.length:Int)))=c1;generalize (decide (7<=e.op)&&decide (e.op<=12)&&(i==(e.l.length:Int))||e.op==13||e.op==14)=p;generalize (decide (15<=e.op)&&decide (e.op<=19)&&(b==(e.l.length:Int)))=o;generalize (decide (15<=e.op)&&(b+t==(e.l.length:Int)))=n;cases c1 <;> cases p <;> cases o <;> cases n <;> rfl
 |x::r,pre,h,M,i,b,t,hi,hb,c,hM=>by
  obtain ⟨m,rfl⟩:∃m,M=m+1:=⟨M-1,by omega⟩;rw [bz];have hx:k x=some (rt x):=hk x (by rw [h];simp);have a:pre.length<1152921504606846976:=by rw [h] at hl;simp at hl;omega
  have ih:=λi b t hi hb c=>XR k e hk hl r (pre++[x]) (by rw [h];simp) m i b t hi hb c (by simp at hM;omega);have hp:((pre++[x]).length:Int)=((pre.length+1:Nat):Int):=by simp
  rw [hp] at ih;have f:i64.wrap (i+1)=i+1:=dO (by omega);have g:i64.wrap (b+1)=b+1:=dO (by omega);have d:i64.wrap (t+1)=t+1:=dO (by omega);simp only [ie,nR,vw,ap1 h,cw,Z9 h,aR,hx,dv,nE (show pre.length<4611686018427387904 by omega),Ba,f,g,d];cases (rt x).2.1 != 0
  .simp only [bd];cases (rt x).1==1 <;> cases (rt x).1==2 <;> cases (rt x).1==3 <;> simp only [bd,cw] <;> exact ih _ _ _ (by omega) (by omega) (by omega)
  .rfl
theorem akC:∀(N:Nat) (e:Ex),e.sz<=N->e.sz<1152921504606846976->aw (λk s=>kN k s) N e=some (rt e):=by
 intro N
 induction N with
 |zero=>intro e h;have:=eP e;omega
 |succ N ih=>
  intro e h hb;rw [bz];show aw (ie _ e) ax (0,0,0,0)=_;have hl:=aeG e;rw [rt_eq];exact XR (aw (λk s=>kN k s) N) e (λx hx=>ih x (by have:=Ax hx;omega) (by have:=Ax hx;omega)) (by omega) e.l [] rfl ax 0 0 0 (by simp) (by simp) (by simp) (by show e.l.length<2^64;omega)
theorem agC(e:Ex)(h:e.sz<1152921504606846976):gZ e=some (rt e):=akC ax e (by show e.sz<=2^64;omega) h
namespace Cf
def lit(e:Ex):Bool:=(ty e).2.1==0&&(ty e).1==2
theorem Jm(e:Ex)(h:e.sz<1125899906842624):nG e=some (lit e):=by unfold nG;rw [aiR e (by omega)];rfl
theorem kU(e:Ex)(h:e.sz<1125899906842624):gm e=some (lit e):=by unfold gm;rw [agC e (by omega),<-Yk e.sz e (ch _)];rfl
inductive Fm:Ex->Int->Prop
 |lit {e}:lit e=true->Fm e 1
 |neg {e a n}:lit e=false->e.op=15->e.l=[a]->Fm a n->Fm e n
 |nxt {e a n}:lit e=false->e.op=20->e.l=[a]->Fm a n->Fm e (1+n)
 |ev {e a n}:lit e=false->(e.op=21\/e.op=22)->e.l=[a]->Fm a n->Fm e (2+n)
 |iff {e a b n m}:lit e=false->e.op=19->e.l=[a,b]->Fm a n->Fm b m->Fm e (3+2*n+2*m)
 |two {e a b n m}:lit e=false->(e.op=16\/e.op=17\/e.op=18\/e.op=23\/e.op=24)->e.l=[a,b]->Fm a n->Fm b m->Fm e (1+n+m)
theorem Fm.pos{e:Ex}{n:Int}(h:Fm e n):1<=n:=by induction h <;> omega
theorem KI{e a:Ex}(h:e.l=[a]):a.sz<e.sz:=Ax (by rw [h];exact .head _)
theorem Ze{e a b:Ex}(h:e.l=[a,b]):a.sz+b.sz<e.sz:=by rw [Ex.akQ e,h];simp only [DF];omega
def szF(N:Nat):Ex×Int->y2:=aw (λk s=>cq k s.1 s.2) N
theorem Qk(N:Nat)(e:Ex)(m:Int):szF (N+1) (e,m)=cq (szF N) e m:=by unfold szF;rw [bz]
def rtF(N:Nat):Ex×Bool->Option Ex:=aw (λk s=>db k s.1 s.2) N
theorem Qn(N:Nat)(e:Ex)(b:Bool):rtF (N+1) (e,b)=db (rtF N) e b:=by unfold rtF;rw [bz]
def p4:Nat->Int
 |0=>1
 |m+1=>4*p4 m
theorem YP:∀m,m<31->1<=p4 m/\p4 m<=1152921504606846976:=by decide
theorem anH{e:Ex}{n:Int}(h:Fm e n):∀(N m:Nat),e.sz<=N->e.sz<1125899906842624->m<31->
  ∃s:Int,szF N (e,(m:Int))=some s/\1<=s/\s<2*p4 m/\(s=n\/(m:Int)<s/\(m:Int)<n):=by
 have jy:∀(k:Ex×Int->y2) (e:Ex),e.sz<1125899906842624->cq k e ((0:Nat):Int)=some 1:=λk e h=>by unfold cq;rw [kU e h];simp only [aR,dv,show decide (((0:Nat):Int)<1)=true from rfl,Bool.or_true,cw]
 have f:∀m:Nat,decide (((m+1:Nat):Int)<1)=false:=λm=>e9 (by omega);have j:∀m:Nat,m+1<31->i64.wrap (((m+1:Nat):Int)-1)=(m:Int):=λm h=>by rw [dO (by omega)];omega
 induction h with
 | @lit e h=>
  intro N m g hb c;obtain ⟨N,rfl⟩:∃k,N=k+1:=⟨N-1,by have:=eP e;omega⟩;refine ⟨1,?_,by omega,by have:=YP m c;omega,.inl rfl⟩;rw [Qk];unfold cq;rw [kU e hb,h];rfl
 | @neg e a n hl ho hc hf ih=>
  intro N m g hb c;have:=KI hc;obtain ⟨N,rfl⟩:∃k,N=k+1:=⟨N-1,by have:=eP e;omega⟩;rw [Qk];have hp:=hf.pos;cases m with
  |zero=>rw [jy _ e hb];exact ⟨1,rfl,by omega,by decide,.inr (by omega)⟩
  |succ m=>
   obtain ⟨s,d,i⟩:=ih N (m+1) (by omega) (by omega) c;unfold cq;rw [kU e hb,hl];simp only [aR,dv,f,q5,bd,ho,qT,cw,hc,show idx [a] 0=some a from rfl,d];exact ⟨s,rfl,i⟩
 | @nxt e a n hl ho hc hf ih=>
  intro N m g hb c;have:=KI hc;obtain ⟨N,rfl⟩:∃k,N=k+1:=⟨N-1,by have:=eP e;omega⟩;rw [Qk];have hp:=hf.pos;cases m with
  |zero=>rw [jy _ e hb];exact ⟨1,rfl,by omega,by decide,.inr (by omega)⟩
  |succ m=>
   obtain ⟨s,d,i⟩:=ih N m (by omega) (by omega) (by omega);have l:=YP m (by omega);unfold cq;rw [kU e hb,hl];simp only [aR,dv,f,q5,bd,ho,Int.reduceBEq,cw,hc,show idx [a] 0=some a from rfl,j m c,d];rw [dO (by omega)];exact ⟨_,rfl,by omega,by simp only [p4];omega,by omega⟩
 | @ev e a n hl ho hc hf ih=>
  intro N m g hb c;have:=KI hc;obtain ⟨N,rfl⟩:∃k,N=k+1:=⟨N-1,by have:=eP e;omega⟩;rw [Qk];have hp:=hf.pos;cases m with
  |zero=>rw [jy _ e hb];exact ⟨1,rfl,by omega,by decide,.inr (by omega)⟩
  |succ m=>
   obtain ⟨s,d,i⟩:=ih N m (by omega) (by omega) (by omega);have l:=YP m (by omega);have q:(e.op==15)=false:=beq_eq_false_iff_ne.2 (by omega);have p:(e.op==21||e.op==22)=true:=by rcases ho with h|h <;> rw [h] <;> rfl
   unfold cq;rw [kU e hb,hl];simp only [aR,dv,f,q5,bd,q,p,cw,hc,show idx [a] 0=some a from rfl,j m c,d];rw [dO (by omega)];exact ⟨_,rfl,by omega,by simp only [p4];omega,by omega⟩
 | @iff e a b n n' hl ho hc hf hf' ih ih'=>
  intro N m g hb c;have:=Ze hc;obtain ⟨N,rfl⟩:∃k,N=k+1:=⟨N-1,by have:=eP e;omega⟩;rw [Qk];have hp:=hf.pos;have o:=hf'.pos;cases m with
  |zero=>rw [jy _ e hb];exact ⟨1,rfl,by omega,by decide,.inr (by omega)⟩
  |succ m=>
   obtain ⟨s,d,i⟩:=ih N m (by omega) (by omega) (by omega);obtain ⟨t,r,A⟩:=ih' N m (by omega) (by omega) (by omega);have l:=YP m (by omega);unfold cq;rw [kU e hb,hl];simp only [aR,dv,f,q5,bd,ho,Int.reduceBEq,cw,hc,show idx [a,b] 0=some a from rfl,show idx [a,b] 1=some b from rfl,j m c,d,r];rw [dO (x:=2*s) (by omega),dO (x:=2*t) (by omega),dO (x:=3+2*s) (by omega),dO (by omega)];exact ⟨_,rfl,by omega,by simp only [p4];omega,by omega⟩
 | @two e a b n n' hl ho hc hf hf' ih ih'=>
  intro N m g hb c;have:=Ze hc;obtain ⟨N,rfl⟩:∃k,N=k+1:=⟨N-1,by have:=eP e;omega⟩;rw [Qk];have hp:=hf.pos;have o:=hf'.pos;cases m with
  |zero=>rw [jy _ e hb];exact ⟨1,rfl,by omega,by decide,.inr (by omega)⟩
  |succ m=>
   obtain ⟨s,d,i⟩:=ih N m (by omega) (by omega) (by omega);obtain ⟨t,r,A⟩:=ih' N m (by omega) (by omega) (by omega);have l:=YP m (by omega);have z:(e.op==15)=false:=beq_eq_false_iff_ne.2 (by omega);have y:(e.op==21)=false:=beq_eq_false_iff_ne.2 (by omega);have w:(e.op==22)=false:=beq_eq_false_iff_ne.2 (by omega);have v:(e.op==20)=false:=beq_eq_false_iff_ne.2 (by omega);have u:(e.op==19)=false:=beq_eq_false_iff_ne.2 (by omega);unfold cq;rw [kU e hb,hl];simp only [aR,dv,f,q5,bd,z,y,w,v,u,hc,show idx [a,b] 0=some a from rfl,show idx [a,b] 1=some b from rfl,j m c,d,r];rw [dO (x:=1+s) (by omega),dO (by omega)];exact ⟨_,rfl,by omega,by simp only [p4];omega,by omega⟩
theorem alD{e:Ex}{n:Int}(h:Fm e n):∀(N:Nat) (d:Bool),e.sz<=N->e.sz<1125899906842624->∃x,rtF N (e,d)=some x:=by
 induction h with
 | @lit e h=>
  intro N d g hb;obtain ⟨N,rfl⟩:∃k,N=k+1:=⟨N-1,by have:=eP e;omega⟩;rw [Qn];unfold db;rw [kU e hb,h];cases d
  .exact ⟨_,rfl⟩
  .exact ⟨_,rfl⟩
 | @neg e a n hl c hc hf ih=>
  intro N d g hb;have:=KI hc;obtain ⟨N,rfl⟩:∃k,N=k+1:=⟨N-1,by have:=eP e;omega⟩;rw [Qn];obtain ⟨x,f⟩:=ih N (!d) (by omega) (by omega);unfold db;rw [kU e hb,hl];simp only [aR,dv,p0,bd,c,Int.reduceBEq,cw,hc,show idx [a] 0=some a from rfl,f];exact ⟨_,rfl⟩
 | @nxt e a n hl c hc hf ih=>
  intro N d g hb;have:=KI hc;obtain ⟨N,rfl⟩:∃k,N=k+1:=⟨N-1,by have:=eP e;omega⟩;rw [Qn];obtain ⟨x,f⟩:=ih N d (by omega) (by omega);unfold db;rw [kU e hb,hl];simp only [aR,dv,p0,bd,c,Int.reduceBEq,cw,hc,show idx [a] 0=some a from rfl,f];exact ⟨_,rfl⟩
 | @ev e a n hl c hc hf ih=>
  intro N d g hb;have:=KI hc;obtain ⟨N,rfl⟩:∃k,N=k+1:=⟨N-1,by have:=eP e;omega⟩;rw [Qn];obtain ⟨x,f⟩:=ih N d (by omega) (by omega);unfold db;rw [kU e hb,hl];rcases c with c|c <;> cases d <;>
   simp only [aR,dv,p0,bd,c,Int.reduceBEq,cw,hc,show idx [a] 0=some a from rfl,f,aJ] <;>
   exact ⟨_,rfl⟩
 | @iff e a b n n' hl c hc hf hf' ih ih'=>
  intro N d g hb;have:=Ze hc;obtain ⟨N,rfl⟩:∃k,N=k+1:=⟨N-1,by have:=eP e;omega⟩;rw [Qn];obtain ⟨x,f⟩:=ih N true (by omega) (by omega);obtain ⟨o,l⟩:=ih N false (by omega) (by omega);obtain ⟨y,j⟩:=ih' N true (by omega) (by omega);obtain ⟨m,i⟩:=ih' N false (by omega) (by omega);unfold db;rw [kU e hb,hl];cases d <;>
   simp only [aR,dv,p0,bd,c,Int.reduceBEq,cw,hc,show idx [a,b] 0=some a from rfl,show idx [a,b] 1=some b from rfl,f,l,j,i,aJ] <;>
   exact ⟨_,rfl⟩
 | @two e a b n n' hl c hc hf hf' ih ih'=>
  intro N d g hb;have:=Ze hc;obtain ⟨N,rfl⟩:∃k,N=k+1:=⟨N-1,by have:=eP e;omega⟩;rw [Qn];obtain ⟨x,f⟩:=ih N true (by omega) (by omega);obtain ⟨o,l⟩:=ih N false (by omega) (by omega);obtain ⟨y,j⟩:=ih' N true (by omega) (by omega);obtain ⟨m,i⟩:=ih' N false (by omega) (by omega);unfold db;rw [kU e hb,hl];rcases c with c|c|c|c|c <;> cases d <;>
   simp only [aR,dv,p0,bd,c,Int.reduceBEq,cw,hc,show idx [a,b] 0=some a from rfl,show idx [a,b] 1=some b from rfl,f,l,j,i,aJ] <;>
   exact ⟨_,rfl⟩
end Cf
namespace Cf
def tF(N:Nat):Ex×Bool×Int->Option (Ex×Int):=aw (λk s=>gI k s.1 s.2.1 s.2.2) N
theorem Vn(N:Nat)(e:Ex)(b:Bool)(r:Int):tF (N+1) (e,b,r)=gI (tF N) e b r:=by unfold tF;rw [bz]
def Rm(sz:Nat)(n room r:Int):Prop:=(room<=0->r=room-1)/\(0<=room-> -4*(sz:Int)<=r)/\(n<=room->r=room-n)/\(room<n->r<0)
def Gs(K t room r:Int):Prop:=t<=room/\r=room-t\/room<t/\r<0/\ -K<=r
theorem Gs.step{K b t a r c n:Int}{sz:Nat}(h:Gs K t a r)(l:Rm sz n r c)(hn:1<=n)(hk:K+1<=b)(m:4*(sz:Int)<=b):Gs b (t+n) a c:=by
 obtain ⟨g,f,e,d⟩:=l;rcases h with ⟨k,j⟩|⟨k,j,o⟩
 .by_cases i:n<=r
  .exact .inl ⟨by omega,by rw [e i];omega⟩
  .exact .inr ⟨by omega,d (by omega),by have:=f (by omega);omega⟩
 .exact .inr ⟨by omega,d (by omega),by have:=g (by omega);omega⟩
theorem Gs.lim{K t a r:Int}(h:Gs K t a r)(hk:K<=1152921504606846976)(b:0<=t)(c:a<=1152921504606846976): -1152921504606846976<=r/\r<=1152921504606846976:=by unfold Gs at h;omega
theorem aoj(k:Ex×Bool×Int->Option (Ex×Int))(e:Ex)(b:Bool){a:Int}(h: -1152921504606846976<=a/\a<=0):gI k e b a=some (.mk 0 0 0 [],a-1):=by unfold gI;simp only [dO (x:=a-1) (by omega),ql (show a-1<0 by omega),cw]
theorem aml{e:Ex}{n:Int}(h:Fm e n):∀(N:Nat) (f:Bool) (d:Int),e.sz<=N->e.sz<1125899906842624-> -1152921504606846976<=d/\d<=1152921504606846976->
  ∃x r,tF N (e,f,d)=some (x,r)/\Rm e.sz n d r:=by
 have out:∀{e:Ex} {n:Int} (N:Nat) (f:Bool) (d:Int),1<=n->e.sz<=N-> -1152921504606846976<=d/\d<=0->∃x r,tF N (e,f,d)=some (x,r)/\Rm e.sz n d r:=λ{e n} N f d hn i p=>by have:=eP e;obtain ⟨N,rfl⟩:∃k,N=k+1:=⟨N-1,by omega⟩;rw [Vn,aoj _ e f p];exact ⟨_,_,rfl,λ_=>rfl,by omega,by omega,by omega⟩
 induction h with
 | @lit e h=>
  intro N f d i hb p;by_cases v:d<=0
  .exact out N f d (by omega) i (by omega)
  obtain ⟨N,rfl⟩:∃k,N=k+1:=⟨N-1,by have:=eP e;omega⟩;rw [Vn];unfold gI;rw [dO (x:=d-1) (by omega),e9 (show ¬d-1<0 by omega),Jm e hb,h];have:=eP e;cases f
  .exact ⟨_,_,rfl,by omega,by omega,by omega,by omega⟩
  .exact ⟨_,_,rfl,by omega,by omega,by omega,by omega⟩
 | @neg e a n hl g hc hf ih=>
  intro N f d i hb p;have hp:=hf.pos;by_cases v:d<=0
  .exact out N f d (by omega) i (by omega)
  have:=KI hc;obtain ⟨N,rfl⟩:∃k,N=k+1:=⟨N-1,by omega⟩;rw [Vn];obtain ⟨x,r,u,s,q,C,B⟩:=ih N (!f) d (by omega) (by omega) p;unfold gI;rw [dO (x:=d-1) (by omega),e9 (show ¬d-1<0 by omega),Jm e hb,hl];simp only [aR,dv,bd,g,Int.reduceBEq,cw,bp,hc,show idx [a] 0=some a from rfl,Int.sub_add_cancel,dO (x:=d) (by omega),u];exact ⟨_,_,rfl,by omega,by omega,by omega,by omega⟩
 | @nxt e a n hl g hc hf ih=>
  intro N f d i hb p;have hp:=hf.pos;by_cases v:d<=0
  .exact out N f d (by omega) i (by omega)
  have:=KI hc;obtain ⟨N,rfl⟩:∃k,N=k+1:=⟨N-1,by omega⟩;rw [Vn];obtain ⟨x,r,u,s,q,C,B⟩:=ih N f (d-1) (by omega) (by omega) (by omega);unfold gI;rw [dO (x:=d-1) (by omega),e9 (show ¬d-1<0 by omega),Jm e hb,hl];simp only [aR,dv,bd,g,Int.reduceBEq,cw,bp,hc,show idx [a] 0=some a from rfl,dO (x:=d-1) (by omega),u];exact ⟨_,_,rfl,by omega,by omega,by omega,by omega⟩
 | @ev e a n hl g hc hf ih=>
  intro N f d i hb p;have hp:=hf.pos;by_cases v:d<=0
  .exact out N f d (by omega) i (by omega)
  have:=KI hc;obtain ⟨N,rfl⟩:∃k,N=k+1:=⟨N-1,by omega⟩;rw [Vn];obtain ⟨x,r,u,s,q,C,B⟩:=ih N f (d-1-1) (by omega) (by omega) (by omega);unfold gI;rw [dO (x:=d-1) (by omega),e9 (show ¬d-1<0 by omega),Jm e hb,hl];have L:Rm e.sz (2+n) d r:=⟨by omega,by omega,by omega,by omega⟩;rcases g with g|g <;> cases f <;>
   simp only [aR,dv,bd,g,Int.reduceBEq,cw,bp,eM,JB,pz,hc,show idx [a] 0=some a from rfl,dO (x:=d-1) (by omega),dO (x:=d-1-1) (by omega),u] <;>
   exact ⟨_,_,rfl,L⟩
 | @iff e a b n m hl g hc hf hf' ih ih'=>
  intro N f d i hb p;have hp:=hf.pos;have o:=hf'.pos;by_cases v:d<=0
  .exact out N f d (by omega) i (by omega)
  have:=Ze hc;obtain ⟨N,rfl⟩:∃k,N=k+1:=⟨N-1,by omega⟩;rw [Vn];have K:=eP a;have J:=eP b;have G:Gs (4*(a.sz+b.sz:Nat)) 3 d (d-1-2):=by unfold Gs;omega
  obtain ⟨F,l,z,s⟩:=ih N false (d-1-2) (by omega) (by omega) (by omega);have t:Gs (4*(a.sz+b.sz:Nat)+1) (3+n) d l:=G.step s hp (by omega) (by omega);obtain ⟨E,j,w,q⟩:=ih' N f l (by omega) (by omega) (t.lim (by omega) (by omega) (by omega));have A:Gs (4*(a.sz+b.sz:Nat)+2) (3+n+m) d j:=t.step q o (by omega) (by omega);obtain ⟨Q,I,D,C⟩:=ih N true j (by omega) (by omega) (A.lim (by omega) (by omega) (by omega));have O:Gs (4*(a.sz+b.sz:Nat)+3) (3+n+m+n) d I:=A.step C hp (by omega) (by omega);obtain ⟨P,H,M,B⟩:=ih' N (!f) I (by omega) (by omega) (O.lim (by omega) (by omega) (by omega));have R:Gs (4*(a.sz+b.sz:Nat)+4) (3+n+m+n+m) d H:=O.step B o (by omega) (by omega);have L:Rm e.sz (3+2*n+2*m) d H:=by unfold Gs at R;refine ⟨by omega,by omega,by omega,by omega⟩
  unfold gI;rw [dO (x:=d-1) (by omega),e9 (show ¬d-1<0 by omega),Jm e hb,hl];simp only [aR,dv,bd,g,Int.reduceBEq,cw,bp,px,hc,show idx [a,b] 0=some a from rfl,show idx [a,b] 1=some b from rfl,dO (x:=d-1-2) (by omega),z,w,D,M];exact ⟨_,_,rfl,L⟩
 | @two e a b n m hl g hc hf hf' ih ih'=>
  intro N f d i hb p;have hp:=hf.pos;have o:=hf'.pos;by_cases v:d<=0
  .exact out N f d (by omega) i (by omega)
  have:=Ze hc;obtain ⟨N,rfl⟩:∃k,N=k+1:=⟨N-1,by omega⟩;rw [Vn];have K:=eP a;have J:=eP b;have go:∀c:Bool,∃x l y j,tF N (a,c,d-1)=some (x,l)/\tF N (b,f,l)=some (y,j)/\Rm e.sz (1+n+m) d j:=λc=>by
   have G:Gs (4*(a.sz+b.sz:Nat)) 1 d (d-1):=by unfold Gs;omega
   obtain ⟨F,l,z,s⟩:=ih N c (d-1) (by omega) (by omega) (by omega);have t:Gs (4*(a.sz+b.sz:Nat)+1) (1+n) d l:=G.step s hp (by omega) (by omega);obtain ⟨E,j,w,q⟩:=ih' N f l (by omega) (by omega) (t.lim (by omega) (by omega) (by omega));have A:Gs (4*(a.sz+b.sz:Nat)+2) (1+n+m) d j:=t.step q o (by omega) (by omega);unfold Gs at A;exact ⟨F,l,E,j,z,w,by omega,by omega,by omega,by omega⟩
  obtain ⟨F,l,E,j,z,w,D⟩:=go f;obtain ⟨Q,I,P,H,M,T,S⟩:=go (!f);unfold gI;rw [dO (x:=d-1) (by omega),e9 (show ¬d-1<0 by omega),Jm e hb,hl];have U:Rm e.sz (1+n+m) d j:=D;rcases g with g|g|g|g|g <;>
   simp only [aR,dv,bd,g,Int.reduceBEq,cw,Ui,bp,hc,show idx [a,b] 0=some a from rfl,show idx [a,b] 1=some b from rfl,dO (x:=d-1) (by omega),z,w,M,T] <;>
   cases f <;> first|exact ⟨_,_,rfl,D⟩|exact ⟨_,_,rfl,S⟩
theorem ar1{l:List Ex}(h:l.length=2):∃a b,l=[a,b]:=by
 match l,h with
 |[a,b],_=>exact ⟨a,b,rfl⟩
theorem al9(op a:Int)(i b t:Bool)(h:(wV op a i b t).1=3):15<=op/\t=true:=by
 unfold wV at h;cases c:decide (op<=6)&&i
 .cases e:decide (6<op)&&decide (op<=12)&&i||op==13||op==14||decide (15<=op)&&decide (op<=19)&&b
  .cases d:decide (15<=op)&&t
   .rw [c,e,d] at h;simp at h
   .simpa using d
  .rw [c,e] at h;simp at h
 .rw [c] at h;simp at h
theorem abv(op a:Int):∀(l:List Ex) (i b t:Bool),(AL op a l i b t).2.1=0->(AL op a l i b t).1=3->15<=op/\t=true/\∀x∈l,(ty x).2.1=0/\(ty x).1≠1
 |[],i,b,t,_,h=>by
  obtain ⟨f,c⟩:=al9 op a i b t h;exact ⟨f,c,λx hx=>by cases hx⟩
 |x::r,i,b,t,h0,h=>by
  simp only [AL] at h0 h;cases e:(ty x).2.1 != 0
  .rw [e] at h0 h;obtain ⟨f,c,g⟩:=abv op a r _ _ _ h0 h;simp only [ar,bne_iff_ne,ne_eq] at c;exact ⟨f,c.1,λy d=>by
    rcases List.mem_cons.1 d with rfl|d
    .exact ⟨bne_eq_false_iff_eq.1 e,c.2⟩
    .exact g y d⟩
  .rw [e] at h;simp at h
theorem aup{j:Int}:∀(N:Nat) (e:Ex),e.sz<=N->nz j e=true->(ty e).2.1=0->(ty e).1≠1->∃n,Fm e n:=by
 intro N
 induction N with
 |zero=>intro e h;have:=eP e;omega
 |succ N ih=>
  intro e v p k t;cases hl:lit e
  .have r:(ty e).1=3:=by
    rcases anz e k with h|h|h
    .exact absurd h t
    .rw [lit,k,h] at hl;cases hl
    .exact h
   rw [adq] at k r;obtain ⟨t1,_,t2⟩:=abv _ _ _ _ _ _ k r;obtain ⟨u,q,_,_,s⟩:=anp p;have g:∀x∈e.l,∃n,Fm x n:=λx hx=>ih x (by have:=Ax hx;omega) (s x hx) (t2 x hx).1 (t2 x hx).2;have o:e.op=15\/e.op=16\/e.op=17\/e.op=18\/e.op=19\/e.op=20\/e.op=21\/e.op=22\/e.op=23\/e.op=24:=by omega
   have one:nN e.op=1->∃a n,e.l=[a]/\Fm a n:=λh=>by rw [h] at q;obtain ⟨a,i⟩:=List.length_eq_one_iff.1 (by omega:e.l.length=1);obtain ⟨n,hn⟩:=g a (by rw [i];exact .head _);exact ⟨a,n,i,hn⟩
   have two:nN e.op=2->∃a b n m,e.l=[a,b]/\Fm a n/\Fm b m:=λh=>by rw [h] at q;obtain ⟨a,b,i⟩:=ar1 (show e.l.length=2 by omega);obtain ⟨n,hn⟩:=g a (by rw [i];exact .head _);obtain ⟨m,p⟩:=g b (by rw [i];exact .tail _ (.head _));exact ⟨a,b,n,m,i,hn,p⟩
   rcases o with h|h|h|h|h|h|h|h|h|h
   .obtain ⟨a,n,d,c⟩:=one (by rw [h];rfl);exact ⟨_,.neg hl h d c⟩
   .obtain ⟨a,b,n,m,d,c,f⟩:=two (by rw [h];rfl);exact ⟨_,.two hl (by omega) d c f⟩
   .obtain ⟨a,b,n,m,d,c,f⟩:=two (by rw [h];rfl);exact ⟨_,.two hl (by omega) d c f⟩
   .obtain ⟨a,b,n,m,d,c,f⟩:=two (by rw [h];rfl);exact ⟨_,.two hl (by omega) d c f⟩
   .obtain ⟨a,b,n,m,d,c,f⟩:=two (by rw [h];rfl);exact ⟨_,.iff hl h d c f⟩
   .obtain ⟨a,n,d,c⟩:=one (by rw [h];rfl);exact ⟨_,.nxt hl h d c⟩
   .obtain ⟨a,n,d,c⟩:=one (by rw [h];rfl);exact ⟨_,.ev hl (by omega) d c⟩
   .obtain ⟨a,n,d,c⟩:=one (by rw [h];rfl);exact ⟨_,.ev hl (by omega) d c⟩
   .obtain ⟨a,b,n,m,d,c,f⟩:=two (by rw [h];rfl);exact ⟨_,.two hl (by omega) d c f⟩
   .obtain ⟨a,b,n,m,d,c,f⟩:=two (by rw [h];rfl);exact ⟨_,.two hl (by omega) d c f⟩
  .exact ⟨_,.lit hl⟩
theorem amg{e:Ex}{n:Int}(h:Fm e n)(hb:e.sz<1125899906842624)(a:Bool):
  ∃x y,EH e a=some (bif decide (24<n) then (.mk 0 0 0 [],9) else (x,0))/\jE e a=some (bif decide (24<n) then (.mk 0 0 0 [],9) else (y,0)):=by
 obtain ⟨x,r,d,m,l,k,j⟩:=aml h ax a 24 (by show _<=2^64;omega) hb (by omega);obtain ⟨s,c,i,g,f⟩:=anH h ax 30 (by show _<=2^64;omega) hb (by omega);obtain ⟨y,b⟩:=alD h ax a (by show _<=2^64;omega) hb;refine ⟨x,y,?_,?_⟩
 .unfold EH K6;unfold tF at d;rw [d,aR];by_cases hn:24<n
  .rw [ql (show r<0 by omega),ql hn];rfl
  .rw [e9 (show ¬r<0 by omega),e9 hn];rfl
 .unfold jE mE l9;unfold szF at c;unfold rtF at b;rw [show (30:Int)=((30:Nat):Int) from rfl,c,aR,b];by_cases hn:24<n
  .rw [ql (show 24<s by omega),ql hn];rfl
  .rw [e9 (show ¬ 24<s by omega),e9 hn];rfl
end Cf
namespace Cf
theorem asu:lz=some true:=by kernel_rfl
end Cf
variable {α ρ : Type}
namespace Lx
theorem asC(xs:List α)(k:Nat):idx xs (k:Int)=xs[k]? :=by simp [idx]
theorem amh{α:Type}{xs:List α}{k:Nat}(h:k<xs.length):idx xs (k:Int)=some xs[k]:=by rw [asC,cB h]
theorem bz{σ:Type}(F:(σ->Option ρ)->σ->Option ρ)(n:Nat)(s:σ):aw F (n+1) s=F (aw F n) s:=rfl
theorem gU(k:Option ρ):aM true k=k:=rfl
theorem sZ(c:Bool)(k:Option ρ):xh false c k=k:=rfl
theorem sb(k:Option ρ)(g:Bool):xh g true k=k:=by cases g <;> rfl
theorem mU(d:α)(m:Option α)(k:α->Option ρ):bl true d m k=m.bind k:=rfl
theorem sC(d:α)(m:Option α)(k:α->Option ρ):bl false d m k=k d:=rfl
theorem cM(x:α)(k:α->Option ρ):(some x).bind k=k x:=rfl
theorem jd(x:α)(k:α->Option ρ):ah x k=k x:=rfl
theorem mS{i:Int}{n:Nat}(b:0<=i)(a:i<n):uy i n=true:=Ac.2 ⟨b,a⟩
theorem rM{i j:Int}{n:Nat}(c:0<=i)(b:i<=j)(a:j<=n):dV i j n=true:=DU.2 ⟨⟨c,b⟩,a⟩
theorem te{k b:Nat}(h:k*b<=140737488355328)(a:k<=9223372036854775807):aI k b=true:=by simp only [aI,ar];exact ⟨qw h,qw a⟩
theorem xl(l:aD)(k:Nat)(h:k<l.length):fB l (k:Int)=(l[k].toNat:Int):=by simp [fB,List.getD,h]
theorem aiX(l:aD)(i j:Nat):cut l (i:Int) (j:Int)=(l.drop i).take (j-i):=rfl
theorem aia(l:aD)(i:Nat):cut l (i:Int) (l.length:Int)=l.drop i:=by rw [aiX,hV (by simp)]
theorem jk{p:Prop}[Decidable p](h:p):decide p=true:=ql h
theorem lB{p:Prop}[Decidable p](h:¬p):decide p=false:=e9 h
theorem oy:ax=18446744073709551616:=rfl
abbrev Tok:=Int×aD×Int×Int
def fH(c:UInt8):Bool:=c==32||c==9||c==10||c==13
def eC(c:UInt8):Bool:=(decide (97<=c)&&decide (c<=122))||(decide (65<=c)&&decide (c<=90))||c==95
def isDigit(c:UInt8):Bool:=decide (48<=c)&&decide (c<=57)
def dF(c:UInt8):Bool:=eC c||isDigit c
def iP(c:UInt8):Bool:=c != 10
theorem ot(c d:UInt8):((c.toNat:Int)==(d.toNat:Int))=(c==d):=by
  rw [qC];simp only [eT];constructor
  . intro h;exact UInt8.toNat_inj.1 (by omega)
  . intro h;rw [h]
theorem BH(c d:UInt8):decide ((c.toNat:Int)<=(d.toNat:Int))=decide (c<=d):=by rw [qC];simp only [mZ,qP];omega
theorem sD{p:UInt8->Bool}:∀(l:aD) (k:Nat),(∀i (h:i<l.length),i<k->p l[i]=true)->k<=l.length->(∀h:k<l.length,p l[k]=false)->l.takeWhile p=l.take k
  |[],k,_,hk,_=>by simp
  |c::l,0,_,_,h2=>by
    have:=h2 (by simp);simp at this;simp [this]
  |c::l,k+1,h1,hk,h2=>by
    have a:=h1 0 (by simp) (by omega);simp at a;rw [s3,pa a,qV,sD l k (λi h b=>by
      have:=h1 (i+1) (by simp;omega) (by omega);simpa using this) (by simpa using hk) (λh=>by
      have:=h2 (by simp;omega);simpa using this)]
theorem Z8{p:UInt8->Bool}{f:Int->x6}(j:∀c:UInt8,f (c.toNat:Int)=some (p c)){text:aD}(d:text.length<9223372036854775807)
    {F:(Int->Option aD)->Int->Option aD}
    (l:∀again t1,F again t1=bif decide (t1<(text.length:Int)) then aM (uy t1 (List.length text))<|(f (fB text t1)).bind λg=>bif !g then aM (dV 0 t1 (List.length text))<|some (cut text 0 t1) else again (i64.wrap (t1+1)) else some text):
    aw F ax 0=some (text.takeWhile p):=by
  have key:∀N k,k<=text.length->text.length-k<N->(∀i (h:i<text.length),i<k->p text[i]=true)->aw F N ((k:Nat):Int)=some (text.takeWhile p):=by
    intro N
    induction N with
    |zero=>intro k _ h;omega
    |succ N ih=>
      intro k hk m hp;rw [bz,l];by_cases b:k<text.length
      . rw [jk (by omega),cw,mS (by omega) (by omega),gU,xl _ _ b,j,cM];cases a:p text[k]
        . simp only [qt,cw];rw [rM (by omega) (by omega) (by omega),gU,sD text k hp hk (λ_=>a)];simp [cut]
        . simp only [p8,bd];rw [dO (by omega)];exact ih (k+1) (by omega) (by omega) (λi h hi=>by
            rcases qB i k with e|e
            . exact hp i h e
            . have:i=k:=by omega
              subst this;exact a)
      . rw [lB (by omega),bd,sD text k hp hk (λh=>absurd h b),hV (by omega)]
  exact key ax 0 (by omega) (by rw [oy];omega) (λi _ h=>by omega)
def ym(c:UInt8):Int:=(c.toNat:Int)-48
def cj(n:Int)(s:aD):Int:=s.foldl (λn c=>10*n+ym c) n
def jy(n:Int):Bool:=decide (1073741824<n)
theorem Oi{c:UInt8}(h:isDigit c=true):0<=ym c/\ym c<=9:=by simp only [isDigit,ar,mZ,qP] at h;unfold ym;have b:(48:UInt8).toNat=48:=rfl;have a:(57:UInt8).toNat=57:=rfl;omega
theorem sI:∀(s:aD) (n:Int),0<=n->s.all isDigit=true->n<=cj n s
  |[],n,_,_=>qK _
  |c::s,n,hn,h=>by simp only [qq,ar] at h;have hd:=Oi h.1;have:=sI s (10*n+ym c) (by omega) h.2;show n<=cj (10*n+ym c) s;omega
theorem aj7(s:aD)(k:Nat)(h:k<s.length)(hd:isDigit s[k]=true):ue s k=(s[k].toNat:Int)/\lY s k=k+1:=by
  have c:(s[k].toNat:Nat)<128:=by simp only [isDigit,ar,mZ,qP] at hd;have d:(57:UInt8).toNat=57:=rfl;omega
  have b:(⟨s.toArray⟩:ByteArray).get! k=s[k]:=by show s.toArray[k]! =s[k];simp [h]
  have a:Utf8.decode ⟨s.toArray⟩ k=(s[k].toNat,1):=by unfold Utf8.decode;simp only [qn,b];rw [pa c]
  exact ⟨by simp [ue,a],by simp [lY,a]⟩
theorem aeM(s:aD)(n:Int)(k:Nat)(h:k<s.length):cj n (s.take (k+1))=10*cj n (s.take k)+ym s[k]:=by unfold cj;rw [List.take_succ_eq_append_getElem h,List.foldl_append];rfl
def cg:List aD:=[[60,45,62],[45,62],[61,61],[33,61],[60,61],[62,61],[60],[62],[61],[43],[45],[42],[40],[41],[123],[125],[59],[44],[58],[38],[124],[33]]
def ec(s:aD):aD:=(cg.find? (λg=>g.isPrefixOf s)).getD []
inductive Step where
  |skip (k:Nat)
  |err (e:Int)
  |tok (k:Int) (t:aD) (n:Int)
def step:aD->Step
  |[]=> .skip 0
  |c::s=>
    if fH c then .skip 1
    else if c==35 then .skip ((c::s).takeWhile iP).length
    else if eC c then (if 32<((c::s).takeWhile dF).length then .err 9 else .tok 1 ((c::s).takeWhile dF) 0)
    else if isDigit c then (if jy (cj 0 ((c::s).takeWhile isDigit)) then .err 9 else .tok 2 ((c::s).takeWhile isDigit) (cj 0 ((c::s).takeWhile isDigit)))
    else if ec (c::s)==[] then .err 2 else .tok 3 (ec (c::s)) 0
def gF:Nat->Nat->aD->Except (Int×Int) (List Tok)
  |0,_,_=> .ok []
  |_+1,at_,[]=> .ok [(4,[],0,(at_:Int))]
  |f+1,at_,c::s=>
    match step (c::s) with
    | .skip k=>gF f (at_+k) ((c::s).drop k)
    | .err e=> .error (e,at_)
    | .tok k t n=>match gF f (at_+t.length) ((c::s).drop t.length) with
      | .ok l=> .ok ((k,t,n,(at_:Int))::l)
      | .error e=> .error e
def res:Except (Int×Int) (List Tok)->List Tok×Int×Int
  | .ok l=>(l,0,0)
  | .error e=>([],e.1,e.2)
def tokens(s:aD):List Tok×Int×Int:=if 65536<s.length then ([],9,0) else res (gF (s.length+1) 0 s)
theorem uG(p:UInt8->Bool):∀s:aD,(s.takeWhile p).all p=true
  |[]=>rfl
  |c::s=>by
    rw [s3];split
    . rename_i h;simp only [qq,h,j2];exact uG p s
    . rfl
theorem lZ(p:UInt8->Bool)(s:aD):(s.takeWhile p).length<=s.length:=(q6 p).length_le
theorem jW{p:UInt8->Bool}{c:UInt8}{s:aD}(h:p c=true):1<=((c::s).takeWhile p).length:=by rw [s3,pa h];simp
theorem uX{c:UInt8}(h:eC c=true):dF c=true:=by simp [dF,h]
theorem abm:∀g∈cg,1<=g.length:=by decide
theorem KS{s:aD}(h:(ec s==[])=false):ec s∈cg/\ec s <+: s/\cg.find? (λg=>g.isPrefixOf s)=some (ec s):=by
  unfold ec at*;cases a:cg.find? (λg=>g.isPrefixOf s) with
  |none=>rw [a] at h;simp at h
  |some g=>
    refine ⟨s4 a,?_,rfl⟩;have:=List.find?_some a;simpa using this
theorem step_take{c:UInt8}{s:aD}(hb:fH c=false)(e:(c==35)=false){k:Int}{t:aD}{n:Int}(h:step (c::s)= .tok k t n):1<=t.length/\t <+: (c::s):=by
  simp only [step,hb,e,cL,j3] at h;cases a:eC c
  . simp only [a,cL,j3] at h;cases b:isDigit c
    . simp only [b,cL,j3] at h;cases d:(ec (c::s)==[])
      . simp only [d,cL,j3,Step.tok.injEq] at h;obtain ⟨_,rfl,_⟩:=h;obtain ⟨g,f,_⟩:=KS d;exact ⟨abm _ g,f⟩
      . simp [d] at h
    . simp only [b,oi] at h;split at h
      . cases h
      . simp only [Step.tok.injEq] at h;obtain ⟨_,rfl,_⟩:=h;exact ⟨jW b,q6 _⟩
  . simp only [a,oi] at h;split at h
    . cases h
    . simp only [Step.tok.injEq] at h;obtain ⟨_,rfl,_⟩:=h;exact ⟨jW (uX a),q6 _⟩
def EO(out:List Tok):Except (Int×Int) (List Tok)->List Tok×Int×Int
  | .ok l=>(out++l,0,0)
  | .error e=>([],e.1,e.2)
theorem Mg{s:aD}{k:Nat}{c:UInt8}{r:aD}(h:s.drop k=c::r):∃hk:k<s.length,s[k]=c:=by
  have hk:k<s.length:=by
    rcases qB k s.length with a|a
    . exact a
    . rw [qJ a] at h;cases h
  refine ⟨hk,?_⟩;rw [qz hk] at h;exact (List.cons.inj h).1
theorem Ja{c:UInt8}{s:aD}{e:Int}(h:step (c::s)= .err e):e≠0:=by
  simp only [step] at h;split at h
  . cases h
  . split at h
    . cases h
    . split at h
      . split at h
        . cases h;decide
        . cases h
      . split at h
        . split at h
          . cases h;decide
          . cases h
        . split at h
          . cases h;decide
          . cases h
theorem NC{σ:Type}{F:(σ->Option ρ)->σ->Option ρ}(p:UInt8->Bool)(s:aD)(st:Nat->σ)(r:Nat->Option ρ)
    (go:∀again k (h:k<s.length),p s[k]=true->(∀i (hi:i<s.length),i<k->p s[i]=true)->F again (st k)=again (st (k+1)))
    (c:∀again k (h:k<s.length),p s[k]=false->F again (st k)=r k)
    (last:∀again,F again (st s.length)=r s.length) (N:Nat) (e:s.length<N):aw F N (st 0)=r (s.takeWhile p).length:=by
  have key:∀N k,k<=s.length->s.length-k<N->(∀i (h:i<s.length),i<k->p s[i]=true)->aw F N (st k)=r (s.takeWhile p).length:=by
    intro N
    induction N with
    |zero=>intro k _ h;omega
    |succ N ih=>
      intro k hk e hp;rw [bz];by_cases b:k<s.length
      . cases a:p s[k]
        . rw [c _ k b a,sD s k hp hk (λ_=>a),cx,ed hk]
        . rw [go _ k b a hp];exact ih (k+1) (by omega) (by omega) (λi h hi=>by
            rcases qB i k with d|d
            . exact hp i h d
            . have:i=k:=by omega
              subst this;exact a)
      . have:k=s.length:=by omega
        subst this;rw [last,sD s s.length hp (ch _) (λh=>absurd h b),cx,Nat.min_self]
  exact key N 0 (qk _) (by omega) (λi _ h=>by omega)
def kindOf(c:UInt8):Int:=if fH c then 0 else if eC c then 1 else if isDigit c then 2 else 3
theorem ag5(c:UInt8):fH c=(((c==9||c==10)||c==13)||c==32):=by unfold fH;cases (c==32) <;> cases (c==9) <;> cases (c==10) <;> cases (c==13) <;> rfl
theorem Jz(c:UInt8):fS (c.toNat:Int)=some (kindOf c):=by unfold fS;simp only [jd];have j:=ot c 32;have i:=ot c 9;have h:=ot c 10;have g:=ot c 13;have f:=BH 97 c;have e:=BH c 122;have d:=BH 65 c;have b:=BH c 90;have a:=ot c 95;have m:=BH 48 c;have d2:=BH c 57;rw [show ((32:Int)=((32:UInt8).toNat:Int)) from rfl,show ((9:Int)=((9:UInt8).toNat:Int)) from rfl,show ((10:Int)=((10:UInt8).toNat:Int)) from rfl,show ((13:Int)=((13:UInt8).toNat:Int)) from rfl,j,i,h,g,<-ag5];rw [show ((97:Int)=((97:UInt8).toNat:Int)) from rfl,show ((122:Int)=((122:UInt8).toNat:Int)) from rfl,show ((65:Int)=((65:UInt8).toNat:Int)) from rfl,show ((90:Int)=((90:UInt8).toNat:Int)) from rfl,show ((95:Int)=((95:UInt8).toNat:Int)) from rfl,f,e,d,b,a];rw [show ((48:Int)=((48:UInt8).toNat:Int)) from rfl,show ((57:Int)=((57:UInt8).toNat:Int)) from rfl,m,d2];unfold kindOf;have l:((decide (97<=c)&&decide (c<=122))||(decide (65<=c)&&decide (c<=90))||c==95)=eC c:=rfl;have k:(decide (48<=c)&&decide (c<=57))=isDigit c:=rfl;rw [l,k];cases fH c <;> cases eC c <;> cases isDigit c <;> rfl
def di(n:Int)(s:aD):Int:=s.foldl (λn c=>if n<=1073741824 then 10*n+ym c else n) n
theorem afQ:∀(s:aD) (n:Int),1073741824<n->di n s=n
  |[],_,_=>rfl
  |c::s,n,h=>by show di (if n<=1073741824 then 10*n+ym c else n) s=n;rw [n7 (by omega)];exact afQ s n h
theorem aiC:∀(s:aD) (n:Int),0<=n->s.all isDigit=true->(jy (cj n s)=false->di n s=cj n s)/\(jy (cj n s)=true->1073741824<di n s)
  |[],n,_,_=>⟨λ_=>rfl,λh=>qG (show decide (1073741824<n)=true from h)⟩
  |c::s,n,hn,h=>by
    simp only [qq,ar] at h;have hd:=Oi h.1;have ih:=aiC s (10*n+ym c) (by omega) h.2;have d:cj n (c::s)=cj (10*n+ym c) s:=rfl;have b:di n (c::s)=di (if n<=1073741824 then 10*n+ym c else n) s:=rfl;rw [d,b];by_cases hb:n<=1073741824
    . rw [pa hb];exact ih
    . rw [n7 hb];have e:=sI s (10*n+ym c) (by omega) h.2;constructor
      . intro a;simp [jy] at a;omega
      . intro _;rw [afQ s n (by omega)];omega
theorem ND:∀(s:aD) (n:Int),0<=n->n<=10737418249->s.all isDigit=true->0<=di n s/\di n s<=10737418249
  |[],n,h,h',_=>⟨h,h'⟩
  |c::s,n,h,h',hd=>by
    simp only [qq,ar] at hd;have a:=Oi hd.1;show 0<=di (if n<=1073741824 then 10*n+ym c else n) s/\di (if n<=1073741824 then 10*n+ym c else n) s<=10737418249;split
    . exact ND s _ (by omega) (by omega) hd.2
    . exact ND s _ h h' hd.2
theorem aov(s:aD)(k:Nat)(h:k<s.length):di 0 (s.take (k+1))=if di 0 (s.take k)<=1073741824 then 10*di 0 (s.take k)+ym s[k] else di 0 (s.take k):=by
  have e:di 0 (s.take (k+1))=di (di 0 (s.take k)) [s[k]]:=by rw [List.take_succ_eq_append_getElem h];unfold di;rw [List.foldl_append]
  rw [e];rfl
theorem JE(p:UInt8->Bool)(s:aD):s.take (s.takeWhile p).length=s.takeWhile p:=
  (List.prefix_iff_eq_take.1 (q6 p)).symm
section
variable {text s : aD} {at_ : Nat} (hd : text.drop at_ = s) (hat : at_ <= text.length)
include hd hat
theorem NK:text.length=at_+s.length:=by rw [<-hd];simp;omega
theorem De(k:Nat)(h:k<s.length):fB text ((at_+k:Nat):Int)=(s[k].toNat:Int):=by
  have hl:=NK hd hat
  rw [xl text (at_+k) (by omega)];congr 2;subst hd;rw [qZ]
omit hat in
theorem aeJ(k:Nat):cut text (at_:Int) ((at_+k:Nat):Int)=s.take k:=by rw [aiX,hd];congr 1;omega
theorem auS(hl:text.length<=65536)(out:List Tok)(again7):
    aw (gb text out again7) ax (at_:Int)=again7 (out,((at_+(s.takeWhile iP).length:Nat):Int)):=by
  have b:=NK hd hat
  have c:(at_:Int)=((at_+0:Nat):Int):=rfl;rw [c];refine NC iP s (λk=>((at_+k:Nat):Int)) (λk=>again7 (out,((at_+k:Nat):Int))) ?_ ?_ ?_ ax (by rw [oy];omega)
  . intro a k h hp _;unfold gb;simp only [jd];rw [jk (by omega),mS (by omega) (by omega),De hd hat k h,sb];have:((s[k].toNat:Int) != 10)=iP s[k]:=by have:=ot s[k] 10;unfold iP bne;rw [show ((10:Int)=((10:UInt8).toNat:Int)) from rfl,this]
    rw [this,hp,Bool.and_self,cw,dO (by omega)];rfl
  . intro a k h hp;unfold gb;simp only [jd];rw [jk (by omega),mS (by omega) (by omega),De hd hat k h,sb];have:((s[k].toNat:Int) != 10)=iP s[k]:=by have:=ot s[k] 10;unfold iP bne;rw [show ((10:Int)=((10:UInt8).toNat:Int)) from rfl,this]
    rw [this,hp,qy,bd]
  . intro a;unfold gb;simp only [jd];rw [lB (by omega),sZ,p0,bd]
end
theorem S3(c:UInt8):((kindOf c==1)||(kindOf c==2))=dF c:=by
  cases hb:fH c
  . unfold kindOf dF;rw [hb];cases eC c <;> cases isDigit c <;> rfl
  . have:dF c=false:=by simp only [fH,dk,eT] at hb;rcases hb with ((rfl|rfl)|rfl)|rfl <;> decide
    unfold kindOf;rw [pa hb,this];rfl
theorem auC{text s:aD}{at_:Nat}(hd:text.drop at_=s)(hat:at_<=text.length)(hl:text.length<=65536)(out:List Tok)(again7)(d:out.length<=65536):
    aw (eS text out (at_:Int) again7) ax (at_:Int)=if 32<(s.takeWhile dF).length then some ([],9,(at_:Int)) else again7 (out++[(1,s.takeWhile dF,0,(at_:Int))],((at_+(s.takeWhile dF).length:Nat):Int)):=by
  have e:=NK hd hat
  have f:(if 32<(s.takeWhile dF).length then some ([],9,(at_:Int)) else again7 (out++[(1,s.takeWhile dF,0,(at_:Int))],((at_+(s.takeWhile dF).length:Nat):Int)))
     =(λk=>if 32<k then some ([],9,(at_:Int)) else again7 (out++[(1,s.take k,0,(at_:Int))],((at_+k:Nat):Int))) (s.takeWhile dF).length:=by
    simp only [JE]
  rw [f];have tail:∀k,k<=s.length->(bif decide (32<(i64.wrap (((at_+k:Nat):Int)-(at_:Int)))) then some ([],9,(at_:Int)) else aM (dV (at_:Int) ((at_+k:Nat):Int) (List.length text))<| aM (aI (List.length out+List.length ([(1,(cut text (at_:Int) ((at_+k:Nat):Int)),0,(at_:Int))]:List (Int×aD×Int×Int))) 40)<| again7 ((out++([(1,(cut text (at_:Int) ((at_+k:Nat):Int)),0,(at_:Int))]:List (Int×aD×Int×Int))),((at_+k:Nat):Int)))=(if 32<k then some ([],9,(at_:Int)) else again7 (out++[(1,s.take k,0,(at_:Int))],((at_+k:Nat):Int))):=by
    intro k hk;rw [dO (by omega)];by_cases b:32<k
    . rw [jk (by omega),cw,pa b]
    . rw [lB (by omega),bd,n7 b,rM (by omega) (by omega) (by omega),gU,te (by simp;omega) (by simp;omega),gU,aeJ hd]
  refine NC (F:=eS text out (at_:Int) again7) dF s (λk=>((at_+k:Nat):Int)) (λk=>if 32<k then some ([],9,(at_:Int)) else again7 (out++[(1,s.take k,0,(at_:Int))],((at_+k:Nat):Int))) ?_ ?_ ?_ ax (by rw [oy];omega)
  . intro a k h hp _;unfold eS;simp only [jd];have ke:=S3 s[k];rw [hp] at ke;rw [jk (by omega),mS (by omega) (by omega),De hd hat k h];simp only [sb,Jz,mU,cM,j2];cases c:(kindOf s[k]==1)
    . rw [c] at ke;simp only [qt,mU,cM,qs] at ke ⊢;rw [ke,cw,dO (by omega)];rfl
    . simp only [p8,sC,q3,cw];rw [dO (by omega)];rfl
  . intro a k h hp;unfold eS;simp only [jd];have ke:=S3 s[k];rw [hp] at ke;simp only [qh] at ke;rw [jk (by omega),mS (by omega) (by omega),De hd hat k h];simp only [sb,Jz,mU,cM,j2,ke.1,ke.2,qt,q5,bd];exact tail k (by omega)
  . intro a;unfold eS;simp only [jd];rw [lB (by omega)];simp only [sZ,sC,p0,bd];exact tail s.length (ch _)
theorem ajs(c:UInt8)(h:eC c=false):(kindOf c==2)=isDigit c:=by
  unfold kindOf;rw [h];cases hb:fH c
  . cases isDigit c <;> rfl
  . have:isDigit c=false:=by simp only [fH,dk,eT] at hb;rcases hb with ((rfl|rfl)|rfl)|rfl <;> decide
    rw [this];rfl
theorem afR{c:UInt8}(h:eC c=true):isDigit c=false:=by
  simp only [eC,dk,ar,mZ,eT,qP] at h;cases hd:isDigit c
  . rfl
  . simp only [isDigit,ar,mZ,qP] at hd;have e:(48:UInt8).toNat=48:=rfl;have d:(57:UInt8).toNat=57:=rfl;have b:(97:UInt8).toNat=97:=rfl;have a:(65:UInt8).toNat=65:=rfl;rcases h with (h|h)|h
    . omega
    . omega
    . subst h;have:(95:UInt8).toNat=95:=rfl;omega
theorem Lc(c:UInt8):(kindOf c==2)=isDigit c:=by
  cases hl:eC c
  . exact ajs c hl
  . unfold kindOf;rw [afR hl,hl];cases fH c <;> rfl
theorem auN{text s:aD}{at_:Nat}(hd:text.drop at_=s)(hat:at_<=text.length)(hl:text.length<=65536)(out:List Tok)(again7)(j:out.length<=65536):
    aw (eU text out (at_:Int) again7) ax ((at_:Int),0)=if jy (cj 0 (s.takeWhile isDigit)) then some ([],9,(at_:Int)) else again7 (out++[(2,s.takeWhile isDigit,cj 0 (s.takeWhile isDigit),(at_:Int))],((at_+(s.takeWhile isDigit).length:Nat):Int)):=by
  have l:=NK hd hat
  have b:=aiC (s.takeWhile isDigit) 0 (qK _) (uG _ _);have o:(if jy (cj 0 (s.takeWhile isDigit)) then some ([],9,(at_:Int)) else again7 (out++[(2,s.takeWhile isDigit,cj 0 (s.takeWhile isDigit),(at_:Int))],((at_+(s.takeWhile isDigit).length:Nat):Int)))
     =(λk=>if 1073741824<di 0 (s.take k) then some ([],9,(at_:Int)) else again7 (out++[(2,s.take k,di 0 (s.take k),(at_:Int))],((at_+k:Nat):Int))) (s.takeWhile isDigit).length:=by
    simp only [JE];cases hb:jy (cj 0 (s.takeWhile isDigit))
    . have n:=b.1 hb;rw [n];have:¬ 1073741824<cj 0 (s.takeWhile isDigit):=by simpa [jy] using hb
      rw [n7 this];rfl
    . rw [pa (b.2 hb)];rfl
  rw [o];have tail:∀k,k<=s.length->(bif decide (1073741824<di 0 (s.take k)) then some ([],9,(at_:Int)) else aM (dV (at_:Int) ((at_+k:Nat):Int) (List.length text))<| aM (aI (List.length out+List.length ([(2,(cut text (at_:Int) ((at_+k:Nat):Int)),di 0 (s.take k),(at_:Int))]:List (Int×aD×Int×Int))) 40)<| again7 ((out++([(2,(cut text (at_:Int) ((at_+k:Nat):Int)),di 0 (s.take k),(at_:Int))]:List (Int×aD×Int×Int))),((at_+k:Nat):Int)))=(if 1073741824<di 0 (s.take k) then some ([],9,(at_:Int)) else again7 (out++[(2,s.take k,di 0 (s.take k),(at_:Int))],((at_+k:Nat):Int))):=by
    intro k hk;by_cases e:1073741824<di 0 (s.take k)
    . rw [jk (by omega),cw,pa e]
    . rw [lB (by omega),bd,n7 e,rM (by omega) (by omega) (by omega),gU,te (by simp;omega) (by simp;omega),gU,aeJ hd]
  refine NC (F:=eU text out (at_:Int) again7) isDigit s (λk=>(((at_+k:Nat):Int),di 0 (s.take k))) (λk=>if 1073741824<di 0 (s.take k) then some ([],9,(at_:Int)) else again7 (out++[(2,s.take k,di 0 (s.take k),(at_:Int))],((at_+k:Nat):Int))) ?_ ?_ ?_ ax (by rw [oy];omega)
  . intro a k h hp d;unfold eU;simp only [jd];have ke:=Lc s[k];rw [hp] at ke;have g:=Oi hp;have hb:=ND (s.take k) 0 (qK _) (by omega) (by rw [qp];intro c m;obtain ⟨i,hi,rfl⟩:=List.mem_iff_getElem.1 m;rw [qY];exact d i (by simp at hi;omega) (by simp at hi;omega))
    rw [jk (by omega),mS (by omega) (by omega),De hd hat k h];simp only [sb,Jz,mU,cM,j2,ke,cw];rw [aov s k h,dO (x:=((at_+k:Nat):Int)+1) (by omega)];unfold ym at g ⊢;by_cases f:di 0 (s.take k)<=1073741824
    . rw [jk f,cw,gU,pa f,dO (x:=10*_) (by omega),dO (x:=(s[k].toNat:Int)) (by omega),dO (x:=10*_+_) (by omega),dO (by omega)];congr 2;omega
    . rw [lB f,bd,n7 f];rfl
  . intro a k h hp;unfold eU;simp only [jd];have ke:=Lc s[k];rw [hp] at ke;rw [jk (by omega),mS (by omega) (by omega),De hd hat k h];simp only [sb,Jz,mU,cM,j2,ke,bd];exact tail k (by omega)
  . intro a;unfold eU;simp only [jd];rw [lB (by omega)];simp only [sZ,sC,p0,bd];exact tail s.length (ch _)
theorem ahW:pX=some cg:=rfl
theorem atg{text:aD}{out:List Tok}{a:Int}{again7}{again122}{g:aD}{j:Int}(c:(g==[])=false)
    (d:out.length<=65536) (hi:0<=a/\a<=65536) (b:g.length<=65536):
    bT text out a again7 cg again122 (g,j)=again7 (out++[(3,g,0,a)],a+g.length):=by
  unfold bT;simp only [jd,c,qy,bd];rw [te (by simp;omega) (by simp;omega),gU,dO (by omega)]
theorem auU{text s:aD}{at_:Nat}(hd:text.drop at_=s)(hat:at_<=text.length)(hl:text.length<=65536)(out:List Tok)(again7)(e:out.length<=65536):
    aw (bT text out (at_:Int) again7 cg) ax ([],0)=if ec s==[] then some ([],2,(at_:Int)) else again7 (out++[(3,ec s,0,(at_:Int))],((at_+(ec s).length:Nat):Int)):=by
  have q:=NK hd hat
  have p:cg.length=22:=rfl;have key:∀N k,k<=cg.length->cg.length-k+1<N->(∀i (h:i<cg.length),i<k->cg[i].isPrefixOf s=false)->
      aw (bT text out (at_:Int) again7 cg) N ([],((k:Nat):Int))=if ec s==[] then some ([],2,(at_:Int)) else again7 (out++[(3,ec s,0,(at_:Int))],((at_+(ec s).length:Nat):Int)):=by
    intro N
    induction N with
    |zero=>intro k _ h;omega
    |succ N ih=>
      intro k hk y hp;rw [bz];by_cases a:k<cg.length
      . have b:cg[k]∈cg:=vc a;have o:∀g∈cg,g.length<=3/\(g==[])=false:=by decide
        have f:=o _ b;have body:bT text out (at_:Int) again7 cg (aw (bT text out (at_:Int) again7 cg) N) ([],((k:Nat):Int))=aw (bT text out (at_:Int) again7 cg) N ((if cg[k].isPrefixOf s then cg[k] else []),((k+1:Nat):Int)):=by
          generalize aw (bT text out (at_:Int) again7 cg) N=c;unfold bT;simp only [jd];rw [jk (by omega)];simp only [show (([]:aD)==[])=true from rfl,Bool.and_self,cw];rw [amh a];simp only [cM];rw [dO (x:=(text.length:Int)-(at_:Int)) (by omega),dO (x:=((k:Nat):Int)+1) (by omega)];by_cases n:cg[k].length<=s.length
          . rw [jk (by omega)];simp only [mU,cM,j2];rw [dO (by omega),rM (by omega) (by omega) (by omega),sb];have w:(at_:Int)+(cg[k].length:Int)=((at_+cg[k].length:Nat):Int):=by omega
            rw [w,aeJ hd];have v:(s.take cg[k].length==cg[k])=cg[k].isPrefixOf s:=by
              rw [qC,qQ,eT];constructor
              . intro h;rw [<-h];exact List.take_prefix ..
              . intro h;exact (List.prefix_iff_eq_take.1 h).symm
            rw [v];cases cg[k].isPrefixOf s
            . rfl
            . rfl
          . rw [lB (by omega)];simp only [sC,sZ,p0,bd];have:cg[k].isPrefixOf s=false:=by rw [mi,Ne,qQ];intro h;exact n h.length_le
            rw [this];rfl
        rw [body];cases d:cg[k].isPrefixOf s
        . exact ih (k+1) (by omega) (by omega) (λi h hi=>by
            rcases qB i k with r|r
            . exact hp i h r
            . have:i=k:=by omega
              subst this;exact d)
        . have l:ec s=cg[k]:=by
            unfold ec;have:cg.find? (λg=>g.isPrefixOf s)=some cg[k]:=by rw [List.find?_eq_some_iff_getElem];exact ⟨d,k,a,rfl,λj t=>by simp [hp j (by omega) t]⟩
            rw [this];rfl
          rw [l];obtain ⟨N,rfl⟩:∃m,N=m+1:=⟨N-1,by omega⟩;rw [bz];simp only [oi,f.2,cL,j3];rw [atg f.2 e (by omega) (by omega)];rfl
      . have:ec s=[]:=by
          unfold ec;have:cg.find? (λg=>g.isPrefixOf s)=none:=by rw [List.find?_eq_none];intro g u;obtain ⟨i,hi,rfl⟩:=List.mem_iff_getElem.1 u;simp [hp i hi (by omega)]
          rw [this];rfl
        rw [this];generalize aw (bT text out (at_:Int) again7 cg) N=c;unfold bT;simp only [jd];rw [lB (by omega)];rfl
  exact key ax 0 (by omega) (by rw [oy];omega) (λi _ h=>by omega)
theorem aqi(text:aD)(e:text.length<=65536):∀(N f at_:Nat) (out:List Tok),at_<=text.length->text.length-at_<N->text.length-at_<f->out.length<=at_->
    aw (iO text) N (out,(at_:Int))=some (EO out (gF f at_ (text.drop at_))):=by
  intro N
  induction N with
  |zero=>intro f at_ out _ h;omega
  |succ N ih=>
    intro f at_ out hat K J C;obtain ⟨f,rfl⟩:∃g,f=g+1:=⟨f-1,by omega⟩;rw [bz];generalize aw (iO text) N=a at ih ⊢;unfold iO;dsimp only;cases hd:text.drop at_ with
    |nil=>
      have u:at_=text.length:=by have:=congrArg List.length hd;simp at this;omega
      subst u;rw [lB (by omega)];simp only [bd];rw [te (by simp;omega) (by simp;omega),gU];rfl
    |cons c r=>
      obtain ⟨y,t⟩:=Mg hd;have G:(c::r).length=text.length-at_:=by rw [<-hd];simp
      have o:fB text (at_:Int)=(c.toNat:Int):=by rw [xl _ _ y,t]
      have d:∀(k:Nat) (b:List Tok),1<=k->k<=(c::r).length->b.length<=at_+k->
          a (b,((at_+k:Nat):Int))=some (EO b (gF f (at_+k) ((c::r).drop k))):=by
        intro k b F E p;rw [ih f (at_+k) b (by omega) (by omega) (by omega) p];have H:text.drop (at_+k)=(c::r).drop k:=by rw [<-hd,l7]
        rw [H]
      rw [jk (by omega)];simp only [cw,mS (show (0:Int)<=(at_:Int) by omega) (show (at_:Int)<(text.length:Int) by omega),gU,o,Jz,cM];have B:((c.toNat:Int)==35)=(c==35):=by rw [show ((35:Int)=((35:UInt8).toNat:Int)) from rfl];exact ot c 35
      rw [B];cases hb:fH c
      . have n:(kindOf c==0)=false:=by unfold kindOf;rw [hb];cases eC c <;> cases isDigit c <;> rfl
        simp only [n,bd];cases A:(c==35)
        . simp only [bd];simp only [gF,step,hb,A,cL,j3];cases i:eC c
          . have m:(kindOf c==1)=false:=by unfold kindOf;rw [hb,i];cases isDigit c <;> rfl
            simp only [m,bd,cL,j3];rw [Lc];cases v:isDigit c
            . simp only [bd,cL,j3];rw [ahW,cM,auU hd hat e out a (by omega)];cases x:(ec (c::r)==[])
              . simp only [cL,j3];obtain ⟨F,E,_⟩:=KS x;have p:=abm _ F;have w:=E.length_le;rw [d _ _ p w (by simp;omega)];cases gF f (at_+(ec (c::r)).length) ((c::r).drop (ec (c::r)).length) <;> simp [EO]
              . simp only [oi];rfl
            . simp only [cw,oi];rw [auN hd hat e out a (by omega)];cases D:jy (cj 0 ((c::r).takeWhile isDigit))
              . simp only [cL,j3];have p:=jW (s:=r) v;have w:=lZ isDigit (c::r);rw [d _ _ p w (by simp;omega)];cases gF f (at_+((c::r).takeWhile isDigit).length) ((c::r).drop ((c::r).takeWhile isDigit).length) <;> simp [EO]
              . simp only [oi];rfl
          . have m:(kindOf c==1)=true:=by unfold kindOf;rw [hb,i];rfl
            simp only [m,cw,oi];rw [auC hd hat e out a (by omega)];by_cases j:32<((c::r).takeWhile dF).length
            . rw [pa j,pa j];rfl
            . rw [n7 j,n7 j];have p:=jW (s:=r) (uX i);have w:=lZ dF (c::r);rw [d _ _ p w (by simp;omega)];simp only [];cases gF f (at_+((c::r).takeWhile dF).length) ((c::r).drop ((c::r).takeWhile dF).length) <;> simp [EO]
        . simp only [cw];rw [auS hd hat e out a];have q:1<=((c::r).takeWhile iP).length:=jW (by
            have:c=35:=by simpa using A
            subst this;decide)
          have z:=lZ iP (c::r);rw [d _ _ q z (by omega)];have l:step (c::r)= .skip ((c::r).takeWhile iP).length:=by simp [step,hb,A]
          simp only [gF,l]
      . have n:(kindOf c==0)=true:=by unfold kindOf;rw [hb];rfl
        simp only [n,cw];rw [dO (by omega)];have I:((at_:Int)+1)=((at_+1:Nat):Int):=by omega
        rw [I,d 1 out (by omega) (by omega) (by omega)];have l:step (c::r)= .skip 1:=by simp [step,hb]
        simp only [gF,l]
theorem adQ(text:aD):iw text=some (tokens text):=by
  unfold iw tokens;by_cases h:65536<text.length
  . rw [jk (by omega),cw,pa h]
  . rw [lB (by omega),bd,n7 h];have:=aqi text (by omega) ax (text.length+1) 0 [] (by omega) (by rw [oy];omega) (by omega) (by simp);simp only [n3] at this;have a:((0:Nat):Int)=0:=rfl;rw [a] at this;rw [this];cases gF (text.length+1) 0 text <;> rfl
abbrev Res:=Except (Int×Int) (List Tok)
theorem step_skip{c:UInt8}{s:aD}{k:Nat}(h:step (c::s)= .skip k):1<=k/\k<=(c::s).length:=by
  cases hb:fH c
  . cases a:(c==35)
    . simp only [step,hb,a,cL,j3] at h
      repeat (split at h <;> try (cases h))
    . simp only [step,hb,a,cL,j3,oi,Step.skip.injEq] at h;subst h;have:c=35:=by simpa using a
      subst this;exact ⟨jW (by decide),lZ _ _⟩
  . simp only [step,hb,oi,Step.skip.injEq] at h;subst h;simp
theorem Vg{c:UInt8}{s:aD}{k:Int}{t:aD}{n:Int}(h:step (c::s)= .tok k t n):fH c=false/\(c==35)=false/\1<=t.length/\t <+: (c::s):=by
  cases hb:fH c
  . cases a:(c==35)
    . obtain ⟨d,b⟩:=step_take hb a h;exact ⟨rfl,rfl,d,b⟩
    . simp only [step,hb,a,cL,j3,oi] at h;cases h
  . simp only [step,hb,oi] at h;cases h
def lex(s:aD):Res:=gF (s.length+1) 0 s
theorem akJ{s:aD}(h:s.length<=65536):tokens s=res (lex s):=by unfold tokens lex;rw [n7 (by omega)]
theorem akH:∀g∈cg,ec g=g/\∃c s,g=c::s/\fH c=false/\(c==35)=false/\eC c=false/\isDigit c=false:=by
  intro g d;have b:∀g∈cg,ec g=g/\(match g with|[]=>false|c::_=> !fH c&& !(c==35)&& !eC c&& !isDigit c)=true:=by decide
  obtain ⟨b,a⟩:=b g d;refine ⟨b,?_⟩;cases g with
  |nil=>cases a
  |cons c s=>
    simp only [ar,eF] at a;exact ⟨c,s,rfl,a.1.1.1,a.1.1.2,a.1.2,a.2⟩
end Lx
namespace Lx
theorem aqv(c:UInt8):OA (c.toNat:Int)=some (fH c):=by have e:=ot c 32;have d:=ot c 9;have b:=ot c 10;have a:=ot c 13;show some (((((c.toNat:Int)==32)||((c.toNat:Int)==9))||((c.toNat:Int)==10))||((c.toNat:Int)==13))=_;rw [show ((32:Int)=((32:UInt8).toNat:Int)) from rfl,show ((9:Int)=((9:UInt8).toNat:Int)) from rfl,show ((10:Int)=((10:UInt8).toNat:Int)) from rfl,show ((13:Int)=((13:UInt8).toNat:Int)) from rfl,e,d,b,a];rfl
theorem abD(c:UInt8):CS (c.toNat:Int)=some (eC c):=by show some ((((decide ((97:Int)<=(c.toNat:Int)))&&(decide ((c.toNat:Int)<=122)))||((decide ((65:Int)<=(c.toNat:Int)))&&(decide ((c.toNat:Int)<=90))))||((c.toNat:Int)==95))=_;have f:=BH 97 c;have e:=BH c 122;have d:=BH 65 c;have b:=BH c 90;have a:=ot c 95;rw [show ((97:Int)=((97:UInt8).toNat:Int)) from rfl,show ((122:Int)=((122:UInt8).toNat:Int)) from rfl,show ((65:Int)=((65:UInt8).toNat:Int)) from rfl,show ((90:Int)=((90:UInt8).toNat:Int)) from rfl,show ((95:Int)=((95:UInt8).toNat:Int)) from rfl,f,e,d,b,a];rfl
theorem Vo(c:UInt8):Bf (c.toNat:Int)=some (isDigit c):=by show some ((decide ((48:Int)<=(c.toNat:Int)))&&(decide ((c.toNat:Int)<=57)))=_;have b:=BH 48 c;have a:=BH c 57;rw [show ((48:Int)=((48:UInt8).toNat:Int)) from rfl,show ((57:Int)=((57:UInt8).toNat:Int)) from rfl,b,a];rfl
theorem al3(c:UInt8):CX (c.toNat:Int)=some (dF c):=by unfold CX dF;rw [abD,cM,Vo];cases eC c <;> rfl
theorem ap9(c:UInt8):BN (c.toNat:Int)=some (iP c):=by show some ((c.toNat:Int) != 10)=some (iP c);have a:=ot c 10;unfold iP bne;rw [show ((10:Int)=((10:UInt8).toNat:Int)) from rfl,a]
theorem ajV{text:aD}(h:text.length<9223372036854775807):Kk text=some (text.takeWhile dF):=Z8 al3 h (λ_ _=>rfl)
theorem amN{text:aD}(h:text.length<9223372036854775807):LP text=some (text.takeWhile isDigit):=Z8 Vo h (λ_ _=>rfl)
theorem anC{text:aD}(h:text.length<9223372036854775807):aaH text=some (text.takeWhile iP):=Z8 ap9 h (λ_ _=>rfl)
theorem an2(s:aD)(hd:s.all isDigit=true)(hl:s.length<9223372036854775807):
  Ps s=some (if jy (cj 0 s) then (0,false) else (cj 0 s,true)):=by
 have b:∀k (h:k<s.length),isDigit s[k]=true:=λk h=>List.all_eq_true.1 hd _ (vc h);have key:∀N k,k<=s.length->s.length-k<N->cj 0 (s.take k)<=1073741824->aw (wN s) N (cj 0 (s.take k),k)=some (if jy (cj 0 s) then (0,false) else (cj 0 s,true)):=by
  intro N
  induction N with
  |zero=>intro k _ h;omega
  |succ N ih=>
   intro k hk m hn;have o:0<=cj 0 (s.take k):=sI _ 0 (qK _) (by rw [qp];intro c g;exact List.all_eq_true.1 hd c (List.mem_of_mem_take g))
   rw [bz];show (bif decide (k<s.length) then _ else _)=_;by_cases a:k<s.length
   .rw [jk a,cw];obtain ⟨l,j⟩:=aj7 s k a (b k a);have f:=Oi (b k a);have d:(i64.wrap ((i64.wrap (10*cj 0 (s.take k)))+(i64.wrap (i32.wrap ((ue s k)-48)))))=cj 0 (s.take (k+1)):=by rw [l,aeM s 0 k a];unfold ym at f ⊢;rw [w32 (by omega),dO (x:=10*_) (by omega),dO (x:=(s[k].toNat:Int)-48) (by omega),dO (by omega)]
    simp only [d,j];by_cases hb:1073741824<cj 0 (s.take (k+1))
    .rw [jk hb,cw];have n:cj 0 (s.take (k+1))<=cj 0 s:=by
      have i:cj 0 s=cj (cj 0 (s.take (k+1))) (s.drop (k+1)):=by unfold cj;rw [<-List.foldl_append,qN]
      rw [i];exact sI _ _ (by omega) (by rw [qp];intro c g;exact List.all_eq_true.1 hd c (w4 g))
     rw [pa (by simp [jy];omega)]
    .rw [lB hb,bd];exact ih (k+1) (by omega) (by omega) (by omega)
   .have e:k=s.length:=by omega
    subst e;rw [lB a,bd,List.take_length] at*;rw [n7 (by simp [jy];omega)]
 exact key ax 0 (by omega) (by rw [oy];omega) (by simp [cj])
theorem aoZ:OF=some cg:=rfl
theorem anQ(s g:aD)(b:s.length<9223372036854775807):tG s g=some (g.isPrefixOf s):=by
 show (dZ s g).bind (λa=>some a)=_;have hi:dZ s g=some (g.isPrefixOf s):=by
  unfold dZ;simp only [jd];by_cases hl:g.length<=s.length
  .rw [jk (by omega),xh,cw,rM (by omega) (by omega) (by omega),cw,j2];congr 1;rw [qC,qQ,eT];have:cut s 0 (g.length:Int)=s.take g.length:=by simp [cut]
   rw [this];constructor
   .intro h;rw [<-h];exact List.take_prefix ..
   .intro h;exact (List.prefix_iff_eq_take.1 h).symm
  .rw [lB (by omega),sZ,p0];congr 1;symm;rw [mi,Ne,qQ];intro h;exact hl h.length_le
 rw [hi];rfl
theorem sign_eq(s:aD)(h:s.length<9223372036854775807):Kj s=some (ec s):=by
 unfold Kj;rw [aoZ,cM];have key:∀N k,k<=cg.length->cg.length-k<N->(∀i (h:i<cg.length),i<k->cg[i].isPrefixOf s=false)->aw (Sm s cg) N ((k:Nat):Int)=some (ec s):=by
  intro N
  induction N with
  |zero=>intro k _ h;omega
  |succ N ih=>
   intro k hk f hp;rw [bz];show (bif (decide (((k:Nat):Int)<(cg.length:Int))) then _ else _)=_;by_cases b:k<cg.length
   .rw [jk (by omega),cw,amh b,cM,anQ _ _ h,cM];cases a:cg[k].isPrefixOf s
    .simp only [bd];rw [dO (by have:cg.length=22:=rfl;omega)];exact ih (k+1) (by omega) (by omega) (λi h hi=>by
      rcases qB i k with c|c
      .exact hp i h c
      .have:i=k:=by omega
       subst this;exact a)
    .simp only [cw];congr 1;unfold ec;have:cg.find? (λg=>g.isPrefixOf s)=some cg[k]:=by rw [List.find?_eq_some_iff_getElem];exact ⟨a,k,b,rfl,λj d=>by simp [hp j (by omega) d]⟩
     rw [this];rfl
   .rw [lB (by omega),bd];congr 1;unfold ec;have:cg.find? (λg=>g.isPrefixOf s)=none:=by rw [List.find?_eq_none];intro g e;obtain ⟨i,hi,rfl⟩:=List.mem_iff_getElem.1 e;simp [hp i hi (by omega)]
    rw [this];rfl
 exact key ax 0 (by omega) (by rw [oy];have:cg.length=22:=rfl;omega) (λi _ h=>by omega)
theorem ap5(c:UInt8)(s:aD)(hb:fH c=false)(i:(c==35)=false)(hl:(c::s).length<9223372036854775807):
  G4 (c::s)=some (match step (c::s) with
   | .skip _=>((0,[],0,0),0)
   | .err e=>((0,[],0,0),e)
   | .tok k t n=>((k,t,n,0),0)):=by
 unfold G4;have b:fB (c::s) 0=(c.toNat:Int):=by have:=xl (c::s) 0 (by simp);simpa using this
 rw [mS (by omega) (by simp),gU,b,abD,cM];simp only [step,hb,i,cL,j3];cases d:eC c
 .simp only [bd,cL,j3];rw [Vo,cM];cases f:isDigit c
  .simp only [bd,cL,j3];rw [sign_eq _ hl,cM];cases h:(ec (c::s)==[])
   .simp
   .simp
  .simp only [cw,oi];rw [amN hl,cM,an2 _ (uG _ _) (by have:=lZ isDigit (c::s);omega),cM];cases g:jy (cj 0 ((c::s).takeWhile isDigit))
   .simp
   .simp
 .simp only [cw,oi];rw [ajV hl,cM];by_cases a:32<((c::s).takeWhile dF).length
  .rw [jk (by omega),cw,pa a]
  .rw [lB (by omega),bd,n7 a]
theorem agX(text:aD)(w:text.length<=65536):∀(N f at_:Nat) (out:List Tok),at_<=text.length->text.length-at_<N->text.length-at_<f->out.length<=at_->
  aw (uE text) N (out,(at_:Int))=some (EO out (gF f at_ (text.drop at_))):=by
 intro N
 induction N with
 |zero=>intro f at_ out _ h;omega
 |succ N ih=>
  intro f at_ out hat E D v;obtain ⟨f,rfl⟩:∃g,f=g+1:=⟨f-1,by omega⟩;rw [bz];generalize aw (uE text) N=s at ih ⊢;unfold uE;dsimp only;simp only [jd];cases hd:text.drop at_ with
  |nil=>
   have p:¬((at_:Int)<(text.length:Int)):=by have:=congrArg List.length hd;simp at this;omega
   have x:at_=text.length:=by omega
   rw [lB p];simp only [sZ,sC,p0,bd];rw [te (by simp;omega) (by simp;omega),gU];rfl
  |cons c r=>
   obtain ⟨o,d⟩:=Mg hd;have C:(c::r).length=text.length-at_:=by rw [<-hd];simp
   have b:fB text (at_:Int)=(c.toNat:Int):=by rw [xl _ _ o,d]
   rw [jk (by omega)];simp only [xh,cw,mS (show (0:Int)<=(at_:Int) by omega) (show (at_:Int)<(text.length:Int) by omega),mU,j2,b,aqv,cM];cases hb:fH c
   .simp only [bd];have q:((c.toNat:Int)==35)=(c==35):=by rw [show ((35:Int)=((35:UInt8).toNat:Int)) from rfl];exact ot c 35
    rw [q];cases i:(c==35)
    .simp only [bd];rw [rM (by omega) (by omega) (by omega),gU,aia,hd,ap5 c r hb i (by omega),cM];simp only [gF];cases a:step (c::r) with
     |skip k=>
      exfalso;simp only [step,hb,i,cL,j3] at a
      repeat (split at a <;> try (cases a))
     |err e=>
      have B:=Ja a;simp only [];rw [show (e != 0)=true from by simpa using B,cw];rfl
     |tok k t n=>
      obtain ⟨z,m⟩:=step_take hb i a;have y:=m.length_le;simp only [];rw [show ((0:Int) != 0)=false from rfl,bd,te (by simp;omega) (by simp;omega),gU,dO (by omega)];have l:((at_:Int)+(t.length:Int))=((at_+t.length:Nat):Int):=by omega
      rw [l,ih f (at_+t.length) (out++[(k,t,n,(at_:Int))]) (by omega) (by omega) (by omega) (by simp;omega)];have j:text.drop (at_+t.length)=(c::r).drop t.length:=by rw [<-hd,l7]
      rw [j];cases gF f (at_+t.length) ((c::r).drop t.length) <;> simp [EO]
    .simp only [cw];rw [rM (by omega) (by omega) (by omega),gU,aia,hd,anC (by omega),cM];have u:1<=((c::r).takeWhile iP).length:=jW (by
      have:c=35:=by simpa using i
      subst this;decide)
     have A:=lZ iP (c::r);rw [dO (by omega)];have l:((at_:Int)+(((c::r).takeWhile iP).length:Int))=((at_+((c::r).takeWhile iP).length:Nat):Int):=by omega
     rw [l,ih f (at_+((c::r).takeWhile iP).length) out (by omega) (by omega) (by omega) (by omega)];have j:text.drop (at_+((c::r).takeWhile iP).length)=(c::r).drop ((c::r).takeWhile iP).length:=by rw [<-hd,l7]
     rw [j];have a:step (c::r)= .skip ((c::r).takeWhile iP).length:=by simp [step,hb,i]
     simp only [gF,a]
   .simp only [cw];rw [dO (by omega)];have l:((at_:Int)+1)=((at_+1:Nat):Int):=by omega
    rw [l,ih f (at_+1) out (by omega) (by omega) (by omega) (by omega)];have j:text.drop (at_+1)=(c::r).drop 1:=by rw [<-hd,l7]
    rw [j];have a:step (c::r)= .skip 1:=by simp [step,hb]
    simp only [gF,a]
theorem alI(text:aD):sS text=some (tokens text):=by
 unfold sS tokens;by_cases h:65536<text.length
 .rw [jk (by omega),cw,pa h]
 .rw [lB (by omega),bd,n7 h];have:=agX text (by omega) ax (text.length+1) 0 [] (by omega) (by rw [oy];omega) (by omega) (by simp);simp only [n3] at this;have a:((0:Nat):Int)=0:=rfl;rw [a] at this;rw [this];cases gF (text.length+1) 0 text <;> rfl
end Lx
variable {d : Int}
def uF:List aD:=[[116,114,117,101],[102,97,108,115,101],[88],[70],[71],[85],[82],[118,97,114],[112,114,111,99]]
def alY:List aD:=[[],[],[],[43],[45],[42],[45],[61,61],[33,61],[60],[60,61],[62],[62,61],[116,114,117,101],[102,97,108,115,101],[33],[38],[124],[45,62],[60,45,62],[88],[70],[71],[85],[82]]
def bO(op:Int):aD:=alY.getD op.toNat []
namespace Pa
abbrev Tok:=Int×aD×Int×Int
abbrev Out:=Except (Int×Int) (Ex×List Tok)
def key(s:aD):Bool:=uF.contains s
def vL(t:Tok):Bool:=t.1==3||(t.1==1&&key t.2.1)
def ops:Nat->zg
 |1=>[19]
 |2=>[18]
 |3=>[17]
 |4=>[16]
 |5=>[23,24]
 |6=>[15,20,21,22]
 |7=>[7,8,9,10,11,12]
 |8=>[3,4]
 |9=>[5]
 |10=>[6]
 |11=>[13,14]
 |_=>[]
def Gw(l:zg)(t:Tok):y2:=bif vL t then l.find? (λo=>bO o==t.2.1) else none
def da(s:Nat)(t:Tok):y2:=Gw (ops s) t
def kd:Nat->Nat
 |6=>0
 |10=>0
 |1=>1
 |2=>1
 |5=>1
 |7=>1
 |3=>2
 |4=>2
 |8=>2
 |9=>2
 |11=>3
 |_=>4
def py(s:Nat):Bool:=s==1||s==2||s==5||s==6||s==10
def dn(s:Nat)(d:Int):Int:=bif py s then d+1 else d
def kE(s:Nat)(d:Int):Bool:=py s&&decide (320<=d)
def nx(s:Nat):Nat:=bif s==7 then 8 else s
def at_(names:List aD)(v:aD):za:=names.findIdx? (λx=>v==x)
def open_(t:Tok):Bool:=t.1==3&&t.2.1==[40]
def close_(t:Tok):Bool:=t.1==3&&t.2.1==[41]
def sX(t:Tok):Bool:=t.1==1&& !key t.2.1
def aok(k:Int)(a:Int)(r:Out):Out:=r.map λp=>(.mk k 0 a [p.1],p.2)
def ap7(k:Int)(a:Int)(x:Ex)(r:Out):Out:=r.map λp=>(.mk k 0 a [x,p.1],p.2)
inductive uh where
 |line (s:Nat)
 |loop (s:Nat) (a:Ex)
open uh
inductive P(names:List aD):uh->Int->List Tok->Out->Prop
 |jy {s d t ts}:kE s d=true->P names (line s) d (t::ts) (.error (9,t.2.2.2))
 |pre {s d t ts k r}:kd s=0->kE s d=false->da s t=some k->P names (line s) (dn s d) ts r->P names (line s) d (t::ts) (aok k t.2.2.2 r)
 |other {s d t ts r}:kd s=0->kE s d=false->da s t=none->P names (line (s+1)) (dn s d) (t::ts) r->P names (line s) d (t::ts) r
 |rErr {s d ts e}:kd s=1->kE s d=false->P names (line (s+1)) (dn s d) ts (.error e)->P names (line s) d ts (.error e)
 |rOne {s d ts a t ts'}:kd s=1->kE s d=false->P names (line (s+1)) (dn s d) ts (.ok (a,t::ts'))->da s t=none->P names (line s) d ts (.ok (a,t::ts'))
 |rTwo {s d ts a t ts' k r}:kd s=1->kE s d=false->P names (line (s+1)) (dn s d) ts (.ok (a,t::ts'))->da s t=some k->P names (line (nx s)) (dn s d) ts' r->P names (line s) d ts (ap7 k t.2.2.2 a r)
 |lErr {s d ts e}:kd s=2->P names (line (s+1)) d ts (.error e)->P names (line s) d ts (.error e)
 |lGo {s d ts a ts' r}:kd s=2->P names (line (s+1)) d ts (.ok (a,ts'))->P names (loop s a) d ts' r->P names (line s) d ts r
 |lpEnd {s a d t ts}:da s t=none->P names (loop s a) d (t::ts) (.ok (a,t::ts))
 |lpErr {s a d t ts k e}:da s t=some k->P names (line (s+1)) d ts (.error e)->P names (loop s a) d (t::ts) (.error e)
 |lpGo {s a d t ts k b ts' r}:da s t=some k->P names (line (s+1)) d ts (.ok (b,ts'))->P names (loop s (.mk k 0 t.2.2.2 [a,b])) d ts' r->P names (loop s a) d (t::ts) r
 |oWord {s d t ts k}:kd s=3->da s t=some k->P names (line s) d (t::ts) (.ok (.mk k 0 t.2.2.2 [],ts))
 |oNum {s d t ts}:kd s=3->da s t=none->(t.1==2)=true->P names (line s) d (t::ts) (.ok (.mk 1 t.2.2.1 t.2.2.2 [],ts))
 |oVar {s d t ts i}:kd s=3->da s t=none->(t.1==2)=false->sX t=true->at_ names t.2.1=some i->P names (line s) d (t::ts) (.ok (.mk 2 (i:Int) t.2.2.2 [],ts))
 |oName {s d t ts}:kd s=3->da s t=none->(t.1==2)=false->sX t=true->at_ names t.2.1=none->P names (line s) d (t::ts) (.error (3,t.2.2.2))
 |oOpen {s d t ts a c ts'}:kd s=3->da s t=none->(t.1==2)=false->sX t=false->open_ t=true->P names (line 1) d ts (.ok (a,c::ts'))->close_ c=true->P names (line s) d (t::ts) (.ok (a,ts'))
 |oErr {s d t ts e}:kd s=3->da s t=none->(t.1==2)=false->sX t=false->open_ t=true->P names (line 1) d ts (.error e)->P names (line s) d (t::ts) (.error e)
 |oClose {s d t ts a c ts'}:kd s=3->da s t=none->(t.1==2)=false->sX t=false->open_ t=true->P names (line 1) d ts (.ok (a,c::ts'))->close_ c=false->P names (line s) d (t::ts) (.error (2,c.2.2.2))
 |oForm {s d t ts}:kd s=3->da s t=none->(t.1==2)=false->sX t=false->open_ t=false->P names (line s) d (t::ts) (.error (2,t.2.2.2))
theorem nK{s:Nat}(h:kE s d=true):kd s=0\/kd s=1:=by unfold kE py at h;simp only [ar,dk,eT] at h;rcases h.1 with (((rfl|rfl)|rfl)|rfl)|rfl <;> simp [kd]
theorem P.det{names:List aD}{j:uh}{n:List Tok}{r l:Out}(h:P names j d n r)(b:P names j d n l):r=l:=by
 induction h generalizing l with
 |jy a=>have:=nK a;cases b <;> simp_all
 |pre a c f e ih=>cases b <;> simp_all <;> (rename_i g;rw [ih g])
 |other a c f e ih=>
  cases b with
  |other _ _ _ h=>exact ih h
  |_=>simp_all
 |rErr a c f ih=>
  cases b with
  |rErr _ _ h=>exact ih h
  |rOne _ _ h=>cases ih h
  |rTwo _ _ h=>cases ih h
  |_=>simp_all
 |rOne a c f e ih=>
  cases b with
  |rErr _ _ h=>cases ih h
  |rOne _ _ h=>exact ih h
  |rTwo _ _ h g=>cases ih h;simp_all
  |_=>simp_all
 |rTwo a c f e g ih i=>
  cases b with
  |rErr _ _ h=>cases ih h
  |rOne _ _ h=>cases ih h;simp_all
  |rTwo _ _ h k m=>cases ih h;rw [e] at k;cases k;rw [i m]
  |_=>simp_all
 |lErr a c ih=>
  cases b with
  |lErr _ h=>exact ih h
  |lGo _ h=>cases ih h
  |jy h=>have:=nK h;simp_all
  |_=>simp_all
 |lGo a c f ih i=>
  cases b with
  |lErr _ h=>cases ih h
  |lGo _ h e=>cases ih h;exact i e
  |jy h=>have:=nK h;simp_all
  |_=>simp_all
 |lpEnd a=>cases b <;> simp_all
 |lpErr a c ih=>
  cases b with
  |lpErr _ h=>exact ih h
  |lpGo _ h=>cases ih h
  |_=>simp_all
 |lpGo a c f ih i=>
  cases b with
  |lpErr _ h=>cases ih h
  |lpGo g h e=>cases ih h;rw [a] at g;cases g;exact i e
  |_=>simp_all
 |oOpen a c f e g k m ih=>
  cases b with
  |oOpen _ _ _ _ _ h _=>cases ih h;rfl
  |oErr _ _ _ _ _ h=>cases ih h
  |oClose _ _ _ _ _ h o=>cases ih h;simp_all
  |jy h=>have:=nK h;simp_all
  |_=>simp_all
 |oErr a c f e g k ih=>
  cases b with
  |oOpen _ _ _ _ _ h _=>cases ih h
  |oErr _ _ _ _ _ h=>exact ih h
  |oClose _ _ _ _ _ h o=>cases ih h
  |jy h=>have:=nK h;simp_all
  |_=>simp_all
 |oClose a c f e g k m ih=>
  cases b with
  |oOpen _ _ _ _ _ h _=>cases ih h;simp_all
  |oErr _ _ _ _ _ h=>cases ih h
  |oClose _ _ _ _ _ h o=>cases ih h;rfl
  |jy h=>have:=nK h;simp_all
  |_=>simp_all
 |oWord a c=>cases b <;> first|(rename_i h;have:=nK h;simp_all;done)|simp_all
 |oNum a c f=>cases b <;> first|(rename_i h;have:=nK h;simp_all;done)|simp_all
 |oVar a c f e g=>cases b <;> first|(rename_i h;have:=nK h;simp_all;done)|simp_all
 |oName a c f e g=>cases b <;> first|(rename_i h;have:=nK h;simp_all;done)|simp_all
 |oForm a c f e g=>cases b <;> first|(rename_i h;have:=nK h;simp_all;done)|simp_all
def Ends:List Tok->Prop
 |[]=>False
 |t::ts=>Ends ts\/(ts=[]/\t.1=4)
theorem Ends.tail{t:Tok}{a:List Tok}(h:Ends (t::a))(b:t.1≠4):Ends a:=by
 rcases h with h|⟨_,h⟩
 .exact h
 .exact absurd h b
theorem Ends.ne{a:List Tok}(h:Ends a):∃t r,a=t::r:=by
 cases a with
 |nil=>exact h.elim
 |cons t r=>exact ⟨t,r,rfl⟩
theorem as3{t:Tok}(h:vL t=true):t.1≠4:=by unfold vL at h;intro a;rw [a] at h;simp at h
theorem asT{l:zg}{t:Tok}{k:Int}(h:Gw l t=some k):vL t=true:=by
 unfold Gw at h;cases a:vL t
 .rw [a] at h;cases h
 .rfl
theorem aua{l:zg}{t:Tok}{k:Int}(h:Gw l t=some k):t.1≠4:=as3 (asT h)
theorem uD{s:Nat}{t:Tok}{k:Int}(h:da s t=some k):t.1≠4:=aua h
def shorter:uh->Nat->Nat->Prop
 |line _,a,b=>a<b
 |loop _ _,a,b=>a<=b
theorem P.ends{names:List aD}{j:uh}{n:List Tok}{r:Out}(h:P names j d n r):Ends n->∀p,r= .ok p->Ends p.2/\shorter j p.2.length n.length:=by
 induction h with
 |jy=>intro _ p h;cases h
 | @pre s d t n k r f i g m ih=>
  intro b p h;cases r with
  |error e=>cases h
  |ok q=>
   obtain ⟨l,u⟩:=ih (b.tail (uD g)) q rfl;cases h;refine ⟨l,?_⟩;simp only [shorter,c9] at *; omega
 |other f i g m ih=>intro b p h;exact ih b p h
 |rErr=>intro _ p h;cases h
 |rOne f i g m ih=>intro b p h;exact ih b p h
 | @rTwo s d n a t ts' k r f i g m v ih c=>
  intro b p h;cases r with
  |error e=>cases h
  |ok q=>
   obtain ⟨l,u⟩:=ih b _ rfl;obtain ⟨o,w⟩:=c (l.tail (uD m)) q rfl;cases h;refine ⟨o,?_⟩;simp only [shorter,c9] at *; omega
 |lErr=>intro _ p h;cases h
 |lGo f i g ih c=>
  intro b p h;obtain ⟨l,u⟩:=ih b _ rfl;obtain ⟨o,w⟩:=c l p h;refine ⟨o,?_⟩;simp only [shorter] at *; omega
 |lpEnd f=>intro b p h;cases h;exact ⟨b,ch _⟩
 |lpErr=>intro _ p h;cases h
 |lpGo f i g ih c=>
  intro b p h;obtain ⟨l,u⟩:=ih (b.tail (uD f)) _ rfl;obtain ⟨o,w⟩:=c l p h;refine ⟨o,?_⟩;simp only [shorter,c9] at *; omega
 |oWord f i=>intro b p h;cases h;exact ⟨b.tail (uD i),mV _⟩
 |oNum f i g=>intro b p h;cases h;exact ⟨b.tail (by have:=beq_iff_eq.1 g;omega),mV _⟩
 |oVar f i g m v=>intro b p h;cases h;exact ⟨b.tail (by unfold sX at m;simp only [ar,eT] at m;omega),mV _⟩
 |oName=>intro _ p h;cases h
 |oOpen f i g m v y x ih=>
  intro b p h;cases h;obtain ⟨l,u⟩:=ih (b.tail (by unfold open_ at v;simp only [ar,eT] at v;omega)) _ rfl;refine ⟨l.tail (by unfold close_ at x;simp only [ar,eT] at x;omega),?_⟩;simp only [shorter,c9] at *; omega
 |oErr=>intro _ p h;cases h
 |oClose=>intro _ p h;cases h
 |oForm=>intro _ p h;cases h
theorem P.err{names:List aD}{j:uh}{b:List Tok}{r:Out}(h:P names j d b r):∀e,r= .error e->e.1=9\/e.1=2\/e.1=3:=by
 induction h with
 |jy=>intro e h;cases h;exact .inl rfl
 | @pre s d t b k r i g f c ih=>
  intro e h;cases r with
  |error e'=>cases h;exact ih _ rfl
  |ok q=>cases h
 |other i g f c ih=>exact ih
 |rErr _ _ _ ih=>exact ih
 |rOne=>intro e h;cases h
 | @rTwo s d b a t ts' k r i g f c h4 ih ih2=>
  intro e h;cases r with
  |error e'=>cases h;exact ih2 _ rfl
  |ok q=>cases h
 |lErr _ _ ih=>exact ih
 |lGo _ _ _ _ ih=>exact ih
 |lpEnd=>intro e h;cases h
 |lpErr _ _ ih=>exact ih
 |lpGo _ _ _ _ ih=>exact ih
 |oWord=>intro e h;cases h
 |oNum=>intro e h;cases h
 |oVar=>intro e h;cases h
 |oName=>intro e h;cases h;exact .inr (.inr rfl)
 |oOpen=>intro e h;cases h
 |oErr _ _ _ _ _ _ ih=>exact ih
 |oClose=>intro e h;cases h;exact .inr (.inl rfl)
 |oForm=>intro e h;cases h;exact .inr (.inl rfl)
end Pa
theorem aib{l pre r:List aD}{x:aD}(h:l=pre++x::r):idx l (pre.length:Int)=some x:=by subst h;simp [idx]
theorem aq3{l pre r:List aD}{x:aD}(h:l=pre++x::r):decide ((pre.length:Int)<(l.length:Int))=true:=by subst h;simp;omega
theorem aqS{l pre:List aD}(h:l=pre++[]):decide ((pre.length:Int)<(l.length:Int))=false:=by subst h;simp
theorem WX(s:List aD)(v:aD)(hl:s.length<4611686018427387904):∀(r pre:List aD),s=pre++r->∀(M:Nat),r.length<M->
  ∃z,aw (bY s v) M (pre.length:Int)=some z/\decide (0<=z)=r.contains v
 |[],pre,h,M,hM=>by
  obtain ⟨m,rfl⟩:∃m,M=m+1:=⟨M-1,by simp at hM;omega⟩;rw [bz];simp only [bY,aqS h,bd];exact ⟨_,rfl,rfl⟩
 |x::r,pre,h,M,hM=>by
  obtain ⟨m,rfl⟩:∃m,M=m+1:=⟨M-1,by omega⟩;rw [bz];have a:pre.length<4611686018427387904:=by rw [h] at hl;simp at hl;omega
  obtain ⟨z,b,hd⟩:=WX s v hl r (pre++[x]) (by rw [h];simp) m (by simp at hM;omega);rw [show ((pre++[x]).length:Int)=((pre.length+1:Nat):Int) by simp] at b;simp only [bY,aq3 h,cw,aib h,aR,nE a];cases c:(v==x)
  .simp only [bd];exact ⟨z,b,by rw [hd,List.contains_cons,c,qs]⟩
  .simp only [cw];exact ⟨_,rfl,by rw [List.contains_cons,c,q3];simp⟩
theorem aha(s:List aD)(v:aD)(h:s.length<4611686018427387904):fL s v=some (s.contains v):=by obtain ⟨z,a,hd⟩:=WX s v h s [] rfl ax (by show s.length<2^64;omega);unfold fL dz;rw [show aw (bY s v) ax 0=some z from a,aR,hd]
theorem amB(a:aD):mI a=some (uF.contains a):=by unfold mI;rw [aha Hd a (by decide)];rfl
theorem asn{op:Int}(c:1<=op)(b:op<=24):idx pr op=some (bO op):=by unfold idx;have hl:pr.length=25:=rfl;have a:pr=alY:=rfl;rw [pa (by omega),cB (by omega)];unfold bO;rw [<-a];simp [List.getD,cB (show op.toNat<pr.length by omega)]
variable {s : Nat}
namespace Pa
open uh
def Pe:uh->Nat
 |line _=>0
 |loop _ a=>a.sz
theorem afG(k n a:Int):(Ex.mk k n a []).sz=1:=by simp [Ex.sz,DF]
theorem atN(k n a:Int)(x:Ex):(Ex.mk k n a [x]).sz=x.sz+1:=by simp [Ex.sz,DF]
theorem anr(k n a:Int)(x y:Ex):(Ex.mk k n a [x,y]).sz=x.sz+y.sz+1:=by simp [Ex.sz,DF]
theorem P.size{names:List aD}{j:uh}{l:List Tok}{r:Out}(h:P names j d l r):∀p,r= .ok p->p.1.sz+p.2.length<=l.length+Pe j:=by
 induction h with
 |jy=>intro p h;cases h
 | @pre s d t l k r c f g i ih=>
  intro p h;cases r with
  |error e=>cases h
  |ok q=>have:=ih q rfl;cases h;simp only [Pe,atN,c9] at *; omega
 |other c f g i ih=>intro p h;exact ih p h
 |rErr=>intro p h;cases h
 |rOne c f g i ih=>intro p h;exact ih p h
 | @rTwo s d l a t ts' k r c f g i o ih b=>
  intro p h;cases r with
  |error e=>cases h
  |ok q=>have n:=ih _ rfl;have m:=b q rfl;cases h;simp only [Pe,anr,c9] at *; omega
 |lErr=>intro p h;cases h
 |lGo c f g ih b=>intro p h;have n:=ih _ rfl;have m:=b p h;simp only [Pe] at *; omega
 |lpEnd c=>intro p h;cases h;simp only [Pe];omega
 |lpErr=>intro p h;cases h
 |lpGo c f g ih b=>intro p h;have n:=ih _ rfl;have m:=b p h;simp only [Pe,anr,c9] at *; omega
 |oWord c f=>intro p h;cases h;simp only [Pe,afG,c9];omega
 |oNum c f g=>intro p h;cases h;simp only [Pe,afG,c9];omega
 |oVar c f g i o=>intro p h;cases h;simp only [Pe,afG,c9];omega
 |oName=>intro p h;cases h
 |oOpen c f g i o v u ih=>intro p h;cases h;have:=ih _ rfl;simp only [Pe,c9] at *; omega
 |oErr=>intro p h;cases h
 |oClose=>intro p h;cases h
 |oForm=>intro p h;cases h
theorem P.suf{names:List aD}{j:uh}{l:List Tok}{r:Out}(h:P names j d l r):∀p,r= .ok p->p.2 <:+ l:=by
 induction h with
 |jy=>intro p h;cases h
 | @pre s d t l k r c f g i ih=>
  intro p h;cases r with
  |error e=>cases h
  |ok q=>have:=ih q rfl;cases h;exact this.trans (qu _ _)
 |other c f g i ih=>exact ih
 |rErr=>intro p h;cases h
 |rOne c f g i ih=>exact ih
 | @rTwo s d l a t ts' k r c f g i m ih b=>
  intro p h;cases r with
  |error e=>cases h
  |ok q=>have o:=ih _ rfl;have n:=b q rfl;cases h;exact (n.trans (qu _ _)).trans o
 |lErr=>intro p h;cases h
 |lGo c f g ih b=>intro p h;exact (b p h).trans (ih _ rfl)
 |lpEnd c=>intro p h;cases h;exact List.suffix_refl _
 |lpErr=>intro p h;cases h
 |lpGo c f g ih b=>intro p h;exact ((b p h).trans (ih _ rfl)).trans (qu _ _)
 |oWord c f=>intro p h;cases h;exact qu _ _
 |oNum c f g=>intro p h;cases h;exact qu _ _
 |oVar c f g i m=>intro p h;cases h;exact qu _ _
 |oName=>intro p h;cases h
 |oOpen c f g i m v u ih=>intro p h;cases h;exact ((qu _ _).trans (ih _ rfl)).trans (qu _ _)
 |oErr=>intro p h;cases h
 |oClose=>intro p h;cases h
 |oForm=>intro p h;cases h
def alr(t:Tok):Prop:=t.1=2->0<=t.2.2.1/\t.2.2.1<=1073741824
theorem Km{t:Tok}{k:Int}(h:da s t=some k):k∈ops s:=by
 unfold da Gw at h;cases a:vL t
 .rw [a] at h;cases h
 .rw [a] at h;exact s4 h
theorem ar2(hk:kd s=0){k:Int}(h:k∈ops s)(a:Int):DO k 0 1 (nN k) a=true:=by
 have:s=6\/s=10:=by unfold kd at hk;split at hk <;> first|(cases hk;done)|simp
 rcases this with rfl|rfl
 .simp only [ops,qi,qS,or_false] at h;rcases h with rfl|rfl|rfl|rfl <;> rfl
 .simp only [ops,qi,qS,or_false] at h;subst h;rfl
theorem ajc(hk:kd s=1\/kd s=2){k:Int}(h:k∈ops s)(a:Int):DO k 0 2 (nN k) a=true:=by
 have:s=1\/s=2\/s=3\/s=4\/s=5\/s=7\/s=8\/s=9:=by unfold kd at hk;split at hk <;> first|(rcases hk with hk|hk <;> cases hk;done)|simp
 rcases this with rfl|rfl|rfl|rfl|rfl|rfl|rfl|rfl <;> simp only [ops,qi,qS,or_false] at h
 .subst h;rfl
 .subst h;rfl
 .subst h;rfl
 .subst h;rfl
 .rcases h with rfl|rfl <;> rfl
 .rcases h with rfl|rfl|rfl|rfl|rfl|rfl <;> rfl
 .rcases h with rfl|rfl <;> rfl
 .subst h;rfl
theorem ape(hk:kd s=3){k:Int}(h:k∈ops s)(a:Int):DO k 0 0 (nN k) a=true:=by
 have:s=11:=by unfold kd at hk;split at hk <;> first|(cases hk;done)|simp
 subst this;simp only [ops,qi,qS,or_false] at h;rcases h with rfl|rfl <;> rfl
theorem aaK{b k n a:Int}(h:DO k n 0 (nN k) b=true):nz b (.mk k n a [])=true:=by simp only [nz,Nu,qa];rw [show ((0:Nat):Int)=0 from rfl,h];rfl
theorem arE{b k a:Int}{x:Ex}(h:DO k 0 1 (nN k) b=true)(hx:nz b x=true):nz b (.mk k 0 a [x])=true:=by simp only [nz,Nu,c9,qa];rw [show ((0+1:Nat):Int)=1 from rfl,h,hx];rfl
theorem aiJ{b k a:Int}{x y:Ex}(h:DO k 0 2 (nN k) b=true)(hx:nz b x=true)(c:nz b y=true):nz b (.mk k 0 a [x,y])=true:=by simp only [nz,Nu,c9,qa];rw [show ((0+1+1:Nat):Int)=2 from rfl,h,hx,c];rfl
def au5(vars:Int):uh->Bool
 |line _=>true
 |loop _ a=>nz vars a
def okJ:uh->Prop
 |line _=>True
 |loop s _=>kd s=2
theorem auv{names:List aD}{v:aD}{i:Nat}(h:at_ names v=some i):i<names.length:=by unfold at_ at h;have:=List.findIdx?_eq_some_iff_getElem.1 h;exact this.1
theorem P.may{names:List aD}{j:uh}{u:List Tok}{r:Out}(h:P names j d u r):okJ j->(∀t∈u,alr t)->au5 names.length j=true->∀p,r= .ok p->nz names.length p.1=true:=by
 induction h with
 |jy=>intro _ _ _ p h;cases h
 | @pre s d t u k r g l o v ih=>
  intro _ f _ p h;cases r with
  |error e=>cases h
  |ok q=>have:=ih trivial (λt n=>f t (cb _ n)) rfl q rfl;cases h;exact arE (ar2 g (Km o) _) this
 |other g l o v ih=>intro _ f y p h;exact ih trivial f rfl p h
 |rErr=>intro _ _ _ p h;cases h
 |rOne g l o v ih=>intro _ f y p h;exact ih trivial f rfl _ h
 | @rTwo s d u a t ts' k r g l o v h4 ih m=>
  intro _ f _ p h;cases r with
  |error e=>cases h
  |ok q=>
   have w:=ih trivial f rfl _ rfl;have x:=o.suf _ rfl;have C:=m trivial (λt n=>f t (x.mem (cb _ n))) rfl q rfl;cases h;exact aiJ (ajc (.inl g) (Km v) _) w C
 |lErr=>intro _ _ _ p h;cases h
 |lGo g l o ih m=>
  intro _ f _ p h;have w:=ih trivial f rfl _ rfl;have x:=l.suf _ rfl;exact m g (λt n=>f t (x.mem n)) w p h
 |lpEnd g=>intro _ f y p h;cases h;exact y
 |lpErr=>intro _ _ _ p h;cases h
 | @lpGo s a d t u k b ts' r g l o ih m=>
  intro B f y p h;have w:=ih trivial (λt n=>f t (cb _ n)) rfl _ rfl;have x:=l.suf _ rfl;exact m B (λt n=>f t (cb _ (x.mem n))) (aiJ (a:=t.2.2.2) (ajc (.inr B) (Km g) _) y w) p h
 |oWord g l=>intro _ f _ p h;cases h;exact aaK (ape g (Km l) _)
 | @oNum s d t u g l o=>
  intro _ f _ p h;cases h;obtain ⟨n0,E⟩:=f t (cz ..) (beq_iff_eq.1 o);refine aaK ?_;simp only [DO,nN];have A:decide (t.2.2.1<0)=false:=e9 (by omega);have z:decide (1073741824<t.2.2.1)=false:=e9 (by omega);rw [A,z];rfl
 | @oVar s d t u i g l o v h4=>
  intro _ f _ p h;cases h;have D:=auv h4;refine aaK ?_;simp only [DO,nN];have A:decide ((i:Int)<0)=false:=e9 (by omega);have z:decide ((names.length:Int)<=(i:Int))=false:=e9 (by omega);rw [A,z];rfl
 |oName=>intro _ _ _ p h;cases h
 | @oOpen s d t u a c ts' g l o v h4 h5 h6 ih=>intro _ f _ p h;cases h;exact ih trivial (λt n=>f t (cb _ n)) rfl (a,c::ts') rfl
 |oErr=>intro _ _ _ p h;cases h
 |oClose=>intro _ _ _ p h;cases h
 |oForm=>intro _ _ _ p h;cases h
end Pa
namespace Pa
open uh
abbrev R5:=Ex×Int×Int×Int×Int
theorem iu(x:Option R5):(x.bind λr=>some (r.1,r.2.1,r.2.2.1,r.2.2.2.1,r.2.2.2.2))=x:=by cases x <;> rfl
theorem drop_cons{l:List Tok}{k:Nat}{t:Tok}{r:List Tok}(h:l.drop k=t::r):idx l (k:Int)=some t/\l.drop (k+1)=r/\k<l.length:=by
 have hk:k<l.length:=by
  by_cases hk:k<l.length
  .exact hk
  .rw [qM (by omega)] at h;cases h
 rw [qz hk] at h;cases h;refine ⟨?_,rfl,hk⟩;simp [idx,cB hk]
theorem ano{l:List Tok}{k:Nat}(h:k<l.length):∃t,idx l (k:Int)=some t:=⟨l[k],by simp [idx,cB h]⟩
def Ch:y2->Int×Bool
 |some k=>(k,true)
 |none=>(0,false)
theorem asg{l pre r:zg}{x:Int}(h:l=pre++x::r):idx l (pre.length:Int)=some x:=by subst h;simp [idx]
theorem auy{l pre r:zg}{x:Int}(h:l=pre++x::r):decide ((pre.length:Int)<(l.length:Int))=true:=by subst h;simp;omega
theorem aus{l pre:zg}(h:l=pre++[]):decide ((pre.length:Int)<(l.length:Int))=false:=by subst h;simp
theorem ajk{l:zg}(c:∀o∈l,1<=o/\o<=24)(hl:l.length<4611686018427387904)(t:Tok):∀(r pre:zg),l=pre++r->∀(M:Nat),r.length<M->
  aw (ma l t) M (pre.length:Int)=some (Ch (r.find? (λo=>bO o==t.2.1)))
 |[],pre,h,M,hM=>by
  obtain ⟨m,rfl⟩:∃m,M=m+1:=⟨M-1,by simp at hM;omega⟩;rw [bz];simp only [ma,aus h,bd];rfl
 |x::r,pre,h,M,hM=>by
  obtain ⟨m,rfl⟩:∃m,M=m+1:=⟨M-1,by omega⟩;rw [bz];have a:pre.length<4611686018427387904:=by rw [h] at hl;simp at hl;omega
  have ih:=ajk c hl t r (pre++[x]) (by rw [h];simp) m (by simp at hM;omega);rw [show ((pre++[x]).length:Int)=((pre.length+1:Nat):Int) by simp] at ih;have hx:=c x (by rw [h];simp);simp only [ma,auy h,cw,asg h,aR,asn hx.1 hx.2,nE a];cases b:(bO x==t.2.1)
  .simp only [bd];rw [ih,List.find?_cons,b]
  .simp only [cw];rw [List.find?_cons,b];rfl
theorem auI{l:zg}(f:∀o∈l,1<=o/\o<=24)(hl:l.length<4611686018427387904){c:List Tok}{a:Int}{t:Tok}(h:idx c a=some t)(names:List aD)(d b p:Int):br l c a names d b p=some (Ch (Gw l t)):=by
 unfold br aX;rw [h];simp only [aR,dv,amB];have hi:=ajk f hl t l [] rfl ax (by show l.length<2^64;omega);have hi:aw (ma l t) ax 0=some (Ch (l.find? (λo=>bO o==t.2.1))):=hi;rw [hi];unfold Gw vL key;cases e:(t.1==3)
 .have:(t.1 != 3)=true:=by simp [bne,e]
  rw [this];cases g:(t.1==1)
  .rfl
  .simp only [j2,oH,aR,qs];cases hk:uF.contains t.2.1 <;> rfl
 .have:(t.1 != 3)=false:=by simp [bne,e]
  rw [this];simp only [p0,LB,bd,q3,cw]
theorem amI:∀s:Nat,(∀o∈ops s,1<=o/\o<=24)/\(ops s).length<4611686018427387904:=by intro s;unfold ops;split <;> (refine ⟨?_,?_⟩ <;> simp)
theorem xM(s:Nat){c:List Tok}{a:Int}{t:Tok}(h:idx c a=some t)(names:List aD)(d b p:Int):br (ops s) c a names d b p=some (Ch (da s t)):=auI (amI s).1 (amI s).2 h names d b p
theorem vx{c:List Tok}{a:Int}{t:Tok}(h:idx c a=some t)(names:List aD)(d b p:Int):aX c a names d b p=some t:=by unfold aX;rw [h];rfl
theorem Jh{b:List Tok}{a:Int}{t:Tok}(h:idx b a=some t)(names:List aD)(e d p:Int):bX e b a names d 0 p=some (.mk 0 0 0 [],e,t.2.2.2):=by unfold bX;rw [h];rfl
def Rs(l:List Tok)(d pl:Int):Out->Option R5->Prop
 | .ok p,m=>∃k:Nat,l.drop k=p.2/\m=some (p.1,(k:Int),d,0,pl)
 | .error e,m=>∃(x:Ex) (k:Nat),k<l.length/\m=some (x,(k:Int),d,e.1,e.2)
def nd(names:List aD)(l:List Tok)(j:uh)(d:Int)(ts:List Tok)(pl:Int)(m:Option R5):Prop:= ∃r,P names j d ts r/\Rs l d pl r m
def PO(names:List aD)(l:List Tok)(s:Nat)(D:Int)(ts:List Tok)(pl:Int)(m:Option R5):Prop:=
 ∃r,(∀d,dn s d=D->kE s d=false->P names (line s) d ts r)/\Rs l D pl r m
theorem Ja{names:List aD}{j:uh}{a:List Tok}{e:Int×Int}(h:P names j d a (.error e)):(e.1 != 0)=true:=by have:=h.err e rfl;simp only [bne_iff_ne,ne_eq];omega
theorem aeE{names:List aD}{j:uh}{a:List Tok}{e:Int×Int}(h:P names j d a (.error e)):(e.1==0)=false:=by have:=h.err e rfl;simp only [beq_eq_false_iff_ne,ne_eq];omega
def xU(names:List aD)(l:List Tok)(ops:zg)(one:Option R5)(whole:Int->Int->Int->Int->Option R5):Option R5:=
 one.bind λr11=>
 (br ops l r11.2.1 names r11.2.2.1 r11.2.2.2.1 r11.2.2.2.2).bind λr19=>
 ah (r11.2.2.2.1 != 0) λb22=>
 ah (!r19.2) λb24=>
 ah (b22||b24) λb26=>
 bif b26 then (
 some (r11.1,r11.2.1,r11.2.2.1,r11.2.2.2.1,r11.2.2.2.2))
 else (
 (aX l r11.2.1 names r11.2.2.1 r11.2.2.2.1 r11.2.2.2.2).bind λr30=>
 (whole (i64.wrap (r11.2.1+1)) r11.2.2.1 r11.2.2.2.1 r11.2.2.2.2).bind λr37=>
 some ((Ex.mk r19.1 0 r30.2.2.2 ([r11.1,r37.1]:List Ex)),r37.2.1,r37.2.2.1,r37.2.2.2.1,r37.2.2.2.2))
theorem GB{names:List aD}{l:List Tok}(hk:kd s=1){D pl:Int}{o:List Tok}{one:Option R5}{whole:Int->Int->Int->Int->Option R5}(hl:l.length<4611686018427387904)
  (F:Ends o) (H:nd names l (line (s+1)) D o pl one)
  (G:∀k:Nat,Ends (l.drop k)->(l.drop k).length<o.length->nd names l (line (nx s)) D (l.drop k) pl (whole (k:Int) D 0 pl)):
  PO names l s D o pl (xU names l (ops s) one whole):=by
 obtain ⟨r,hp,z⟩:=H;cases r with
 |error e=>
  obtain ⟨x,i,b,rfl⟩:=z;refine ⟨.error e,λd hd hb=> .rErr hk hb (by rw [hd];exact hp),x,i,b,?_⟩;obtain ⟨t,c⟩:=ano b;simp only [xU,aR,xM s c,dv,Ja hp,q3,cw]
 |ok p=>
  obtain ⟨a,B⟩:=p;obtain ⟨i,b,rfl⟩:=z;obtain ⟨A,I⟩:=hp.ends F _ rfl;obtain ⟨t,C,rfl⟩:=A.ne;obtain ⟨c,g,E⟩:=drop_cons b;cases h:da s t with
  |none=>
   refine ⟨.ok (a,t::C),λd hd hb=> .rOne hk hb (by rw [hd];exact hp) h,i,b,?_⟩;simp only [xU,aR,xM s c,dv,h,Ch,qt,Bool.or_true,cw]
  |some k=>
   have y:=nE (n:=i) (by omega);obtain ⟨v,m,j⟩:=G (i+1) (by rw [g];exact A.tail (uD h)) (by rw [g];simp only [shorter,c9] at I;omega);rw [g] at m;refine ⟨ap7 k t.2.2.2 a v,λd hd hb=> .rTwo hk hb (by rw [hd];exact hp) h (by rw [hd];exact m),?_⟩;have w:((0:Int) != 0)=false:=rfl;cases v with
   |error e=>
    obtain ⟨x,q,f,u⟩:=j;refine ⟨.mk k 0 t.2.2.2 [a,x],q,f,?_⟩;simp only [xU,aR,xM s c,dv,h,Ch,w,p8,sj,bd,vx c,y,u]
   |ok p=>
    obtain ⟨q,f,u⟩:=j;refine ⟨q,f,?_⟩;simp only [xU,aR,xM s c,dv,h,Ch,w,p8,sj,bd,vx c,y,u]
def An(names:List aD)(l:List Tok)(ops:zg)(at_ deep bad place:Int)(other:Option R5)(same:Int->Int->Int->Int->Option R5):Option R5:=
 (br ops l at_ names deep bad place).bind λr11=>
 bif !r11.2 then  other.bind λr15=>
 some (r15.1,r15.2.1,r15.2.2.1,r15.2.2.2.1,r15.2.2.2.2)
 else  (aX l at_ names deep bad place).bind λr21=>
 (same (i64.wrap (at_+1)) deep bad place).bind λr30=>
 some ((Ex.mk r11.1 0 r21.2.2.2 ([r30.1]:List Ex)),r30.2.1,r30.2.2.1,r30.2.2.2.1,r30.2.2.2.2)
theorem WW{names:List aD}{l:List Tok}(hk:kd s=0){D pl:Int}{a:Nat}{b:Option R5}{same:Int->Int->Int->Int->Option R5}(hl:l.length<4611686018427387904)
  (u:Ends (l.drop a)) (C:nd names l (line (s+1)) D (l.drop a) pl b)
  (B:∀k:Nat,Ends (l.drop k)->(l.drop k).length<(l.drop a).length->nd names l (line s) D (l.drop k) pl (same (k:Int) D 0 pl)):
  PO names l s D (l.drop a) pl (An names l (ops s) (a:Int) D 0 pl b same):=by
 obtain ⟨t,E,c⟩:=u.ne;obtain ⟨i,g,z⟩:=drop_cons c;cases h:da s t with
 |none=>
  obtain ⟨r,hp,y⟩:=C;have A:An names l (ops s) (a:Int) D 0 pl b same=b:=by simp only [An,xM s i,h,Ch,aR,qt,cw,iu]
  rw [A];refine ⟨r,λd hd hb=>?_,y⟩;rw [c] at hp ⊢;exact .other hk hb h (by rw [hd];exact hp)
 |some k=>
  have w:=nE (n:=a) (by omega);rw [c] at u;obtain ⟨v,m,j⟩:=B (a+1) (by rw [g];exact u.tail (uD h)) (by rw [g,c];simp);rw [g] at m;refine ⟨aok k t.2.2.2 v,λd hd hb=>by rw [c];exact .pre hk hb h (by rw [hd];exact m),?_⟩;cases v with
  |error e=>
   obtain ⟨x,o,f,q⟩:=j;refine ⟨.mk k 0 t.2.2.2 [x],o,f,?_⟩;simp only [An,xM s i,h,Ch,aR,p8,bd,vx i,w,q]
  |ok p=>
   obtain ⟨o,f,q⟩:=j;refine ⟨o,f,?_⟩;simp only [An,xM s i,h,Ch,aR,p8,bd,vx i,w,q]
def Dk(names:List aD)(l:List Tok)(at_ deep bad place:Int)(by_:Int->Option R5):Option R5:=
 bif decide (320<=deep) then  (bX 9 l at_ names deep bad place).bind λr12=>
 some (r12.1,at_,deep,r12.2.1,r12.2.2)
 else  (by_ (i64.wrap (deep+1))).bind λr19=>
 some (r19.1,r19.2.1,(i64.wrap (r19.2.2.1-1)),r19.2.2.2.1,r19.2.2.2.2)
theorem Bi{names:List aD}{l:List Tok}(o:py s=true){d pl:Int}{a:Nat}{g:Int->Option R5}(A:0<=d)(z:d<=320)
  (u:Ends (l.drop a)) (w:d<320->PO names l s (d+1) (l.drop a) pl (g (d+1))):
  nd names l (line s) d (l.drop a) pl (Dk names l (a:Int) d 0 pl g):=by
 obtain ⟨t,y,f⟩:=u.ne;obtain ⟨q,v,j⟩:=drop_cons f;have m:i64.wrap (d+1)=d+1:=dO (by omega);have c:i64.wrap (d+1-1)=d:=by rw [show d+1-1=d by omega];exact dO (by omega)
 unfold Dk;cases hd:decide (320<=d)
 .have k:kE s d=false:=by unfold kE;rw [hd,qy]
  obtain ⟨r,hp,n⟩:=w (by simp only [tj] at hd;omega);refine ⟨r,hp d (by unfold dn;rw [o];rfl) k,?_⟩;cases r with
  |error e=>
   obtain ⟨x,h,b,i⟩:=n;refine ⟨x,h,b,?_⟩;simp only [bd,m,i,aR,c]
  |ok p=>
   obtain ⟨h,b,i⟩:=n;refine ⟨h,b,?_⟩;simp only [bd,m,i,aR,c]
 .refine ⟨.error (9,t.2.2.2),by rw [f];exact .jy (by unfold kE;rw [o,hd];rfl),.mk 0 0 0 [],a,j,?_⟩;simp only [cw,Jh q,aR]
abbrev R8:=Int×Int×Int×Int×Int×Int×Int×(List Ex)
def vq(names:List aD)(l:List Tok)(ops:zg)(one:Int->Int->Int->Int->Option R5)(again30:R8->Option R5):R8->Option R5:=λ⟨c20,c21,c22,c23,c24,c25,c26,c27⟩=>
 bif c22==0 then  (br ops l c20 names c21 c22 c23).bind λr32=>
 bif !r32.2 then  some ((Ex.mk c24 c25 c26 c27),c20,c21,c22,c23)
 else  (aX l c20 names c21 c22 c23).bind λr37=>
 (one (i64.wrap (c20+1)) c21 c22 c23).bind λr44=>
 again30 (r44.2.1,r44.2.2.1,r44.2.2.2.1,r44.2.2.2.2,r32.1,0,r37.2.2.2,([(Ex.mk c24 c25 c26 c27),r44.1]:List Ex))
 else  some ((Ex.mk c24 c25 c26 c27),c20,c21,c22,c23)
def Qe(names:List aD)(l:List Tok)(ops:zg)(first:Option R5)(one:Int->Int->Int->Int->Option R5):Option R5:=
 first.bind λr11=>
 aw (vq names l ops one) ax (r11.2.1,r11.2.2.1,r11.2.2.2.1,r11.2.2.2.2,r11.1.op,r11.1.n,r11.1.at_,r11.1.l)
theorem ao6{names:List aD}{l:List Tok}{pl:Int}{one:Int->Int->Int->Int->Option R5}(hl:l.length<4611686018427387904)(N:Nat)
  (J:∀k:Nat,Ends (l.drop k)->(l.drop k).length<N->nd names l (line (s+1)) d (l.drop k) pl (one (k:Int) d 0 pl)):∀(n k:Nat) (a:Ex),Ends (l.drop k)->(l.drop k).length<=N->(l.drop k).length<=n->
  nd names l (loop s a) d (l.drop k) pl (aw (vq names l (ops s) one) (n+1) ((k:Int),d,0,pl,a.op,a.n,a.at_,a.l)):=by
 intro n
 induction n with
 |zero=>
  intro k a v _ hn;obtain ⟨t,B,c⟩:=v.ne;rw [c] at hn;simp at hn
 |succ n ih=>
  intro k a v K hn;obtain ⟨t,B,c⟩:=v.ne;obtain ⟨q,h,I⟩:=drop_cons c;have z:((0:Int)==0)=true:=rfl;rw [bz];cases i:da s t with
  |none=>
   refine ⟨.ok (a,t::B),by rw [c];exact .lpEnd i,k,c,?_⟩;simp only [vq,z,cw,xM s q,i,Ch,aR,qt,Ex.eta]
  |some o=>
   have C:=nE (n:=k) (by omega);have j:=v;rw [c] at j;have D:(l.drop (k+1)).length+1=(l.drop k).length:=by rw [h,c];rfl
   obtain ⟨F,g,u⟩:=J (k+1) (by rw [h];exact j.tail (uD i)) (by omega);rw [h] at g;cases F with
   |error e=>
    obtain ⟨x,w,f,A⟩:=u;refine ⟨.error e,by rw [c];exact .lpErr i g,.mk o 0 t.2.2.2 [a,x],w,f,?_⟩;obtain ⟨m,rfl⟩:∃m,n=m:=⟨n,rfl⟩;simp only [vq,z,cw,xM s q,i,Ch,aR,p8,bd,vx q,C,A,Ex.eta];rw [bz];simp only [vq,aeE g,bd]
   |ok p=>
    obtain ⟨b,E⟩:=p;obtain ⟨w,f,A⟩:=u;obtain ⟨G,y⟩:=g.ends (j.tail (uD i)) _ rfl;simp only [shorter] at y;simp only at f;obtain ⟨r,hp,H⟩:=ih w (.mk o 0 t.2.2.2 [a,b]) (by rw [f];exact G) (by rw [f];rw [<-h] at y;omega) (by rw [f];rw [<-h] at y;omega);rw [f] at hp;refine ⟨r,by rw [c];exact .lpGo i g hp,?_⟩;simp only [vq,z,cw,xM s q,i,Ch,aR,p8,bd,vx q,C,A,Ex.eta];exact H
theorem Kz{names:List aD}{l:List Tok}(hk:kd s=2){d pl:Int}{c:List Tok}{first:Option R5}{one:Int->Int->Int->Int->Option R5}(hl:l.length<4611686018427387904)
  (q:Ends c) (o:c.length<=l.length) (u:nd names l (line (s+1)) d c pl first)
  (t:∀k:Nat,Ends (l.drop k)->(l.drop k).length<c.length->nd names l (line (s+1)) d (l.drop k) pl (one (k:Int) d 0 pl)):
  nd names l (line s) d c pl (Qe names l (ops s) first one):=by
 obtain ⟨r,hp,i⟩:=u;unfold Qe;cases r with
 |error e=>
  obtain ⟨x,f,b,rfl⟩:=i;refine ⟨.error e,.lErr hk hp,x,f,b,?_⟩;rw [aR,show ax=18446744073709551615+1 from rfl,bz];simp only [vq,aeE hp,bd,Ex.eta]
 |ok p=>
  obtain ⟨a,n⟩:=p;obtain ⟨f,b,rfl⟩:=i;obtain ⟨m,j⟩:=hp.ends q _ rfl;simp only at b m j;subst b;simp only [shorter] at j;obtain ⟨r,h,g⟩:=ao6 (s:=s) (d:=d) (pl:=pl) (one:=one) hl c.length t 18446744073709551615 f a m (by omega) (by omega);exact ⟨r,.lGo hk hp h,g⟩
theorem ai0{s:List aD}{v:aD}(hl:s.length<4611686018427387904):∀(r pre:List aD),s=pre++r->∀(M:Nat),r.length<M->
  aw (bY s v) M (pre.length:Int)=some (match r.findIdx? (λx=>v==x) with|some i=>((pre.length+i:Nat):Int)|none=> -1)
 |[],pre,h,M,hM=>by
  obtain ⟨m,rfl⟩:∃m,M=m+1:=⟨M-1,by simp at hM;omega⟩;rw [bz];simp only [bY,aqS h,bd];rfl
 |x::r,pre,h,M,hM=>by
  obtain ⟨m,rfl⟩:∃m,M=m+1:=⟨M-1,by omega⟩;rw [bz];have a:pre.length<4611686018427387904:=by rw [h] at hl;simp at hl;omega
  have ih:=ai0 (v:=v) hl r (pre++[x]) (by rw [h];simp) m (by simp at hM;omega);rw [show ((pre++[x]).length:Int)=((pre.length+1:Nat):Int) by simp] at ih;simp only [bY,aq3 h,cw,aib h,aR,nE a];cases b:(v==x)
  .simp only [bd];rw [ih,List.findIdx?_cons,b];cases c:r.findIdx? (λx=>v==x) with
   |none=>rfl
   |some i=>
    simp only [du,c9,qa,cL,j3,lk];congr 2;omega
  .simp only [cw];rw [List.findIdx?_cons,b];rfl
theorem aoe{s:List aD}(hl:s.length<4611686018427387904)(v:aD):dz s v=some (match at_ s v with|some i=>(i:Int)|none=> -1):=by
 have:=ai0 (v:=v) hl s [] rfl ax (by show s.length<2^64;omega);unfold dz at_;rw [show aw (bY s v) ax 0=_ from this];cases s.findIdx? (λx=>v==x) with
 |none=>rfl
 |some i=>simp
theorem arC{names:List aD}(hn:names.length<4611686018427387904){l:List Tok}{d pl:Int}{a:Nat}{k}(hl:l.length<4611686018427387904)
  (T:Ends (l.drop a)) (h2:∀b:Nat,Ends (l.drop b)->(l.drop b).length<(l.drop a).length->nd names l (line 1) d (l.drop b) pl (k (l,(b:Int),names,d,0,pl))):
  nd names l (line 11) d (l.drop a) pl (kh k l (a:Int) names d 0 pl):=by
 obtain ⟨t,J,h⟩:=T.ne;obtain ⟨I,s,F⟩:=drop_cons h;have H:=nE (n:=a) (by omega);have Z:((0:Int) != 0)=false:=rfl;have K:((0:Int)==0)=true:=rfl;have A:=T;rw [h] at A;unfold kh;have N:br ([13,14]:zg) l (a:Int) names d 0 pl=some (Ch (da 11 t)):=xM 11 I names d 0 pl;simp only [Z,bd,vx I,aR,N];cases y:da 11 t with
 |some o=>
  refine ⟨.ok (.mk o 0 t.2.2.2 [],J),by rw [h];exact .oWord rfl y,a+1,s,?_⟩;simp only [Ch,cw,H]
 |none=>
  simp only [Ch,bd];cases q:(t.1==2)
  .simp only [bd,dv,amB];cases g:sX t
   .have hgo:(bl (t.1==1) default (some (uF.contains t.2.1)) λu=>ah (!u) λS=>ah ((t.1==1)&&S) λR=>(some R:x6))=some false:=by
     unfold sX key at g;cases Q:(t.1==1)
     .rfl
     .rw [Q,j2] at g;simp only [oH,aR,dv,g,qy]
    have w:∀(f:Bool->Option R5),(bl (t.1==1) default (some (uF.contains t.2.1)) λu=>f ((t.1==1)&& !u))=f false:=by
     intro f;unfold sX key at g;cases Q:(t.1==1)
     .rfl
     .rw [Q,j2] at g;simp only [oH,aR,g,qy]
    rw [w (λb=>bif b then _ else _)];simp only [bd];cases m:open_ t
    .have v:((t.1==3)&&(t.2.1==[40]))=false:=m;rw [v];refine ⟨.error (2,t.2.2.2),by rw [h];exact .oForm rfl y q g m,.mk 0 0 0 [],a,F,?_⟩;simp only [bd,Jh I,aR]
    .have v:((t.1==3)&&(t.2.1==[40]))=true:=m;rw [v];simp only [cw,H];have U:t.1≠4:=by unfold open_ at m;simp only [ar,eT] at m;omega
     obtain ⟨X,r,D⟩:=h2 (a+1) (by rw [s];exact A.tail U) (by rw [s,h];simp);rw [s] at r;cases X with
     |error e=>
      obtain ⟨x,C,z,M⟩:=D;refine ⟨.error e,by rw [h];exact .oErr rfl y q g m r,x,C,z,?_⟩;simp only [M,aR,aeE r,p0,LB,bd]
     |ok p=>
      obtain ⟨x,V⟩:=p;obtain ⟨C,z,M⟩:=D;obtain ⟨Y,i2⟩:=r.ends (A.tail U) _ rfl;obtain ⟨c,W,rfl⟩:=Y.ne;obtain ⟨P,O,E⟩:=drop_cons z;simp only [M,aR,K,oH,vx P,j2];have L:=nE (n:=C) (by omega);cases j:close_ c
      .refine ⟨.error (2,c.2.2.2),by rw [h];exact .oClose rfl y q g m r j,.mk 0 0 0 [],C,E,?_⟩;unfold close_ at j;cases G:(c.1==3)
       .have:(c.1 != 3)=true:=by simp [bne,G]
        simp only [this,p8,LB,q3,cw,Jh P,aR]
       .have:(c.1 != 3)=false:=by simp [bne,G]
        rw [G,j2] at j;have B:(c.2.1 != [41])=true:=by simp [bne,j]
        simp only [this,qt,oH,aR,B,Bool.or_true,cw,Jh P]
      .refine ⟨.ok (x,W),by rw [h];exact .oOpen rfl y q g m r j,C+1,O,?_⟩;unfold close_ at j;simp only [ar] at j;have G:(c.1 != 3)=false:=by simp only [bne,j.1,p8]
       have B:(c.2.1 != [41])=false:=by simp only [bne,j.2,p8]
       simp only [G,qt,oH,aR,B,sj,bd,cw,L]
   .have w:∀(f:Bool->Option R5),(bl (t.1==1) default (some (uF.contains t.2.1)) λu=>f ((t.1==1)&& !u))=f true:=by intro f;unfold sX key at g;simp only [ar] at g;rw [g.1];simp only [oH,aR,g.2,Bool.and_self]
    rw [w (λb=>bif b then _ else _)];simp only [cw,aoe hn,aR];cases hat:at_ names t.2.1 with
    |none=>
     refine ⟨.error (3,t.2.2.2),by rw [h];exact .oName rfl y q g hat,.mk 0 0 0 [],a,F,?_⟩;simp only [show decide ((-1:Int)<0)=true from rfl,cw,Jh I,aR]
    |some i=>
     refine ⟨.ok (.mk 2 (i:Int) t.2.2.2 [],J),by rw [h];exact .oVar rfl y q g hat,a+1,s,?_⟩;have:decide (((i:Nat):Int)<0)=false:=by simp
     simp only [this,bd,H]
  .refine ⟨.ok (.mk 1 t.2.2.1 t.2.2.2 [],J),by rw [h];exact .oNum rfl y q,a+1,s,?_⟩;simp only [cw,H]
end Pa
namespace Pa
open uh
section
variable (names : List aD) (l : List Tok) (N : Nat)
def Gd(s:Nat)(n:Nat)(f:Int->Int->Int->Option R5):Prop:=
 ∀(a:Nat) (d pl:Int),0<=d->d<=320->Ends (l.drop a)->(l.drop a).length<=n->nd names l (line s) d (l.drop a) pl (f (a:Int) d pl)
abbrev PF:=(List Tok×Int×List aD×Int×Int×Int)->Option R5
def Gk(s:Nat)(n:Nat)(k:PF):Prop:=Gd names l s n λa d pl=>k (l,a,names,d,0,pl)
end
variable {names : List aD} {l : List Tok} {n : Nat}
theorem Gd.le{m n:Nat}{f}(h:Gd names l s n f)(g:m<=n):Gd names l s m f:=λa d pl e c b i=>h a d pl e c b (by omega)
theorem Jo(a:Nat):(l.drop a).length<=l.length:=by simp
theorem atT(hn:names.length<4611686018427387904)(hl:l.length<4611686018427387904){k:PF}(hk:Gk names l 1 n k):Gd names l 11 (n+1) λa d pl=>kh k l a names d 0 pl:=
 λa d pl h g f i=>arC hn hl f (λb c e=>hk b d pl h g c (by omega))
theorem am8{F:PF->PF}(h:∀m k,m<=n->Gk names l s m k->Gk names l s (m+1) (F k)):∀m,m<=n+1->Gk names l s m (aw F m):=by
 intro m
 induction m with
 |zero=>
  intro _ a d pl _ _ e b;obtain ⟨t,r,c⟩:=e.ne;rw [c] at b;simp at b
 |succ m ih=>intro f;exact h m _ (by omega) (ih (by omega))
theorem I7{F:PF->PF}(hl:l.length<4611686018427387904)(h:∀m k,m<=n->Gk names l s m k->Gk names l s (m+1) (F k)):Gk names l s (n+1) (aw F ax):=by
 by_cases i:ax<=n+1
 .intro a d pl e c b f;have:=Jo (l:=l) a;exact am8 (n:=n) h ax i a d pl e c b (by show _<=2^64;omega)
 . -- a fuel beyond the length: the length alone counts
  intro a d pl e c b f;have:∀m,n+1<=m->Gk names l s (n+1) (aw F m):=by
   intro m
   induction m with
   |zero=>intro g;omega
   |succ m ih=>
    intro g;by_cases j:n+1<=m
    .exact h n _ (ch _) ((ih j).le (by omega))
    .exact am8 (n:=n) h (m+1) (by omega) |>.le (by omega)
  exact this ax (by omega) a d pl e c b f
theorem aqR(hn:names.length<4611686018427387904)(hl:l.length<4611686018427387904){k:PF}(hk:Gk names l 1 n k):Gd names l 10 (n+1) λa d pl=>dT k l a names d 0 pl:=by
 have q:∀m c,m<=n->Gk names l 10 m c->Gk names l 10 (m+1) (λs=>oU k c s.1 s.2.1 s.2.2.1 s.2.2.2.1 s.2.2.2.2.1 s.2.2.2.2.2):=by
  intro m c t r a d pl h g e i;have j:∀D,kb k c l a names D 0 pl=An names l (ops 10) a D 0 pl (kh k l a names D 0 pl) (λa d b p=>c (l,a,names,d,b,p)):=λD=>by unfold kb;rw [iu];rfl
  show nd names l (line 10) d (l.drop a) pl (Dk names l a d 0 pl (λD=>kb k c l a names D 0 pl));refine Bi rfl h g e (λhd=>?_);show PO names l 10 (d+1) (l.drop a) pl (kb k c l a names (d+1) 0 pl);rw [j];exact WW rfl hl e (atT hn hl hk a (d+1) pl (by omega) (by omega) e (by omega)) (λb f o=>r b (d+1) pl (by omega) (by omega) f (by omega))
 intro a d pl h g e i;show nd names l (line 10) d (l.drop a) pl (dT k l a names d 0 pl);unfold dT;rw [iu];exact I7 (n:=n) hl q a d pl h g e i
theorem ai5(hn:names.length<4611686018427387904)(hl:l.length<4611686018427387904){k:PF}(hk:Gk names l 1 n k):Gd names l 9 (n+1) λa d pl=>ez k l a names d 0 pl:=by
 intro a d pl g f e j;have h:ez k l a names d 0 pl=Qe names l (ops 9) (dT k l a names d 0 pl) (λa d b p=>dT k l a names d b p):=by unfold ez;rw [iu];rfl
 show nd names l (line 9) d (l.drop a) pl (ez k l a names d 0 pl);rw [h];exact Kz rfl hl e (Jo a) (aqR hn hl hk a d pl g f e j) (λb c i=>aqR hn hl hk b d pl g f c (by omega))
theorem amM(hn:names.length<4611686018427387904)(hl:l.length<4611686018427387904){k:PF}(hk:Gk names l 1 n k):Gd names l 8 (n+1) λa d pl=>ey k l a names d 0 pl:=by
 intro a d pl g f e j;have h:ey k l a names d 0 pl=Qe names l (ops 8) (ez k l a names d 0 pl) (λa d b p=>ez k l a names d b p):=by unfold ey;rw [iu];rfl
 show nd names l (line 8) d (l.drop a) pl (ey k l a names d 0 pl);rw [h];exact Kz rfl hl e (Jo a) (ai5 hn hl hk a d pl g f e j) (λb c i=>ai5 hn hl hk b d pl g f c (by omega))
theorem atK(hn:names.length<4611686018427387904)(hl:l.length<4611686018427387904){k:PF}(hk:Gk names l 1 n k):Gd names l 7 (n+1) λa d pl=>kg k l a names d 0 pl:=by intro a d pl g f e m;have i:kg k l a names d 0 pl=xU names l (ops 7) (ey k l a names d 0 pl) (λa d b p=>ey k l a names d b p):=rfl;show nd names l (line 7) d (l.drop a) pl (kg k l a names d 0 pl);rw [i];obtain ⟨r,hp,h⟩:=GB (s:=7) (whole:=λa d b p=>ey k l a names d b p) rfl hl e (amM hn hl hk a d pl g f e m) (λb c j=>amM hn hl hk b d pl g f c (by omega));exact ⟨r,hp d rfl rfl,h⟩
theorem auB(hn:names.length<4611686018427387904)(hl:l.length<4611686018427387904){k:PF}(hk:Gk names l 1 n k):Gd names l 6 (n+1) λa d pl=>gh k l a names d 0 pl:=by
 have q:∀m c,m<=n->Gk names l 6 m c->Gk names l 6 (m+1) (λs=>oV k c s.1 s.2.1 s.2.2.1 s.2.2.2.1 s.2.2.2.2.1 s.2.2.2.2.2):=by
  intro m c t r a d pl h g e i;have j:∀D,kj k c l a names D 0 pl=An names l (ops 6) a D 0 pl (kg k l a names D 0 pl) (λa d b p=>c (l,a,names,d,b,p)):=λD=>by unfold kj;rw [iu];rfl
  show nd names l (line 6) d (l.drop a) pl (Dk names l a d 0 pl (λD=>kj k c l a names D 0 pl));refine Bi rfl h g e (λhd=>?_);show PO names l 6 (d+1) (l.drop a) pl (kj k c l a names (d+1) 0 pl);rw [j];exact WW rfl hl e (atK hn hl hk a (d+1) pl (by omega) (by omega) e (by omega)) (λb f o=>r b (d+1) pl (by omega) (by omega) f (by omega))
 intro a d pl h g e i;show nd names l (line 6) d (l.drop a) pl (gh k l a names d 0 pl);unfold gh;rw [iu];exact I7 (n:=n) hl q a d pl h g e i
theorem aq2(hn:names.length<4611686018427387904)(hl:l.length<4611686018427387904){k:PF}(hk:Gk names l 1 n k):Gd names l 5 (n+1) λa d pl=>dx k l a names d 0 pl:=by
 have q:∀m c,m<=n->Gk names l 5 m c->Gk names l 5 (m+1) (λs=>oC k c s.1 s.2.1 s.2.2.1 s.2.2.2.1 s.2.2.2.2.1 s.2.2.2.2.2):=by
  intro m c t r a d pl h g e i;have j:∀D,iv k c l a names D 0 pl=xU names l (ops 5) (gh k l a names D 0 pl) (λa d b p=>c (l,a,names,d,b,p)):=λD=>by unfold iv;rw [iu];rfl
  show nd names l (line 5) d (l.drop a) pl (Dk names l a d 0 pl (λD=>iv k c l a names D 0 pl));refine Bi rfl h g e (λhd=>?_);show PO names l 5 (d+1) (l.drop a) pl (iv k c l a names (d+1) 0 pl);rw [j];exact GB rfl hl e (auB hn hl hk a (d+1) pl (by omega) (by omega) e (by omega)) (λb f o=>r b (d+1) pl (by omega) (by omega) f (by omega))
 intro a d pl h g e i;show nd names l (line 5) d (l.drop a) pl (dx k l a names d 0 pl);unfold dx;rw [iu];exact I7 (n:=n) hl q a d pl h g e i
theorem amY(hn:names.length<4611686018427387904)(hl:l.length<4611686018427387904){k:PF}(hk:Gk names l 1 n k):Gd names l 4 (n+1) λa d pl=>fa k l a names d 0 pl:=by
 intro a d pl g f e j;have h:fa k l a names d 0 pl=Qe names l (ops 4) (dx k l a names d 0 pl) (λa d b p=>dx k l a names d b p):=by unfold fa;rw [iu];rfl
 show nd names l (line 4) d (l.drop a) pl (fa k l a names d 0 pl);rw [h];exact Kz rfl hl e (Jo a) (aq2 hn hl hk a d pl g f e j) (λb c i=>aq2 hn hl hk b d pl g f c (by omega))
theorem auz(hn:names.length<4611686018427387904)(hl:l.length<4611686018427387904){k:PF}(hk:Gk names l 1 n k):Gd names l 3 (n+1) λa d pl=>jG k l a names d 0 pl:=by
 intro a d pl g f e j;have h:jG k l a names d 0 pl=Qe names l (ops 3) (fa k l a names d 0 pl) (λa d b p=>fa k l a names d b p):=by unfold jG;rw [iu];rfl
 show nd names l (line 3) d (l.drop a) pl (jG k l a names d 0 pl);rw [h];exact Kz rfl hl e (Jo a) (amY hn hl hk a d pl g f e j) (λb c i=>amY hn hl hk b d pl g f c (by omega))
theorem auR(hn:names.length<4611686018427387904)(hl:l.length<4611686018427387904){k:PF}(hk:Gk names l 1 n k):Gd names l 2 (n+1) λa d pl=>gu k l a names d 0 pl:=by
 have q:∀m c,m<=n->Gk names l 2 m c->Gk names l 2 (m+1) (λs=>om k c s.1 s.2.1 s.2.2.1 s.2.2.2.1 s.2.2.2.2.1 s.2.2.2.2.2):=by
  intro m c t r a d pl h g e i;have j:∀D,jZ k c l a names D 0 pl=xU names l (ops 2) (jG k l a names D 0 pl) (λa d b p=>c (l,a,names,d,b,p)):=λD=>by unfold jZ;rw [iu];rfl
  show nd names l (line 2) d (l.drop a) pl (Dk names l a d 0 pl (λD=>jZ k c l a names D 0 pl));refine Bi rfl h g e (λhd=>?_);show PO names l 2 (d+1) (l.drop a) pl (jZ k c l a names (d+1) 0 pl);rw [j];exact GB rfl hl e (auz hn hl hk a (d+1) pl (by omega) (by omega) e (by omega)) (λb f o=>r b (d+1) pl (by omega) (by omega) f (by omega))
 intro a d pl h g e i;show nd names l (line 2) d (l.drop a) pl (gu k l a names d 0 pl);unfold gu;rw [iu];exact I7 (n:=n) hl q a d pl h g e i
theorem avf(hn:names.length<4611686018427387904)(hl:l.length<4611686018427387904){k:PF}(hk:Gk names l 1 n k):Gk names l 1 (n+1) (λs=>nw k s.1 s.2.1 s.2.2.1 s.2.2.2.1 s.2.2.2.2.1 s.2.2.2.2.2):=by
 intro a d pl i h e j;have f:∀D,kc k l a names D 0 pl=xU names l (ops 1) (gu k l a names D 0 pl) (λa d b p=>k (l,a,names,d,b,p)):=λD=>by unfold kc;rw [iu];rfl
 show nd names l (line 1) d (l.drop a) pl (Dk names l a d 0 pl (λD=>kc k l a names D 0 pl));refine Bi rfl i h e (λhd=>?_);show PO names l 1 (d+1) (l.drop a) pl (kc k l a names (d+1) 0 pl);rw [f];exact GB rfl hl e (auR hn hl hk a (d+1) pl (by omega) (by omega) e (by omega)) (λb c g=>hk b (d+1) pl (by omega) (by omega) c (by omega))
theorem al0(hn:names.length<4611686018427387904)(hl:l.length<4611686018427387904){a:Nat}{d pl:Int}(e:0<=d)(c:d<=320)(b:Ends (l.drop a)):
  nd names l (line 1) d (l.drop a) pl (rh l (a:Int) names d 0 pl):=by
 have:=I7 (names:=names) (l:=l) (n:=l.length) (s:=1) (F:=λk s=>nw k s.1 s.2.1 s.2.2.1 s.2.2.2.1 s.2.2.2.2.1 s.2.2.2.2.2) hl (λm k _ hk=>avf hn hl hk);exact this a d pl e c b (by have:=Jo (l:=l) a;omega)
def told(l:List Tok):Out->Ex×Int×Int×Int
 | .ok p=>(p.1,((l.length-p.2.length:Nat):Int),0,0)
 | .error e=>(.mk 0 0 0 [],0,e.1,e.2)
theorem apm(hn:names.length<4611686018427387904)(hl:l.length<4611686018427387904){a:Nat}(f:Ends (l.drop a)):∃r,P names (line 1) 0 (l.drop a) r/\sO l (a:Int) names=some (told l r):=by
 obtain ⟨r,hp,d⟩:=al0 (pl:=0) hn hl (qK 0) (by omega) f;refine ⟨r,hp,?_⟩;unfold sO;cases r with
 |error e=>
  obtain ⟨x,k,hk,c⟩:=d;rw [c];simp only [aR,Ja hp,cw];rfl
 |ok p=>
  obtain ⟨k,hk,c⟩:=d;obtain ⟨h,j⟩:=hp.ends f _ rfl;rw [c];obtain ⟨t,i,b⟩:=h.ne;have g:=(drop_cons (hk.trans b)).2.2;simp only [aR,show ((0:Int) != 0)=false from rfl,bd,told];rw [<-hk,cO,show l.length-(l.length-k)=k by omega]
end Pa
namespace Pa
def isLet(c:UInt8):Bool:=(decide (97<=c)&&decide (c<=122))||(decide (65<=c)&&decide (c<=90))||c==95
def jO(t:Tok):Prop:=(t.1=1/\∃c s,t.2.1=c::s/\isLet c=true)\/t.1=2\/(t.1=3/\∀c s,t.2.1=c::s->isLet c=false)\/t.1=4
theorem yC{l:List Tok}{a:Nat}{t:Tok}{d:List Tok}(h:l.drop a=t::d):idx l (a:Int)=some t/\l.drop (a+1)=d/\a<l.length/\t∈l:=by
 have b:a<l.length:=by
  rcases qB a l.length with c|c
  .exact c
  .rw [qJ c] at h;cases h
 rw [qz b] at h;simp only [qm] at h;refine ⟨by simp [idx,cB b,h.1],h.2,b,by rw [<-h.1];exact vc ..⟩
theorem Gb{a:Nat}(h:a<4611686018427387904):i64.wrap ((a:Int)+1)=((a+1:Nat):Int):=by rw [dO (by omega)];omega
end Pa
namespace Sy
open Pa
theorem mid{l pre r:List α}{x:α}(h:l=pre++x::r):idx l (pre.length:Int)=some x:=by subst h;simp [idx]
end Sy
theorem arZ(a:aD):ku a=some (uF.contains a):=by
 unfold ku wM uF;simp only [List.contains_cons,List.contains_nil,sj];cases (a==[116,114,117,101])
 case true=>rfl
 cases (a==[102,97,108,115,101])
 case true=>rfl
 cases (a==[88])
 case true=>rfl
 cases (a==[70])
 case true=>rfl
 cases (a==[71])
 case true=>rfl
 cases (a==[85])
 case true=>rfl
 cases (a==[82])
 case true=>rfl
 cases (a==[118,97,114])
 case true=>rfl
 cases (a==[112,114,111,99]) <;> rfl
namespace Pa
open uh
def LY(w:Bool)(x:aD):Bool:=match x with
 |[]=>false
 |c::_=>isLet c==w&&uF.contains x==w
theorem afH{t:Tok}(h:jO t){x:aD}(hx:LY true x=true):(vL t&&(x==t.2.1))=((t.1==1)&&(t.2.1==x)):=by
 obtain ⟨k,y,n,p⟩:=t;simp only [jO] at h;simp only [vL,key];by_cases a:y=x
 .subst a;rcases h with ⟨rfl,c,s,b,i⟩|rfl|⟨rfl,d⟩|rfl
  .subst b;simp only [LY,ar,eT] at hx;rw [hx.2];simp
  .simp
  .cases y with
   |nil=>cases hx
   |cons c s=>
    simp only [LY,ar,eT] at hx;rw [d c s rfl] at hx;cases hx.1
  .simp
 .have g:(x==y)=false:=beq_eq_false_iff_ne.2 (λe=>a e.symm);have f:(y==x)=false:=beq_eq_false_iff_ne.2 a;rw [g,f];simp
theorem atk{t:Tok}(h:jO t){x:aD}(hx:LY false x=true):(vL t&&(x==t.2.1))=((t.1==3)&&(t.2.1==x)):=by
 obtain ⟨k,y,n,p⟩:=t;simp only [jO] at h;simp only [vL,key];by_cases a:y=x
 .subst a;rcases h with ⟨rfl,c,s,d,b⟩|rfl|⟨rfl,i⟩|rfl
  .subst d;simp only [LY,ar,eT] at hx;rw [hx.1] at b;cases b
  .simp
  .simp
  .simp
 .have g:(x==y)=false:=beq_eq_false_iff_ne.2 (λe=>a e.symm);have f:(y==x)=false:=beq_eq_false_iff_ne.2 a;rw [g,f];simp
def iS(t:Tok):Bool:=(t.1 != 2)&&(t.1 != 4)
theorem bQ{t:Tok}(h:jO t){x:aD}{w:Bool}(hx:LY w x=true):(vL t&&(x==t.2.1))=(iS t&&(t.2.1==x)):=by
 by_cases a:t.2.1=x
 .rcases h with ⟨k,c,s,b,g⟩|j|⟨i,d⟩|d
  .rw [a] at b;have hk:uF.contains x=true:=by subst b;simp only [LY,ar,eT] at hx;rw [hx.2,<-hx.1];exact g
   have f:x∈uF:=by simpa using hk
   simp [vL,key,iS,k,a,f]
  .simp [vL,iS,j]
  .simp [vL,iS,i,a]
  .simp [vL,iS,d]
 .have m:(x==t.2.1)=false:=beq_eq_false_iff_ne.2 (λe=>a e.symm);have l:(t.2.1==x)=false:=beq_eq_false_iff_ne.2 a;rw [m,l];simp
theorem nM(t:Tok):Gw [] t=none:=by unfold Gw;cases vL t <;> rfl
theorem lr(o:Int)(l:zg)(t:Tok):Gw (o::l) t=bif (vL t&&(bO o==t.2.1)) then some o else Gw l t:=by
 unfold Gw;cases vL t
 .rfl
 .simp only [cw,List.find?_cons,j2];cases bO o==t.2.1 <;> rfl
def opt(o:y2):Int:=o.getD 0
theorem au6{t:Tok}(h:jO t):cX t 1=some (opt (da 1 t)):=by have e:=bQ h (x:=bO 19) (w:=false) rfl;simp only [da,ops,lr,nM,e];show (bif iS t then (bif (t.2.1==bO 19) then some 19 else some 0) else some 0)=_;cases iS t <;> cases (t.2.1==bO 19) <;> rfl
theorem avt{t:Tok}(h:jO t):cX t 2=some (opt (da 2 t)):=by have e:=bQ h (x:=bO 18) (w:=false) rfl;simp only [da,ops,lr,nM,e];show (bif iS t then (bif (t.2.1==bO 18) then some 18 else some 0) else some 0)=_;cases iS t <;> cases (t.2.1==bO 18) <;> rfl
theorem avz{t:Tok}(h:jO t):cX t 3=some (opt (da 3 t)):=by have e:=bQ h (x:=bO 17) (w:=false) rfl;simp only [da,ops,lr,nM,e];show (bif iS t then (bif (t.2.1==bO 17) then some 17 else some 0) else some 0)=_;cases iS t <;> cases (t.2.1==bO 17) <;> rfl
theorem au7{t:Tok}(h:jO t):cX t 4=some (opt (da 4 t)):=by have e:=bQ h (x:=bO 16) (w:=false) rfl;simp only [da,ops,lr,nM,e];show (bif iS t then (bif (t.2.1==bO 16) then some 16 else some 0) else some 0)=_;cases iS t <;> cases (t.2.1==bO 16) <;> rfl
theorem avB{t:Tok}(h:jO t):cX t 5=some (opt (da 5 t)):=by have e:=bQ h (x:=bO 23) (w:=true) rfl;have a:=bQ h (x:=bO 24) (w:=true) rfl;simp only [da,ops,lr,nM,e,a];show (bif iS t then (bif (t.2.1==bO 23) then some 23 else (bif (t.2.1==bO 24) then some 24 else some 0)) else some 0)=_;cases iS t <;> cases (t.2.1==bO 23) <;> cases (t.2.1==bO 24) <;> rfl
theorem avC{t:Tok}(h:jO t):cX t 8=some (opt (da 8 t)):=by have e:=bQ h (x:=bO 3) (w:=false) rfl;have a:=bQ h (x:=bO 4) (w:=false) rfl;simp only [da,ops,lr,nM,e,a];show (bif iS t then (bif (t.2.1==bO 3) then some 3 else (bif (t.2.1==bO 4) then some 4 else some 0)) else some 0)=_;cases iS t <;> cases (t.2.1==bO 3) <;> cases (t.2.1==bO 4) <;> rfl
theorem avi{t:Tok}(h:jO t):cX t 9=some (opt (da 9 t)):=by have e:=bQ h (x:=bO 5) (w:=false) rfl;simp only [da,ops,lr,nM,e];show (bif iS t then (bif (t.2.1==bO 5) then some 5 else some 0) else some 0)=_;cases iS t <;> cases (t.2.1==bO 5) <;> rfl
theorem avj{t:Tok}(h:jO t):cX t 7=some (opt (da 7 t)):=by
 have r:=bQ h (x:=bO 7) (w:=false) rfl;have q:=bQ h (x:=bO 8) (w:=false) rfl;have p:=bQ h (x:=bO 9) (w:=false) rfl;have o:=bQ h (x:=bO 10) (w:=false) rfl;have n:=bQ h (x:=bO 11) (w:=false) rfl;have l:=bQ h (x:=bO 12) (w:=false) rfl;simp only [da,ops,lr,nM,r,q,p,o,n,l];obtain ⟨m,a⟩:∃m,ax=m+7:=⟨18446744073709551609,rfl⟩;unfold cX;rw [a];clear a;have k:(ah (t.1 != 2) λv=>ah (t.1 != 4) λu=>ah (v&&u) λs=>bif s then aw (bG t) (m+7) 0 else some 0)=(bif iS t then aw (bG t) (m+7) 0 else some 0):=rfl;refine Eq.trans (b:=bif iS t then aw (bG t) (m+7) 0 else some 0) rfl ?_;clear k;have j:aw (bG t) (m+7) 0=bif (t.2.1==bO 7) then some 7 else aw (bG t) (m+6) 1:=rfl
 have i:aw (bG t) (m+6) 1=bif (t.2.1==bO 8) then some 8 else aw (bG t) (m+5) 2:=rfl
 have g:aw (bG t) (m+5) 2=bif (t.2.1==bO 9) then some 9 else aw (bG t) (m+4) 3:=rfl
 have f:aw (bG t) (m+4) 3=bif (t.2.1==bO 10) then some 10 else aw (bG t) (m+3) 4:=rfl
 have e:aw (bG t) (m+3) 4=bif (t.2.1==bO 11) then some 11 else aw (bG t) (m+2) 5:=rfl
 have d:aw (bG t) (m+2) 5=bif (t.2.1==bO 12) then some 12 else aw (bG t) (m+1) 6:=rfl
 have c:aw (bG t) (m+1) 6=some 0:=rfl;rw [j,i,g,f,e,d,c];cases iS t
 .rfl
 cases (t.2.1==bO 7)
 case true=>rfl
 cases (t.2.1==bO 8)
 case true=>rfl
 cases (t.2.1==bO 9)
 case true=>rfl
 cases (t.2.1==bO 10)
 case true=>rfl
 cases (t.2.1==bO 11)
 case true=>rfl
 cases (t.2.1==bO 12) <;> rfl
theorem aqX{t:Tok}(h:jO t){s:Nat}(c:1<=s)(a:s<=9)(b:s≠6):cX t (s:Int)=some (opt (da s t)):=by
 have:s=1\/s=2\/s=3\/s=4\/s=5\/s=7\/s=8\/s=9:=by omega
 rcases this with rfl|rfl|rfl|rfl|rfl|rfl|rfl|rfl
 .exact au6 h
 .exact avt h
 .exact avz h
 .exact au7 h
 .exact avB h
 .exact avj h
 .exact avC h
 .exact avi h
theorem VS{t:Tok}{k:Int}(h:da s t=some k):(k==0)=false:=by
 have key:∀l:zg,(l.all λo=>o != 0)=true->Gw l t=some k->(k==0)=false:=λl hl h=>by
  unfold Gw at h;cases a:vL t
  .rw [a] at h;cases h
  .rw [a] at h;have:=s4 h;have:=List.all_eq_true.1 hl k this;simpa using this
 refine key (ops s) ?_ h
 match s with
 |0=>rfl
 |1=>rfl
 |2=>rfl
 |3=>rfl
 |4=>rfl
 |5=>rfl
 |6=>rfl
 |7=>rfl
 |8=>rfl
 |9=>rfl
 |10=>rfl
 |11=>rfl
 |n+12=>rfl
abbrev R4:=Ex×Int×Int×Int
abbrev LF:=(Int×Int×List Tok×Int×List aD×Int×Int)->Option R4
def RR(l:List Tok)(r:Out)(m:Option R4):Prop:=match r with
 | .ok (x,ts)=>∃a:Nat,l.drop a=ts/\m=some (x,(a:Int),0,0)
 | .error (b,p)=>∃x a,m=some (x,a,b,p)
theorem Qf{names:List aD}{j:uh}{a:List Tok}{b p:Int}(h:P names j d a (.error (b,p))):(b != 0)=true:=by rcases h.err _ rfl with h|h|h <;> (simp only at h;subst h;rfl)
theorem QD{l:List Tok}{a:Nat}{t:Tok}(h:idx l (a:Int)=some t)(b:Int)(names:List aD)(p:Int):cf b l (a:Int) names 0 p=some (.mk 0 0 0 [],b,t.2.2.2):=by unfold cf;rw [h];rfl
def ui(names:List aD)(v:aD)(i:Nat):za:=((names.drop i).findIdx? (λx=>v==x)).map (· +i)
theorem ahn(names:List aD)(v:aD):ui names v 0=at_ names v:=by unfold ui at_;simp
theorem apw{l:List Tok}{a:Nat}{t:Tok}{names:List aD}(hn:names.length<4611686018427387904)(c:a<4611686018427387904)(b:idx l (a:Int)=some t):
  ∀(m i M:Nat),names.length-i<=m->i<=names.length->m<M->
   aw (fA l (a:Int) names 0 0 t) M (i:Int)=
    match ui names t.2.1 i with
    |some j=>some (.mk 2 (j:Int) t.2.2.2 [],((a+1:Nat):Int),0,0)
    |none=>some (.mk 0 0 0 [],(a:Int),3,t.2.2.2):=by
 intro m
 induction m with
 |zero=>
  intro i M g f d;obtain ⟨M,rfl⟩:∃k,M=k+1:=⟨M-1,by omega⟩;have hi:i=names.length:=by omega
  subst hi;rw [bz];have e:ui names t.2.1 names.length=none:=by unfold ui;simp
  rw [e];simp only [fA,e9 (show ¬((names.length:Int)<(names.length:Int)) by omega),bd,QD b,aR]
 |succ m ih=>
  intro i M g f d;obtain ⟨M,rfl⟩:∃k,M=k+1:=⟨M-1,by omega⟩;rw [bz];by_cases hi:i<names.length
  .have hd:names.drop i=names[i]::names.drop (i+1):=qz hi;have hx:idx names (i:Int)=some names[i]:=by simp [idx,cB hi]
   simp only [fA,ql (show ((i:Nat):Int)<(names.length:Int) by omega),cw,hx,aR,Gb c,Gb (show i<4611686018427387904 by omega)];have e:ui names t.2.1 i=bif (names[i]==t.2.1) then some i else ui names t.2.1 (i+1):=by
    unfold ui;rw [hd,List.findIdx?_cons];have:(t.2.1==names[i])=(names[i]==t.2.1):=by
     by_cases h:t.2.1=names[i]
     .rw [h]
     .rw [beq_eq_false_iff_ne.2 h,beq_eq_false_iff_ne.2 (λe=>h e.symm)]
    rw [this];cases (names[i]==t.2.1)
    .simp only [bd,cL,j3,Option.map_map];congr 1
     funext x
     simp only [Function.comp];omega
    .simp
   rw [e];cases (names[i]==t.2.1)
   .simp only [bd];exact ih (i+1) M (by omega) (by omega) (by omega)
   .rfl
  .have hi:i=names.length:=by omega
   subst hi;have e:ui names t.2.1 names.length=none:=by unfold ui;simp
   rw [e];simp only [fA,e9 (show ¬((names.length:Int)<(names.length:Int)) by omega),bd,QD b,aR]
def SR(names:List aD)(l:List Tok)(k:LF)(s:Nat)(d:Int)(a:Nat):Prop:= ∃r,P names (line s) d (l.drop a) r/\RR l r (k ((s:Int),d,l,(a:Int),names,0,0))
theorem atD{names:List aD}(hn:names.length<4611686018427387904){l:List Tok}(hl:l.length<4611686018427387904)(htok:∀t∈l,jO t){k:LF}{d:Int}{a:Nat}(G:Ends (l.drop a))
  (hk:Ends (l.drop (a+1))->SR names l k 1 d (a+1)):∃r,P names (line 11) d (l.drop a) r/\RR l r (fm k d l (a:Int) names 0 0):=by
 obtain ⟨t,Q,u⟩:=G.ne;obtain ⟨hx,i,S,y⟩:=yC u;have w:=htok t y;have M:a<4611686018427387904:=by omega
 have U:=afH w (x:=bO 13) rfl;have V:=afH w (x:=bO 14) rfl;have q:da 11 t=bif ((t.1==1)&&(t.2.1==bO 13)) then some 13 else bif ((t.1==1)&&(t.2.1==bO 14)) then some 14 else none:=by simp only [da,ops,lr,nM,U,V]
 rw [u];unfold fm;simp only [hx,aR,dv,arZ,Gb M];cases o:(t.1==2)
 case true=>
  have T:(t.1==1)=false:=by have:=beq_iff_eq.1 o;rw [this];rfl
  exact ⟨_,.oNum rfl (by rw [q,T];rfl) o,a+1,i,rfl⟩
 simp only [bd];cases B:((t.1==1)&&(t.2.1==bO 13))
 case true=>
  rw [show ((t.1==1)&&(t.2.1==[116,114,117,101]))=true from B];exact ⟨_,.oWord rfl (by rw [q,B];rfl),a+1,i,rfl⟩
 rw [show ((t.1==1)&&(t.2.1==[116,114,117,101]))=false from B];simp only [bd];cases D:((t.1==1)&&(t.2.1==bO 14))
 case true=>
  rw [show ((t.1==1)&&(t.2.1==[102,97,108,115,101]))=true from D];exact ⟨_,.oWord rfl (by rw [q,B,D];rfl),a+1,i,rfl⟩
 rw [show ((t.1==1)&&(t.2.1==[102,97,108,115,101]))=false from D];simp only [bd];have f:da 11 t=none:=by rw [q,B,D];rfl
 cases N:((t.1==1)&& !(uF.contains t.2.1))
 case true=>
  have e:sX t=true:=N;simp only [cw];have:=apw hn M hx names.length 0 ax (by omega) (by omega) (by show names.length<2^64;omega);rw [show ((0:Nat):Int)=0 from rfl,ahn] at this;rw [this];cases hat:at_ names t.2.1 with
  |some j=>exact ⟨_,.oVar rfl f o e hat,a+1,i,rfl⟩
  |none=>exact ⟨_,.oName rfl f o e hat,_,_,rfl⟩
 have e:sX t=false:=N;simp only [bd];cases C:(((t.1 != 3)||(t.2.1 != [40])):Bool)
 case true=>
  have g:open_ t=false:=by
   unfold open_;simp only [dk,bne_iff_ne] at C;rcases C with h|h
   .rw [beq_eq_false_iff_ne.2 h];rfl
   .rw [beq_eq_false_iff_ne.2 h,qy]
  simp only [cw,QD hx,aR];exact ⟨_,.oForm rfl f o e g,_,_,rfl⟩
 have I:t.1=3/\t.2.1=[40]:=by simp only [qh,bne_eq_false_iff_eq] at C;exact C
 have g:open_ t=true:=by unfold open_;rw [I.1,I.2];rfl
 have z:Ends Q:=by rw [u] at G;exact G.tail (by rw [I.1];decide)
 obtain ⟨r,m,v⟩:=hk (by rw [i];exact z);rw [i] at m;simp only [bd]
 match r,m,v with
 | .error (b,p),m,⟨x,a',v⟩=>
  have hb:=Qf m;rw [show ((1:Nat):Int)=1 from rfl] at v;rw [v,aR];simp only [hb,cw];exact ⟨_,.oErr rfl f o e g m,_,_,rfl⟩
 | .ok (x,ts'),m,⟨a',ha',v⟩=>
  rw [show ((1:Nat):Int)=1 from rfl] at v;obtain ⟨F,R⟩:=m.ends z _ rfl;obtain ⟨c,O,L⟩:=F.ne;simp only at L;subst L;obtain ⟨s,H,K,E⟩:=yC ha';rw [v,aR];simp only [tx,bd,s,aR,Gb (show a'<4611686018427387904 by omega)];by_cases n:c.1=3
  .have J:(c.1 != 3)=false:=by rw [n];rfl
   simp only [J,qt,oH,aR,qs];cases A:(c.2.1 != [41])
   .have:close_ c=true:=by unfold close_;rw [n,bne_eq_false_iff_eq.1 A];rfl
    exact ⟨_,.oOpen rfl f o e g m this,a'+1,H,rfl⟩
   .have:close_ c=false:=by unfold close_;rw [beq_eq_false_iff_ne.2 (bne_iff_ne.1 A),qy]
    simp only [cw,QD s,aR];exact ⟨_,.oClose rfl f o e g m this,_,_,rfl⟩
  .have J:(c.1 != 3)=true:=bne_iff_ne.2 n;have:close_ c=false:=by unfold close_;rw [beq_eq_false_iff_ne.2 n];rfl
   simp only [J,p8,LB,q3,cw,QD s,aR];exact ⟨_,.oClose rfl f o e g m this,_,_,rfl⟩
end Pa
namespace Pa
open uh
theorem YA(e:Ex):Ex.mk e.op e.n e.at_ e.l=e:=by cases e;rfl
theorem aik(m:Option R4):(m.bind λr=>some (r.1,r.2.1,r.2.2.1,r.2.2.2))=m:=by cases m <;> rfl
theorem RR.one{l:List Tok}{r:Out}{m:Option R4}(h:RR l r m)(c pl:Int):RR l (aok c pl r) (m.bind λr=>some (.mk c 0 pl [r.1],r.2.1,r.2.2.1,r.2.2.2)):=by
 match r,h with
 | .ok (x,ts),⟨a,h1,h2⟩=>subst h2;exact ⟨a,h1,rfl⟩
 | .error (b,p),⟨x,a,h2⟩=>subst h2;exact ⟨_,_,rfl⟩
theorem RR.two{l:List Tok}{r:Out}{m:Option R4}(h:RR l r m)(c pl:Int)(y:Ex):RR l (ap7 c pl y r) (m.bind λr=>some (.mk c 0 pl [y,r.1],r.2.1,r.2.2.1,r.2.2.2)):=by
 match r,h with
 | .ok (x,ts),⟨a,h1,h2⟩=>subst h2;exact ⟨a,h1,rfl⟩
 | .error (b,p),⟨x,a,h2⟩=>subst h2;exact ⟨_,_,rfl⟩
theorem anR{s:Nat}(a:1<=s)(h:s<=10):kD (s:Int)=some (py s):=by
 have:s=1\/s=2\/s=3\/s=4\/s=5\/s=6\/s=7\/s=8\/s=9\/s=10:=by omega
 rcases this with rfl|rfl|rfl|rfl|rfl|rfl|rfl|rfl|rfl|rfl <;> rfl
theorem avy{k:LF}{s:Nat}(c:1<=s)(h:s<=10){d:Int}(f:0<=d)(e:d<=320)(l:List Tok)(a:Int)(names:List aD):
  ei k (s:Int) d l a names 0 0=kf k (s:Int) l a names 0 0 (py s) (dn s d):=by
 unfold ei;simp only [tx,bd,anR c h,aR];have b:i64.wrap (d+1)=d+1:=dO (by omega);unfold dn;rw [b];cases py s <;> rfl
theorem arT(s:Nat)(d:Int):(py s&&decide (320<dn s d))=kE s d:=by
 unfold kE dn;cases py s
 .rfl
 .simp only [cw,j2];by_cases h:320<=d
  .rw [ql h,ql (by omega)]
  .rw [e9 h,e9 (by omega)]
theorem auM{s:Nat}{d:Int}(c:0<=d)(b:d<=320)(hd:kE s d=false):0<=dn s d/\dn s d<=320:=by
 unfold kE at hd;unfold dn;cases a:py s
 .simpa using ⟨c,b⟩
 .rw [a] at hd;simp only [j2,tj] at hd;simp only [cw];omega
section
variable {names : List aD} {l : List Tok} {k : LF} {N : Nat}
variable (hn : names.length < 4611686018427387904) (hl : l.length < 4611686018427387904) (htok :∀t ∈ l, jO t)
variable (hk :∀(s : Nat) (d : Int) (a : Nat), 1 <= s -> s <= 10 -> 0 <= d -> d <= 320 -> Ends (l.drop a) -> 12 * (l.drop a).length + (11 - s) < N -> SR names l k s d a)
include hn hl htok hk
theorem pre6{d:Int}{a:Nat}{t:Tok}{g:List Tok}(c:l.drop a=t::g)(C:Ends (t::g))(E:0<=dn 6 d)(D:dn 6 d<=320)(hd:kE 6 d=false)(I:12*(l.drop a).length+5<N+1):
  ∃r,P names (line 6) d (t::g) r/\RR l r (dY k l (a:Int) names 0 0 (dn 6 d) t (bif ((t.1==3)&&(t.2.1==[33])) then 15 else 0)):=by
 have _:=hn;obtain ⟨hx,f,G,i⟩:=yC c;have e:=htok t i;have w:=atk e (x:=bO 15) rfl;have v:=afH e (x:=bO 20) rfl;have u:=afH e (x:=bO 21) rfl;have s:=afH e (x:=bO 22) rfl;have m:da 6 t=bif ((t.1==3)&&(t.2.1==bO 15)) then some 15 else bif ((t.1==1)&&(t.2.1==bO 20)) then some 20 else bif ((t.1==1)&&(t.2.1==bO 21)) then some 21 else bif ((t.1==1)&&(t.2.1==bO 22)) then some 22 else none:=by simp only [da,ops,lr,nM,w,v,u,s]
 have H:dY k l (a:Int) names 0 0 (dn 6 d) t (bif ((t.1==3)&&(t.2.1==[33])) then 15 else 0)=jY k l (a:Int) names 0 0 (dn 6 d) t (opt (da 6 t)):=by
  rw [m];unfold dY pw o8;simp only [dv];rw [show bO 15=[33] from rfl,show bO 20=[88] from rfl,show bO 21=[70] from rfl,show bO 22=[71] from rfl];by_cases A:t.1=1
  .rw [A];by_cases q:t.2.1=[88]
   .rw [q];rfl
   .by_cases z:t.2.1=[70]
    .rw [z];rfl
    .by_cases y:t.2.1=[71]
     .rw [y];rfl
     .rw [beq_eq_false_iff_ne.2 q,beq_eq_false_iff_ne.2 z,beq_eq_false_iff_ne.2 y];rfl
  .rw [beq_eq_false_iff_ne.2 A];cases ((t.1==3)&&(t.2.1==[33])) <;> rfl
 rw [H];unfold jY;have B:(l.drop a).length=g.length+1:=by rw [c];rfl
 cases j:da 6 t with
 |none=>
  obtain ⟨r,h,n⟩:=hk 7 (dn 6 d) a (by omega) (by omega) E D (by rw [c];exact C) (by omega);rw [c] at h;refine ⟨r,.other rfl hd j h,?_⟩;show RR l r ((k (7,dn 6 d,l,(a:Int),names,0,0)).bind λb=>some (b.1,b.2.1,b.2.2.1,b.2.2.2));rw [aik];exact n
 |some F=>
  have o:=VS j;have p:Ends g:=C.tail (uD j);obtain ⟨r,h,n⟩:=hk 6 (dn 6 d) (a+1) (by omega) (by omega) E D (by rw [f];exact p) (by rw [f];omega);rw [f] at h;refine ⟨_,.pre rfl hd j h,?_⟩;simp only [opt,qg,o,bd,Gb (show a<4611686018427387904 by omega)];exact n.one F t.2.2.2
theorem auF{d:Int}{a:Nat}{t:Tok}{i:List Tok}(f:l.drop a=t::i)(s:Ends (t::i))(v:0<=dn 10 d)(u:dn 10 d<=320)(hd:kE 10 d=false)(z:12*(l.drop a).length+1<N+1):
  ∃r,P names (line 10) d (t::i) r/\RR l r (bif (t.1 != 3)||(t.2.1 != [45]) then (fm k (dn 10 d) l (a:Int) names 0 0).bind λe=>some (e.1,e.2.1,e.2.2.1,e.2.2.2)
   else (k (10,dn 10 d,l,(i64.wrap ((a:Int)+1)),names,0,0)).bind λc=>some ((Ex.mk 6 0 t.2.2.2 ([c.1]:List Ex)),c.2.1,c.2.2.1,c.2.2.2)):=by
 obtain ⟨hx,g,w,m⟩:=yC f;have n:=htok t m;have y:=atk n (x:=bO 6) rfl;have b:da 10 t=bif ((t.1==3)&&(t.2.1==bO 6)) then some 6 else none:=by simp only [da,ops,lr,nM,y]
 have q:(l.drop a).length=i.length+1:=by rw [f];rfl
 have hb:((t.1 != 3)||(t.2.1 != [45]))= !((t.1==3)&&(t.2.1==bO 6)):=by show ((!(t.1==3))||(!(t.2.1==[45])))=_;rw [show bO 6=[45] from rfl,Bool.not_and]
 rw [hb];cases p:((t.1==3)&&(t.2.1==bO 6))
 .rw [p] at b;simp only [qt,cw,aik];obtain ⟨r,j,o⟩:=atD hn hl htok (k:=k) (d:=dn 10 d) (a:=a) (by rw [f];exact s) (λh=>hk 1 (dn 10 d) (a+1) (by omega) (by omega) v u h (by rw [g];omega));rw [f] at j;exact ⟨r,.other rfl hd b j,o⟩
 .rw [p] at b;have b:da 10 t=some 6:=b;have h:Ends i:=s.tail (uD b);simp only [p8,bd,Gb (show a<4611686018427387904 by omega)];obtain ⟨r,j,o⟩:=hk 10 (dn 10 d) (a+1) (by omega) (by omega) v u (by rw [g];exact h) (by rw [g];omega);rw [g] at j;exact ⟨_,.pre rfl hd b j,o.one 6 t.2.2.2⟩
theorem al1{s:Nat}(u:1<=s)(S:s<=9)(T:s≠6)(I:kd s=2){D:Int}(V:0<=D)(U:D<=320)(L:((((s:Int)==1)||((s:Int)==2))||((s:Int)==5))=false)(A:((s:Int)==7)=false):
  ∀(n a M:Nat) (x:Ex),(l.drop a).length<=n->n<M->Ends (l.drop a)->12*(l.drop a).length<=N->
   ∃r,P names (loop s x) D (l.drop a) r/\RR l r (aw (dX k (s:Int) l names D) M ((a:Int),0,0,x.op,x.n,x.at_,x.l)):=by
 have _:=hn;intro n
 induction n with
 |zero=>
  intro a M x u X q _;obtain ⟨t,v,c⟩:=q.ne;rw [c] at u;simp at u
 |succ n ih=>
  intro a M x Q W q R;obtain ⟨M,rfl⟩:∃m,M=m+1:=⟨M-1,by omega⟩;obtain ⟨t,v,c⟩:=q.ne;obtain ⟨hx,e,O,h⟩:=yC c;have B:=htok t h;have H:(l.drop a).length=v.length+1:=by rw [c];rfl
  rw [bz];simp only [dX,qT,cw,hx,aR,aqX B u S T,dv,L,bd,A];cases g:da s t with
  |none=>
   refine ⟨.ok (x,l.drop a),by rw [c];exact .lpEnd g,a,rfl,?_⟩;simp only [opt,Option.getD_none,qT,cw,YA]
  |some K=>
   have E:=VS g;have j:Ends v:=by rw [c] at q;exact q.tail (uD g)
   have z:i64.wrap ((s:Int)+1)=((s+1:Nat):Int):=by rw [dO (by omega)];omega
   simp only [opt,qg,E,bd,Gb (show a<4611686018427387904 by omega),z];obtain ⟨r,d,i⟩:=hk (s+1) D (a+1) (by omega) (by omega) V U (by rw [e];exact j) (by rw [e];omega);rw [e] at d
   match r,d,i with
   | .error (b,p),d,⟨y,a',i⟩=>
    have hb:=Qf d;have F:(b==0)=false:=by simpa using hb
    rw [i,aR];have G:0<M:=by
     have:=R;have:1<=(l.drop a).length:=by omega
     omega
    obtain ⟨M,rfl⟩:∃m,M=m+1:=⟨M-1,by omega⟩;rw [bz];simp only [dX,F,bd];rw [c];exact ⟨_,.lpErr g d,_,_,rfl⟩
   | .ok (y,ts'),d,⟨a',ha',i⟩=>
    obtain ⟨o,w⟩:=d.ends j _ rfl;simp only [shorter] at w o;rw [i,aR];obtain ⟨J,f,C⟩:=ih a' M (.mk K 0 t.2.2.2 [x,y]) (by rw [ha'];omega) (by omega) (by rw [ha'];exact o) (by rw [ha'];omega);rw [ha'] at f;refine ⟨J,by rw [c];exact .lpGo g d f,?_⟩;simp only [YA];exact C
theorem amr{s:Nat}(X:1<=s)(W:s<=10){d:Int}(h0:0<=d)(h3:d<=320){a:Nat}(v:Ends (l.drop a))(hN:12*(l.drop a).length+(11-s)<N+1):
  ∃r,P names (line s) d (l.drop a) r/\RR l r (ei k (s:Int) d l (a:Int) names 0 0):=by
 obtain ⟨t,ts,c⟩:=v.ne;obtain ⟨hx,hd1,hlt,hmem⟩:=yC c;rw [avy X W h0 h3];unfold kf;simp only [dv,arT];cases hd:kE s d
 case true=>
  rw [c];simp only [cw,QD hx,aR];exact ⟨_,.jy hd,_,_,rfl⟩
 obtain ⟨j,i⟩:=auM h0 h3 hd;simp only [bd,hx,aR];rw [c] at v;by_cases V:s=6
 .subst V;have:=pre6 hn hl htok hk c v j i hd (by omega);rw [c];obtain ⟨r,f,o⟩:=this;refine ⟨r,f,?_⟩;show RR l r (bif ((t.1==3)&&(t.2.1==[33])) then dY k l (a:Int) names 0 0 (dn 6 d) t 15 else dY k l (a:Int) names 0 0 (dn 6 d) t 0);cases hb:((t.1==3)&&(t.2.1==[33])) <;> rw [hb] at o <;> exact o
 by_cases z:s=10
 .subst z;obtain ⟨r,f,o⟩:=auF hn hl htok hk c v j i hd (by omega);rw [c];exact ⟨r,f,o⟩
 have b6:((s:Int)==6)=false:=beq_eq_false_iff_ne.2 (by omega);have Y:((s:Int)==10)=false:=beq_eq_false_iff_ne.2 (by omega);have A:i64.wrap ((s:Int)+1)=((s+1:Nat):Int):=by rw [dO (by omega)];omega
 simp only [b6,Y,bd,A];obtain ⟨r,f,o⟩:=hk (s+1) (dn s d) a (by omega) (by omega) j i (by rw [c];exact v) (by omega);have hlen:(l.drop a).length=ts.length+1:=by rw [c];rfl
 have E:kd s=1\/kd s=2:=by
  have:s=1\/s=2\/s=3\/s=4\/s=5\/s=7\/s=8\/s=9:=by omega
  rcases this with rfl|rfl|rfl|rfl|rfl|rfl|rfl|rfl <;> simp [kd]
 match r,f,o with
 | .error (b,p),f,⟨y,a',o⟩=>
  have hb:=Qf f;have S:(b==0)=false:=by simpa using hb
  rw [o,aR];obtain ⟨m,T⟩:∃m,ax=m+1:=⟨18446744073709551615,rfl⟩;rw [T,bz];simp only [dX,S,bd];rcases E with h|h
  .exact ⟨_,.rErr h hd f,_,_,rfl⟩
  .refine ⟨.error (b,p),.lErr h (d:=d) ?_,_,_,rfl⟩;have:dn s d=d:=by
    have:s=3\/s=4\/s=8\/s=9:=by
     have:s=1\/s=2\/s=3\/s=4\/s=5\/s=7\/s=8\/s=9:=by omega
     rcases this with rfl|rfl|rfl|rfl|rfl|rfl|rfl|rfl <;> simp [kd] at h <;> simp
    rcases this with rfl|rfl|rfl|rfl <;> rfl
   rw [this] at f;exact f
 | .ok (x,ts'),f,⟨a',ha',o⟩=>
  rw [c] at f;obtain ⟨q,w⟩:=f.ends v _ rfl;simp only [shorter,c9] at w q;rw [o,aR];rcases E with h|h
  . -- once
   obtain ⟨t2,H,K⟩:=q.ne;subst K;obtain ⟨J,g,hlt2,u⟩:=yC ha';have B:=htok t2 u;obtain ⟨m,T⟩:∃m,ax=m+1:=⟨18446744073709551615,rfl⟩;rw [T,bz,c];simp only [dX,qT,cw,J,aR,aqX B X (by omega) V,dv];cases C:da s t2 with
   |none=>
    refine ⟨_,.rOne h hd f C,a',ha',?_⟩;simp only [opt,Option.getD_none,qT,cw,YA]
   |some Z=>
    have Q:=VS C;have F:Ends H:=q.tail (uD C);simp only [opt,qg,Q,bd,Gb (show a'<4611686018427387904 by omega),A,YA];simp only [c9] at w;have G:s=1\/s=2\/s=5\/s=7:=by
     have:s=1\/s=2\/s=3\/s=4\/s=5\/s=7\/s=8\/s=9:=by omega
     rcases this with rfl|rfl|rfl|rfl|rfl|rfl|rfl|rfl <;> simp [kd] at h <;> simp
    by_cases U:s=7
    .subst U;obtain ⟨I,e,n⟩:=hk 8 (dn 7 d) (a'+1) (by omega) (by omega) j i (by rw [g];exact F) (by rw [g];omega);rw [g] at e;exact ⟨_,.rTwo h hd f C e,n.two Z t2.2.2.2 x⟩
    .obtain ⟨I,e,n⟩:=hk s (dn s d) (a'+1) (by omega) (by omega) j i (by rw [g];exact F) (by rw [g];omega);rw [g] at e;have M:nx s=s:=by unfold nx;rw [beq_eq_false_iff_ne.2 U];rfl
     refine ⟨_,.rTwo h hd f C (by rw [M];exact e),?_⟩;have hb:((((s:Int)==1)||((s:Int)==2))||((s:Int)==5))=true:=by
      rcases G with rfl|rfl|rfl|rfl
      .rfl
      .rfl
      .rfl
      .exact absurd rfl U
     rw [hb];exact n.two Z t2.2.2.2 x
  . -- from the left
   have G:s=3\/s=4\/s=8\/s=9:=by
    have:s=1\/s=2\/s=3\/s=4\/s=5\/s=7\/s=8\/s=9:=by omega
    rcases this with rfl|rfl|rfl|rfl|rfl|rfl|rfl|rfl <;> simp [kd] at h <;> simp
   have R:dn s d=d:=by rcases G with rfl|rfl|rfl|rfl <;> rfl
   have hq:((((s:Int)==1)||((s:Int)==2))||((s:Int)==5))=false:=by rcases G with rfl|rfl|rfl|rfl <;> rfl
   have L:((s:Int)==7)=false:=by rcases G with rfl|rfl|rfl|rfl <;> rfl
   have O:(l.drop a').length<=l.length:=by simp
   obtain ⟨I,e,n⟩:=al1 hn hl htok hk X (by omega) V h (D:=dn s d) j i hq L l.length a' ax x O (by show l.length<2^64;omega) (by rw [ha'];exact q) (by rw [ha'];omega);rw [ha'] at e;rw [c];rw [R] at f e;exact ⟨I,.lGo h f e,n⟩
end
theorem aow{names:List aD}{l:List Tok}(hn:names.length<4611686018427387904)(hl:l.length<4611686018427387904)(htok:∀t∈l,jO t):
  ∀(N:Nat) (s:Nat) (d:Int) (a:Nat),1<=s->s<=10->0<=d->d<=320->Ends (l.drop a)->12*(l.drop a).length+(11-s)<N->
   SR names l (aw (λk (s:(Int×Int×(List (Int×aD×Int×Int))×Int×(List aD)×Int×Int))=>ei k s.1 s.2.1 s.2.2.1 s.2.2.2.1 s.2.2.2.2.1 s.2.2.2.2.2.1 s.2.2.2.2.2.2) N) s d a:=by
 intro N
 induction N with
 |zero=>intro s d a _ _ _ _ _ h;omega
 |succ N ih=>
  intro s d a g b i f c e;unfold SR;rw [bz];exact amr hn hl htok ih g b i f c e
theorem anL{names:List aD}{l:List Tok}(hn:names.length<4611686018427387904)(hl:l.length<1152921504606846976)(htok:∀t∈l,jO t){a:Nat}(g:Ends (l.drop a)):
  ∃r,P names (line 1) 0 (l.drop a) r/\match r with
   | .ok (x,ts)=>∃e:Nat,l.drop e=ts/\eo l (a:Int) names=some (x,(e:Int),0,0)
   | .error (b,p)=>eo l (a:Int) names=some (.mk 0 0 0 [],0,b,p):=by
 have f:(l.drop a).length<=l.length:=by simp
 obtain ⟨r,d,c⟩:=aow hn (by omega) htok ax 1 0 a (by omega) (by omega) (by omega) (by omega) g (by show _<2^64;omega);refine ⟨r,d,?_⟩;unfold eo iU
 match r,d,c with
 | .ok (x,ts),d,⟨e,ha',c⟩=>
  refine ⟨e,ha',?_⟩;rw [show ((1:Nat):Int)=1 from rfl] at c;rw [c];rfl
 | .error (b,p),d,⟨x,e,c⟩=>
  have hb:=Qf d;rw [show ((1:Nat):Int)=1 from rfl] at c;rw [c,aR];simp only [hb,cw]
end Pa
namespace Sy
open Pa
abbrev bk:=Int×Ex×List (Int×Ex)
abbrev Mdl:=List aD×List (Int×Int)×zg×List aD×List bk
abbrev F6:=Int×Int
end Sy
namespace Sy
open Pa
theorem ajI(s:aD)(h:s.all Lx.isDigit=true):0<=Lx.cj 0 s:=Lx.sI s 0 (qK _) h
theorem aaZ{c:UInt8}{s:aD}{k:Int}{t:aD}{n:Int}(h:Lx.step (c::s)= .tok k t n)(pl:Int):jO (k,t,n,pl)/\alr (k,t,n,pl)/\k≠4:=by
 obtain ⟨hb,i,_,_⟩:=Lx.Vg h;simp only [Lx.step,hb,i,cL,j3] at h;cases a:Lx.eC c
 .simp only [a,cL,j3] at h;cases b:Lx.isDigit c
  .simp only [b,cL,j3] at h;cases d:(Lx.ec (c::s)==[])
   .simp only [d,cL,j3,Lx.Step.tok.injEq] at h;obtain ⟨rfl,rfl,rfl⟩:=h;obtain ⟨j,o,_⟩:=Lx.KS d;obtain ⟨_,q,m,g,_,_,hl,_⟩:=Lx.akH _ j;refine ⟨.inr (.inr (.inl ⟨rfl,λp l f=>?_⟩)),(λh=>by cases h),by decide⟩;simp only at f;rw [g] at f;cases f;exact hl
   .simp [d] at h
  .simp only [b,oi] at h;split at h
   .cases h
   next e=>simp only [Lx.Step.tok.injEq] at h;obtain ⟨rfl,rfl,rfl⟩:=h;refine ⟨.inr (.inl rfl),λ_=>⟨ajI _ (Lx.uG _ _),?_⟩,by decide⟩;simp only [Lx.jy,mZ] at e;simp only;omega
 .simp only [a,oi] at h;split at h
  .cases h
  .simp only [Lx.Step.tok.injEq] at h;obtain ⟨rfl,rfl,rfl⟩:=h;refine ⟨.inl ⟨rfl,c,s.takeWhile Lx.dF,?_,a⟩,(λh=>by cases h),by decide⟩;simp only [s3,Lx.uX a,oi]
structure Good(n:Nat)(l:List Tok):Prop where
 ok:∀t∈l,jO t
 num:∀t∈l,alr t
 ends:Pa.Ends l
 len:l.length<=n
theorem ana{t:Tok}{l:List Tok}(h:Pa.Ends l):Pa.Ends (t::l):= .inl h
theorem alO:∀(f a:Nat) (s:aD) (l:List Tok),s.length<f->Lx.gF f a s= .ok l->Good (s.length+1) l:=by
 intro f
 induction f with
 |zero=>intro a s l h;omega
 |succ f ih=>
  intro a s l q h;cases s with
  |nil=>
   simp only [Lx.gF] at h;cases h;exact ⟨(λt b=>by rw [List.mem_singleton.1 b];exact .inr (.inr (.inr rfl))),(λt b=>by rw [List.mem_singleton.1 b];intro h;cases h),.inr ⟨rfl,rfl⟩,by simp⟩
  |cons c s=>
   simp only [Lx.gF] at h;cases d:Lx.step (c::s) with
   |skip k=>
    rw [d] at h;obtain ⟨m,j⟩:=Lx.step_skip d;have:=ih _ _ _ (by simp only [cO,c9] at *; omega) h;exact ⟨this.ok,this.num,this.ends,by have:=this.len;simp only [cO,c9] at *; omega⟩
   |err e=>rw [d] at h;cases h
   |tok k i n=>
    rw [d] at h;simp only at h;obtain ⟨_,_,m,j⟩:=Lx.Vg d;have r:=j.length_le;obtain ⟨p,o,_⟩:=aaZ d (a:Int);cases g:Lx.gF f (a+i.length) ((c::s).drop i.length) with
    |error e=>rw [g] at h;cases h
    |ok l'=>
     rw [g] at h;cases h;have:=ih _ _ _ (by simp only [cO,c9] at *; omega) g;refine ⟨λt b=>?_,λt b=>?_,ana this.ends,by have:=this.len;simp only [cO,c9] at *; omega⟩
     .rcases List.mem_cons.1 b with rfl|b
      .exact p
      .exact this.ok t b
     .rcases List.mem_cons.1 b with rfl|b
      .exact o
      .exact this.num t b
theorem aqh{s:aD}{l:List Tok}(h:Lx.lex s= .ok l):Good (s.length+1) l:=alO _ _ _ _ (mV _) h
theorem apS:∀(f a:Nat) (s:aD) (e:Int×Int),Lx.gF f a s= .error e->e.1≠0:=by
 intro f
 induction f with
 |zero=>intro a s e h;simp [Lx.gF] at h
 |succ f ih=>
  intro a s e h;cases s with
  |nil=>simp [Lx.gF] at h
  |cons c s=>
   simp only [Lx.gF] at h;cases b:Lx.step (c::s) with
   |skip k=>rw [b] at h;exact ih _ _ _ h
   |err e'=>rw [b] at h;cases h;exact Lx.Ja b
   |tok k g n=>
    rw [b] at h;simp only at h;cases d:Lx.gF f (a+g.length) ((c::s).drop g.length) with
    |error e'=>rw [d] at h;cases h;exact ih _ _ _ d
    |ok l'=>rw [d] at h;cases h
structure auH(n:Nat)(s:Int×Ex):Prop where
 var:0<=s.1/\s.1<n
 may:nz (n:Int) s.2=true
 typ:(rt s.2).2.1=0/\(rt s.2).1=1
 sz:s.2.sz<=65537
structure auG(n:Nat)(c:bk):Prop where
 may:nz (n:Int) c.2.1=true
 typ:(rt c.2.1).2.1=0/\(rt c.2.1).1=2
 sz:c.2.1.sz<=65537
 sets:∀s∈c.2.2,auH n s
 one:1<=c.2.2.length
 len:c.2.2.length<=65537
 once:c.2.2.Pairwise (λa b=>a.1≠b.1)
structure ass(f:Int×Int):Prop where
 le:f.1<=f.2
 lo: -1073741824<=f.1
 hi:f.2<=1073741824
 wide:f.2-f.1<=65535
structure Part(m:Mdl):Prop where
 names:m.1.length<=16
 schema:m.2.1.length=m.1.length
 init:m.2.2.1.length=m.1.length
 fields:∀f∈m.2.1,ass f
 first:∀(i:Nat) (f:Int×Int) (v:Int),m.2.1[i]? =some f->m.2.2.1[i]? =some v->f.1<=v/\v<=f.2
 cmds:m.2.2.2.2.length<=256
 cmd:∀c∈m.2.2.2.2,auG m.1.length c
end Sy
namespace Cf
open Pa Sy
theorem S0(k:Ex×Ex->x6)(a:Ex)(hk:∀x∈a.l,k (x,x)=some true)(hl:a.l.length<4611686018427387904):
  ∀(r pre:List Ex),a.l=pre++r->∀M:Nat,r.length<M->aw (iR k a a) M (pre.length:Int)=some true
 |[],pre,h,M,hM=>by
  obtain ⟨m,rfl⟩:∃m,M=m+1:=⟨M-1,by simp at hM;omega⟩;rw [bz];simp only [iR,aqo h,bd]
 |x::r,pre,h,M,hM=>by
  obtain ⟨m,rfl⟩:∃m,M=m+1:=⟨M-1,by omega⟩;rw [bz];have hx:=hk x (by rw [h];simp);have b:pre.length<4611686018427387904:=by rw [h] at hl;simp at hl;omega
  have ih:=S0 k a hk hl r (pre++[x]) (by rw [h];simp) m (by simp at hM;omega);rw [show ((pre++[x]).length:Int)=((pre.length+1:Nat):Int) by simp] at ih;simp only [iR,ap1 h,cw,Z9 h,aR,hx,p8,bd,nE b];exact ih
theorem ag9:∀(N:Nat) (a:Ex),a.sz<=N->a.sz<4611686018427387904->aw (λk (s:Ex×Ex)=>fi k s.1 s.2) N (a,a)=some true:=by
 intro N
 induction N with
 |zero=>intro e h;have:=eP e;omega
 |succ N ih=>
  intro a h hb;rw [bz];have hl:=aeG a;show fi _ a a=_;generalize aw (λk (s:Ex×Ex)=>fi k s.1 s.2) N=b at ih ⊢;unfold fi;simp only [dv,tx,q5,bd];exact S0 b a (λx hx=>ih x (by have:=Ax hx;omega) (by have:=Ax hx;omega)) (by omega) a.l [] rfl ax (by show _<2^64;omega)
theorem amT(a:Ex)(h:a.sz<4611686018427387904):kM a a=some true:=ag9 ax a (by show a.sz<=2^64;omega) h
def NA:List Tok->Prop
 |[]=>True
 |t::ts=>(t.1=4↔ts=[])/\NA ts
theorem amV:∀(f a:Nat) (s:aD) (l:List Tok),s.length<f->Lx.gF f a s= .ok l->l≠[]/\NA l:=by
 intro f
 induction f with
 |zero=>intro a s l h;omega
 |succ f ih=>
  intro a s l q h;cases s with
  |nil=>
   simp only [Lx.gF] at h;cases h;exact ⟨by simp,by simp [NA]⟩
  |cons c s=>
   simp only [Lx.gF] at h;cases b:Lx.step (c::s) with
   |skip k=>
    rw [b] at h;obtain ⟨o,m⟩:=Lx.step_skip b;exact ih _ _ _ (by simp only [cO,c9] at *; omega) h
   |err e=>rw [b] at h;cases h
   |tok k g n=>
    rw [b] at h;simp only at h;obtain ⟨_,_,o,m⟩:=Lx.Vg b;obtain ⟨_,_,p⟩:=aaZ b (a:Int);cases d:Lx.gF f (a+g.length) ((c::s).drop g.length) with
    |error e=>rw [d] at h;cases h
    |ok l'=>
     rw [d] at h;cases h;obtain ⟨j,i⟩:=ih _ _ _ (by simp only [cO,c9] at *; omega) d;exact ⟨by simp,⟨λh=>absurd h p,λh=>absurd h j⟩,i⟩
theorem NA.drop:∀{l:List Tok} (n:Nat),NA l->NA (l.drop n)
 |[],n,_=>by simp [NA]
 |_::_,0,h=>h
 |_::_,n+1,h=>NA.drop n h.2
theorem adV{text:aD}{names:List aD}(P:text.length<=400)(hn:names.length<=10):
  ∃x:Ex,∃r:Int×Int,x.sz<1125899906842624/\j8 text names=some (x,r)/\gX text names=some (x,r):=by
 have i:(Ex.mk 0 0 0 []).sz<1125899906842624:=by decide
 unfold j8 gX;rw [Lx.alI,Lx.adQ,aR,aR,Lx.akJ (by omega)];cases hl:Lx.lex text with
 |error e=>
  have w:(e.1 != 0)=true:=bne_iff_ne.2 (apS _ _ _ _ hl);simp only [Lx.res,w,cw];exact ⟨_,_,i,rfl,rfl⟩
 |ok l=>
  have f:=aqh hl;have D:=f.len;obtain ⟨_,d⟩:=amV _ _ _ _ (mV _) hl;simp only [Lx.res,tx,bd];obtain ⟨r,g,L⟩:=Pa.apm (names:=names) (l:=l) (a:=0) (by omega) (by omega) f.ends;obtain ⟨O,o,E⟩:=Pa.anL (names:=names) (l:=l) (a:=0) (by omega) (by omega) f.ok f.ends;rw [n3] at g o;obtain rfl:=g.det o;rw [show sO l 0 names=_ from L,aR];cases r with
  |error e=>
   obtain ⟨b,p⟩:=e;rw [show eo l 0 names=_ from E,aR];have hb:(b != 0)=true:=Ja g;simp only [told,hb,cw];exact ⟨_,_,i,rfl,rfl⟩
  |ok p=>
   obtain ⟨x,N⟩:=p;obtain ⟨C,s,F⟩:=E;rw [show eo l 0 names=_ from F,aR];obtain ⟨M,_⟩:=g.ends f.ends _ rfl;have v:=g.size _ rfl;have k:=g.may trivial f.num rfl _ rfl;obtain ⟨t,j,rfl⟩:=M.ne;obtain ⟨c1,R,Q⟩:=drop_cons s;have A:(l.length-(t::j).length:Nat)=C:=by have:=congrArg List.length s;rw [cO] at this;omega
   have c:=d.drop C;rw [s] at c;simp only [Pe] at v;have u:x.sz<1125899906842624:=by omega
   simp only [told,A,c1,aR,show ((0:Int) != 0)=false from rfl,bd];have I:((C:Int) != i64.wrap ((l.length:Int)-1))=(t.1 != 4):=by
    rw [dO (by omega)];have m:=congrArg List.length s;rw [cO,c9] at m;by_cases q:t.1=4
    .have:=c.1.1 q;subst this;simp only [qa] at m;rw [show t.1=4 from q,bne_eq_false_iff_eq.2 (by omega)];rfl
    .have B:j≠[]:=λh=>q (c.1.2 h);have:=List.length_pos_iff.2 B;rw [bne_iff_ne.2 (by omega),bne_iff_ne.2 q]
   rw [I];cases q:(t.1 != 4)
   .simp only [bd,aiR x (by omega),agC x (by omega),<-Yk x.sz x (ch _),aR];cases B:((ty x).2.1 != 0)
    .simp only [bd];cases K:((ty x).1==1)
     .simp only [bd];obtain ⟨n,J⟩:=aup x.sz x (ch _) k (bne_eq_false_iff_eq.1 B) (beq_eq_false_iff_ne.1 K);obtain ⟨y,z,H,G⟩:=amg J (by omega) true;unfold Db ni;rw [H,G];cases decide (24<n)
      .exact ⟨_,_,u,rfl,rfl⟩
      .exact ⟨_,_,i,rfl,rfl⟩
     .simp only [cw];exact ⟨_,_,i,rfl,rfl⟩
    .simp only [cw];exact ⟨_,_,i,rfl,rfl⟩
   .simp only [cw];exact ⟨_,_,i,rfl,rfl⟩
theorem aey(text:aD)(names:List aD):gL text names=some true:=by
 unfold gL;rw [asu,aR];simp only [dv];by_cases h:400<(text.length:Int)\/10<(names.length:Int)
 .rw [show (decide (400<(text.length:Int))||decide (10<(names.length:Int)))=true by simpa using h,cw]
 .rw [show (decide (400<(text.length:Int))||decide (10<(names.length:Int)))=false by simpa using h,bd];obtain ⟨x,r,c,b,a⟩:=adV (text:=text) (names:=names) (by omega) (by omega);rw [b,a,aR,aR,amT x (by omega)];simp only [oH,aR,qT,Bool.and_self]
end Cf
variable {w : World}
open Go.Lib Go.ChangeAt Go.ChangeShapes Go.WideShapes Go.RowKit
theorem aav{P:Program}{w:World}:∀(l:List (String×DataW Unit)) (ps:List MemPlace),DataW.LaidVars P w l ps->∀(i:Nat) (n:String) (d:DataW Unit),l[i]? =some (n,d)->
  ∃g t cs a p,P.globalNamed n=some g/\(P.globals[g]?).map (·.type)=some t/\w.var? P n=some cs/\DataW.trod (λ_=>()) P w 0 (λ_=>true) false a t cs.toList=some (d,p)
 |[],_,_,i,n,d,h=>by simp at h
 |(n0,d0)::l,ps,h,i,n,d,hi=>by
  obtain ⟨g,t,cs,a,p,q,j,f,e,c,b,_⟩:=h;cases i with
  |zero=>
   simp only [gx,cC,qc] at hi;obtain ⟨rfl,rfl⟩:=hi;exact ⟨g,t,cs,a,p,j,f,e,c⟩
  |succ i=>exact aav l q b i n d (by simpa using hi)
theorem ab5{H:Type}{o:TypeId×Value->H}{P:Program}{f:Nat}{r:Nat->Bool}{d:Bool}{a:Nat}{t e:TypeId}{n:Nat}{cs:yp}{zs:List aD}{p:List MemPlace}
  (v:P.underlying t=some (.array n e)) (y:P.underlying e=some .string) (l:P.cellsOf e=1) (k:P.cellsOf t=n)
  (h:DataW.trod o P w f r d a t cs=some (.agg (zs.map λz=> .lit (.string z)),p)):cs=zs.map S:=by
 cases a with
 |zero=>simp [DataW.trod] at h
 |succ a=>
  simp only [DataW.trod,v,l,k,uK] at h;split at h
  .rename_i hl;obtain ⟨xs,q,hx⟩:=Option.map_eq_some_iff.1 h;have c:xs.map (·.1)=zs.map λz=>(DataW.lit (.string z):DataW H):=by have:=congrArg Prod.fst hx;simpa using this
   have u:xs.length=n:=by simpa using mapM_length q
   have s:zs.length=n:=by have:=congrArg List.length c;simp at this;omega
   apply qF;intro i;by_cases hi:i<n
   .obtain ⟨b,hb,x⟩:=mapM_at q i i (by simp [hi]);obtain ⟨z,A,rfl,_⟩:=DataW.trod_string y x;have B:cs[i]? =some (.string z):=by have:=congrArg (·[0]?) A;simpa [ko,j5] using this
    have m:(xs.map (·.1))[i]? =some (DataW.lit (.string z.data.toList):DataW H):=by simp [hb]
    rw [c] at m;simp only [p5,Option.map_eq_some_iff,DataW.lit.injEq,Lit.string.injEq] at m;obtain ⟨C,j,g⟩:=m;subst g;simp [B,j,S]
   .rw [j6 (by omega),j6 (by simp;omega)]
  .cases h
theorem akW{P:Program}{a:List (String×DataW Unit)}(b:(a.filter λx=>x.2.handleName?.isSome)=[])(h:laidMetH P a w):laidMet P a w:=by unfold laidMetH at h;rw [b] at h;exact h
theorem aie{P:Program}{a:List (String×DataW Unit)}{Γ:Ctx}(h:laidMet P a w)(i:Nat){n:String}{zs:List aD}{g:Nat}{t e:TypeId}{k:Nat}
  (hi:a[i]? =some (n,.agg (zs.map λz=> .lit (.string z)))) (o:P.globalNamed n=some g) (d:(P.globals[g]?).map (·.type)=some t)
  (r:P.underlying t=some (.array k e)) (s:P.underlying e=some .string) (m:P.cellsOf e=1) (l:P.cellsOf t=k) (u:¬ Γ.M g):(gl g (zs.map S)).P Γ.M w:=by
 obtain ⟨ps,hl,_⟩:=h;obtain ⟨g',t',cs,q,p,j,f,b,hd⟩:=aav _ _ hl i n _ hi;obtain rfl:=qe (o.symm.trans j);obtain rfl:=qe (d.symm.trans f);have v:=ab5 r s m l hd;refine ⟨u,?_⟩;unfold World.var? at b;rw [o] at b;simp only [q7] at b;split at b
 next c ty fr hb=>obtain rfl:=qe b;exact ⟨ty,fr,by rw [hb,<-v]⟩
 .cases b
theorem asE{P:Program}{a:List (String×DataW Unit)}{Γ:Ctx}(h:laidMet P a w)(i:Nat){n:String}{kd:IntKind}{zs:zg}{g:Nat}{t e:TypeId}{k:Nat}
  (hi:a[i]? =some (n,tabData kd zs)) (o:P.globalNamed n=some g) (d:(P.globals[g]?).map (·.type)=some t)
  (r:P.underlying t=some (.array k e)) (s:P.underlying e=some (.int kd)) (m:P.cellsOf e=1) (l:P.cellsOf t=k) (u:¬ Γ.M g):(gl g (zs.map (Value.int kd))).P Γ.M w:=by
 obtain ⟨ps,hl,_⟩:=h;obtain ⟨g',t',cs,q,p,j,f,b,hd⟩:=aav _ _ hl i n _ hi;obtain rfl:=qe (o.symm.trans j);obtain rfl:=qe (d.symm.trans f);have v:=cells_of_tab r s m l hd;refine ⟨u,?_⟩;unfold World.var? at b;rw [o] at b;simp only [q7] at b;split at b
 next c ty fr hb=>obtain rfl:=qe b;exact ⟨ty,fr,by rw [hb,<-v]⟩
 .cases b
def Sl(Γ:Ctx):Prop:= ∀b,¬ Γ.M b
theorem aiD:Sl []:=λb h=>by obtain ⟨it,h,_⟩:=h;cases h
theorem KG{it:Item}{Γ:Ctx}(hp:it.own=[])(h:Sl Γ):Sl (it::Γ):=λb hb=>by
 rcases Ctx.DZ.1 hb with a|a
 .rw [hp] at a;cases a
 .exact h b a
theorem am2(w:World):Sat [kept w (λ_=>False)] w:=Sat.nil.add rfl ⟨gY.refl w,ch _,λb _ _=>⟨aiD b,rfl⟩⟩
theorem ane(w:World):Sl [kept w (λ_=>False)]:=KG rfl aiD
theorem ao4{Γ:Ctx}(h:Sl Γ):Mv (λ_=>False) w Γ.M w:=⟨ch _,λb _ _=>⟨h b,rfl⟩⟩
theorem amX{w':World}{Γ:Ctx}{i:Nat}(h:Sat Γ w')(hi:Γ[i]? =some (kept w (λ_=>False))):Below w.heap.size w w':=by obtain ⟨a,c,b⟩:=h.kept hi;exact ⟨a.os,a.tape,a.output,c,λk hk=>(b k hk (λh=>h)).2⟩
end
end Go.Proofs.YthhmkmmmbcjghaaGreatDoor
