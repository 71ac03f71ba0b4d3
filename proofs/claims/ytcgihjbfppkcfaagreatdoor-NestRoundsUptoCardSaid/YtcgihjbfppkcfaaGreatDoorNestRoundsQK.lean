/- Own texts for NestRoundsQ, cut and joined by a program. -/
import Derived.Test.YtcgihjbfppkcfaaGreatDoorNestRoundsQJ
import Derived.Lib.LaidTab
import Derived.Below
import Derived.ProofKit
import Derived.Test.YtcgihjbfppkcfaaGreatDoorRows
import Derived.Carry
import Derived.ChangeSlices
import Derived.OpenShut
set_option linter.all false
namespace Go.Proofs.YtcgihjbfppkcfaaGreatDoor
open IntKind (u64)
noncomputable section
variable {k : Nat} {q : Int} {v : zj}
namespace Pd
open Sp
theorem aef{l:zj}{u:Nat}(a:u<18446744073709551616)(hl:l.length<100000000000):SK l (u:Int) 10=some (l++aQ (Lib.decDigits u)):=by
 unfold SK;rw [show ((10:Int)==10)=true from rfl,cx (by omega),cx (by omega),iQ,iQ,iQ,
  Sy.aP (Sy.dv (by omega) (by omega)),gr]
theorem arJ{x:Int}(b:0<=x)(a:x<18446744073709551616):u64.wrap x=x:=by rw [IntKind.wrap_u64];omega
theorem apm{l:zj}{i:Int}(c: -9223372036854775808<=i)(b:i<=9223372036854775807)(hl:l.length<10000000000):mz l i 10=some (l++aQ (Lib.itoa i)):=by
 unfold mz jS;simp only [aM];by_cases hi:i<0
 .rw [cx hi,ca,Sy.aP (Sy.dv (by simp;omega) (by simp;omega))];obtain ⟨u,rfl⟩:∃u:Nat,i= -(u):=⟨i.natAbs,by omega⟩;have a:u64.wrap (0-u64.wrap (-(u)))=(u):=by grind [IntKind.wrap_u64]
  unfold iI;rw [a,aef (by omega) (by simp;omega),ah,ah,show Lib.itoa (-(u))=45::Lib.decDigits u from by simp_all [Lib.itoa]];simp [aQ]
 .rw [cy hi,b7];obtain ⟨u,rfl⟩:∃u:Nat,i=(u):=⟨i.toNat,by omega⟩;unfold iI;rw [arJ (by omega) (by omega),aef (by omega) (by omega),ah,ah,show Lib.itoa (u)=Lib.decDigits u from by simp_all [Lib.itoa]]
def keyOf(v:zj):aE:=v.flatMap λn=>32::Lib.itoa n
theorem ZT(v:zj):keyOf v++[32]=32::fu v:=by
 induction v with
 |nil=>rfl
 |cons x r ih=>
  grind [keyOf,fu,List.append_assoc]
theorem key_inj{a b:zj}(h:keyOf a=keyOf b):a=b:=by grind [keyOf,ZT,QJ,List.cons.inj]
theorem apJ(a b:zj):keyOf (a++b)=keyOf a++keyOf b:=by simp [keyOf]
theorem aoj(h:vE v):(keyOf v).length<=21*v.length:=by have a:=congrArg List.length (ZT v);grind [YP]
def uR(l:wy)(at_:Option (List (aE×Bool))):Prop:=(at_=none->l=[])/\∀v,ey at_ (keyOf v) false=l.contains v
theorem Wn:uR [] none:=⟨λ_=>rfl,λa=>rfl⟩
theorem ao0{x:zj}{l:wy}{a:List (aE×Bool)}(f:l.length<1000000000)(d:uR l (some a)):
  ∃at',(bif (!(ey (some a) (strOf (aQ (keyOf x))) false)) then ((some a).bind λb=>aN (aH (List.length l+List.length ([x]:wy)) 24)<|some ((l++([x]:wy)),(some (l6 b (strOf (aQ (keyOf x))) true)))) else some (l,some a))=some (ik l x,at')/\uR (ik l x) at':=by
 have k1:aH (List.length l+List.length ([x])) 24=true:=Sy.dv (by simp;omega) (by simp;omega);rw [Lf,d.2 x];unfold ik;cases g:l.contains x
 .simp only [Sy.aP k1,eF];refine ⟨_,rfl,(λh=>by cases h),λu=>?_⟩;have c:=d.2 u;unfold ey at c ⊢;simp at c ⊢;rw [Gs,c];have e:(keyOf u==keyOf x)=(u==x):=by grind [beq_eq_false_iff_ne,key_inj]
  grind
 grind
theorem QQ{x:zj}(hx:vE x)(hl:x.length<100000000){l:wy}{c:List (aE×Bool)}(b:l.length<1000000000)(d:uR l (some c)):
  ∀(r pre:zj),x=pre++r->∀M,r.length<M->∃a,aj (sX x l (some c)) M (aQ (keyOf pre),(pre.length:Int))=some (ik l x,a)/\uR (ik l x) a
 |[],pre,h,M,hM=>by
  obtain ⟨m,rfl⟩:∃m,M=m+1:=⟨M-1,by omega⟩;rw [ao];simp only [sX,Sy.uB h];have e:pre=x:=by rw [h];simp
  rw [e];exact ao0 b d
 |n::r,pre,h,M,hM=>by
  obtain ⟨m,rfl⟩:∃m,M=m+1:=⟨M-1,by omega⟩;rw [ao];have hn:=hx n (by rw [h];simp);have hp:vE pre:=λn hn=>hx n (by grind);have hk:=aoj hp;obtain ⟨a,g,f⟩:=QQ hx hl b d r (pre++[n]) (by rw [h];simp) m (by simp at hM;omega);have i:aQ (keyOf (pre++[n]))=(aQ (keyOf pre)++[32])++aQ (Lib.itoa n):=by rw [apJ,PJ];simp [keyOf,qU,List.flatMap_nil,j5,cb];rfl
  simp [sX,Sy.lR h];grind [Sy.aP,Sy.dv,G5,apm,List.length_append,ah,Pa.bR]
structure Row(x:zj):Prop where
 i64:vE x
 short:x.length<100000000
theorem add_eq{x:zj}(hx:Row x){l:wy}{at_:Option (List (aE×Bool))}(a:l.length<1000000000)(b:uR l at_):
  ∃at',tE x l at_=some (ik l x,at')/\uR (ik l x) at':=by
 cases at_ with
 |none=>
  exact QQ hx.i64 hx.short a ⟨(λh=>by cases h),λu=>b.2 u⟩ x [] rfl au (by have:=hx.short;show _<2^64;omega)
 |some c=>
  exact QQ hx.i64 hx.short a b x [] rfl au (by have:=hx.short;show _<2^64;omega)
abbrev Au:=List (List Ex)×wy×zj×wy
structure va(a:Au)(k:Nat):Prop where
 lits:a.1.length=k
 next:a.2.1.length=k
 dT:k<=5000
 row:∀l∈a.1,l.length<=5000/\∀e∈l,e.sz<1000000
 init:a.2.2.1.length<=5000/\∀q∈a.2.2.1,0<=q/\q<k
 nxt:∀l∈a.2.1,l.length<=5000/\∀q∈l,0<=q/\q<k
def YL(a:Au)(q:Int):List Ex:=(a.1[q.toNat]?).getD []
def vR(a:Au)(q:Int):zj:=(a.2.1[q.toNat]?).getD []
def ox(a:Au)(q:Int)(v:zj):Bool:=(YL a q).all λe=>ev v e==1
theorem WU(s:List Ex)(v:zj)(d:s.length<=5000)(b:∀e∈s,e.sz<1000000):∀(r pre:List Ex),s=pre++r->∀M,r.length<M->
  ∃i:Int,aj (dH s v) M (pre.length:Int)=some i/\decide (0<=i)= !(r.all λe=>ev v e==1)
 |[],pre,h,M,hM=>by
  obtain ⟨m,rfl⟩:∃m,M=m+1:=⟨M-1,by omega⟩;rw [ao];simp only [dH,Sy.uB h];exact ⟨_,rfl,rfl⟩
 |e::r,pre,h,M,hM=>by
  obtain ⟨m,rfl⟩:∃m,M=m+1:=⟨M-1,by omega⟩;rw [ao];have a:pre.length+r.length+1=s.length:=by rw [h];simp;omega
  have c:=b e (by rw [h];simp);obtain ⟨i,g,f⟩:=WU s v d b r (pre++[e]) (by rw [h];simp) m (by simp at hM;omega);simp [dH,Sy.lR h,ah,Bh,Vi e (by omega) v,Pa.bR (show pre.length<4611686018427387904 by omega)];grind
theorem U0{α:Type}{l:List α}(hl:l.length=k)(h:0<=q/\q<k):∃x,idx l q=some x/\l[q.toNat]? =some x/\x∈l:=by simp_all [idx]
theorem ade{a:Au}(ha:va a k){q:Int}(b:0<=q/\q<k)(v:zj):DT a q v=some (ox a q v):=by obtain ⟨s,j,h,e⟩:=U0 ha.lits b;obtain ⟨d,c⟩:=ha.row s e;obtain ⟨i,g,f⟩:=WU s v d c s [] rfl au (by show _<2^64;omega);unfold DT fW gW ox YL;grind
def dR(a:Au)(v:zj)(qs:zj):wy:=(qs.filter λq=>ox a q v).map λq=>v++[q]
theorem FY{a:Au}{qs:zj}:(dR a v qs).length<=qs.length:=by grind [dR,List.length_map,List.length_filter_le]
theorem RF{a:Au}{v qs:zj}{q:Int}:dR a v (q::qs)=if ox a q v then (v++[q])::dR a v qs else dR a v qs:=by grind [dR]
theorem ajX(a:vE v)(hl:v.length<1000000)(hk:k<=5000)(b:0<=q/\q<k):Row (v++[q]):=
 ⟨λn hn=>by
  rcases List.mem_append.1 hn with h|h
  .exact a n h
  grind,by simp;omega⟩
theorem J8{l a b:wy}:dh l (a++b)=dh (dh l a) b:=by simp [dh]
theorem aes{a:Au}(ha:va a k){v:zj}(g:vE v)(hl:v.length<1000000){q:Int}(i:0<=q/\q<k){l:wy}{at_:Option (List (aE×Bool))}(j:l.length<100000000)(h:uR l at_){R:Type}(d go:wy->Option (List (aE×Bool))->Option R):
  ∃c,(bif ox a q v then ((bu v).bind λe=>aN (aH (List.length e+List.length ([q]:zj)) 8)<|(tE (e++([q]:zj)) l at_).bind λb=>ai (!true) λf=>bif f then d b.1 b.2 else go b.1 b.2) else go l at_)=
   go (if ox a q v then ik l (v++[q]) else l) c/\uR (if ox a q v then ik l (v++[q]) else l) c:=by
 cases o:ox a q v
 .grind
 .obtain ⟨c,n,m⟩:=add_eq (ajX g hl ha.dT i) (by omega) h;refine ⟨c,?_,m⟩;rw [ca,QT v (by omega),ah,Sy.aP (Sy.dv (by simp;omega) (by simp;omega)),n,ah];rfl
theorem Wk{a:Au}{k:Nat}(ha:va a k){v:zj}(e:vE v)(hl:v.length<1000000)(qs:zj)(c:qs.length<=5000)(f:∀q∈qs,0<=q/\q<k):∀(r pre:zj),qs=pre++r->∀(l:wy) (at_:Option (List (aE×Bool))) (M:Nat),uR l at_->l.length<=pre.length->r.length<M->
  aj (ud (qs,a.1,a.2.1,a.2.2.1,a.2.2.2,v)) M ((pre.length:Int),l,at_)=some (dh l (dR a v r))
 |[],pre,h,l,at_,M,hs,hll,hM=>by
  obtain ⟨m,rfl⟩:∃m,M=m+1:=⟨M-1,by omega⟩;rw [ao];simp only [ud,Sy.uB h];rfl
 |q::r,pre,h,l,at_,M,hs,hll,hM=>by
  obtain ⟨m,rfl⟩:∃m,M=m+1:=⟨M-1,by omega⟩;rw [ao];have g:pre.length+r.length+1=qs.length:=by rw [h];simp;omega
  have b:=f q (by rw [h];simp);simp only [ud,Sy.uz h,Sy.lR h,ah];rw [show (a.1,a.2.1,a.2.2.1,a.2.2.2)=a from rfl,ade ha b,ah,Pa.bR (by omega)];obtain ⟨d,n,j⟩:=aes ha e hl b (by omega) hs (λl _=>some l) (λl o=>aj (ud (qs,a.1,a.2.1,a.2.2.1,a.2.2.2,v)) m (((pre.length+1:Nat)),l,o));rw [n,RF];have i:(if ox a q v then ik l (v++[q]) else l).length<=pre.length+1:=by grind [EY]
  have ih:=Wk ha e hl qs c f r (pre++[q]) (by rw [h];simp) _ d m j (by simp;omega) (by simp at hM;omega);rw [show ((pre++[q]).length)=((pre.length+1:Nat)) by simp] at ih;rw [ih];cases ox a q v <;> rfl
theorem aob{m:Sy.bw}(hm:SafeS m.2.1 m.2.2.2.2)(hi:s8 m.2.1 m.2.2.1){a:Au}{k:Nat}(ha:va a k):Bw m a=some (dh [] (dR a m.2.2.1 a.2.2.1)):=by unfold Bw BQ;rw [ah];have b:=hi.len;have c:=hm.dT;exact Wk ha (hi.i64 hm) (by omega) a.2.2.1 ha.init.1 ha.init.2 a.2.2.1 [] rfl [] none au Wn (cH _) (by have:=ha.init.1;show _<2^64;omega)
theorem ael{a:Au}{k:Nat}(ha:va a k){v:zj}(g:vE v)(hl:v.length<1000000)(t:Int)(b:wy×(Option (List (aE×Bool)))×Int->Option (wy×Int))(qs:zj)(e:qs.length<=5000)(i:∀q∈qs,0<=q/\q<k):
  ∀(r pre:zj),qs=pre++r->∀(l:wy) (at_:Option (List (aE×Bool))) (M:Nat),uR l at_->l.length<=10000000+pre.length->r.length<M->
  ∃c,aj (uh t b (qs,a.1,a.2.1,a.2.2.1,a.2.2.2,v)) M ((pre.length:Int),l,at_)=b (dh l (dR a v r),c,IntKind.i64.wrap (t+1))/\uR (dh l (dR a v r)) c
 |[],pre,h,l,at_,M,hs,hll,hM=>by
  obtain ⟨m,rfl⟩:∃m,M=m+1:=⟨M-1,by omega⟩;rw [ao];simp only [uh,Sy.uB h];exact ⟨at_,rfl,hs⟩
 |q::r,pre,h,l,at_,M,hs,hll,hM=>by
  obtain ⟨m,rfl⟩:∃m,M=m+1:=⟨M-1,by omega⟩;rw [ao];have j:pre.length+r.length+1=qs.length:=by rw [h];simp;omega
  have d:=i q (by rw [h];simp);simp only [uh,Sy.uz h,Sy.lR h,ah];rw [show (a.1,a.2.1,a.2.2.1,a.2.2.2)=a from rfl,ade ha d,ah,Pa.bR (by omega)];obtain ⟨c,s,p⟩:=aes ha g hl d (by omega) hs (λl f=>b (l,f,IntKind.i64.wrap (t+1))) (λl f=>aj (uh t b (qs,a.1,a.2.1,a.2.2.1,a.2.2.2,v)) m (((pre.length+1:Nat)),l,f));rw [s,RF];have n:(if ox a q v then ik l (v++[q]) else l).length<=10000000+(pre.length+1):=by grind [EY]
  have ih:=ael ha g hl t b qs e i r (pre++[q]) (by rw [h];simp) _ c m p (by simp;omega) (by simp at hM;omega);rw [show ((pre++[q]).length)=((pre.length+1:Nat)) by simp] at ih;cases o:ox a q v <;> rw [o] at ih <;> exact ih
def vX(a:Au)(qs:zj)(ws:wy):wy:=ws.flatMap λw=>dR a w qs
theorem Nu{a:Au}{qs:zj}(h:qs.length<=5000):∀ws:wy,(vX a qs ws).length<=5000*ws.length
 |[]=>by simp [vX]
 |w::ws=>by have:=Nu (a:=a) h ws;grind [FY,vX,List.length_append,List.length_cons]
theorem BO{a:Au}{k:Nat}(ha:va a k){r11:zj×Int}{b:wy×Int}(i:0<=r11.2/\r11.2<k)(g:∀w∈b.1,vE w/\w.length<1000000)(hn:b.1.length<=1000):
  ∀(r pre:wy),b.1=pre++r->∀(l:wy) (at_:Option (List (aE×Bool))) (M:Nat),uR l at_->l.length<=5000*pre.length->r.length<M->
   aj (ue a r11 b) M (l,at_,(pre.length:Int))=some (dh l (vX a (vR a r11.2) r),0)
 |[],pre,h,l,at_,M,hs,hll,hM=>by
  obtain ⟨m,rfl⟩:∃m,M=m+1:=⟨M-1,by omega⟩;rw [ao];simp only [ue,Sy.uB h];rfl
 |w::r,pre,h,l,at_,M,hs,hll,hM=>by
  obtain ⟨m,rfl⟩:∃m,M=m+1:=⟨M-1,by omega⟩;rw [ao];have j:pre.length+r.length+1=b.1.length:=by rw [h];simp;omega
  obtain ⟨qs,t,u,s⟩:=U0 ha.next i;have c:=ha.nxt qs s;have p:vR a r11.2=qs:=by grind [vR]
  obtain ⟨e,d⟩:=g w (by rw [h];simp);simp [ue,Sy.lR h,ah,t,BQ];obtain ⟨f,n,q⟩:=ael ha e d (pre.length) (aj (ue a r11 b) m) qs c.1 c.2 qs [] rfl l at_ au hs (by omega) (by show _<2^64;omega);rw [show ((([]:zj).length):Int)=0 from rfl] at n;rw [n,Pa.bR (by omega)];have hd:=rO (dR a w qs) l;have o:=FY (a:=a) (v:=w) (qs:=qs);have ih:=BO ha i g hn r (pre++[w]) (by rw [h];simp) _ f m q (by simp;omega) (by simp at hM;omega);grind [vX,J8]
def JD(m:Sy.bw)(a:Au)(v:zj)(q:Int):wy×Int:=
 if (fL m.2.1 m.2.2.2.2 v).2=0 then (dh [] (vX a (vR a q) (fL m.2.1 m.2.2.2.2 v).1),0) else ([],(fL m.2.1 m.2.2.2.2 v).2)
theorem adf{n:Nat}:ku 0 (n:Int) (n:Int) (n+1)=true:=by grind [ku]
theorem Zb(b:v.length<1000000):yl (v++[q])=some (v,q):=by
 unfold yl;have a:IntKind.i64.wrap ((List.length (v++[q]))-1)=(v.length):=by grind [bG]
 rw [a,show (v++[q]).length=v.length+1 by simp,Sy.aP (by rw [adf];simp)];have c:idx (v++[q]) (v.length)=some q:=by unfold idx;grind
 simp_all [aV]
theorem al5{m:Sy.bw}(hm:SafeS m.2.1 m.2.2.2.2){v:zj}(b:s8 m.2.1 v){a:Au}{k:Nat}(ha:va a k){q:Int}(f:0<=q/\q<k):wP m a (v++[q])=some (JD m a v q):=by
 have g:=b.len;have h:=hm.dT;have d:=Nb (S:=m.2.1) (cmds:=m.2.2.2.2) v;have i:=hm.cmds;unfold wP JD;rw [Zb (by omega),ah,an8 hm b,ah];by_cases c:(fL m.2.1 m.2.2.2.2 v).2=0
 .rw [du c,show ((fL m.2.1 m.2.2.2.2 v).2 != 0)=false by simpa using c,b7];have:=BO ha (r11:=(v,q)) f (λw e=>by have hi:=Rm b w e;have:=hi.len;exact ⟨hi.i64 hm,by omega⟩) (by omega) (fL m.2.1 m.2.2.2.2 v).1 [] rfl [] none au Wn (n6 _) (by show _<2^64;omega)
  exact this
 grind
def St(m:Sy.bw)(k:Nat)(x:zj):Prop:= ∃v q,x=v++[q]/\s8 m.2.1 v/\0<=q/\q<(k:Int)
def cC(m:Sy.bw)(a:Au)(x:zj):wy×Int:=JD m a x.dropLast (x.getLastD 0)
theorem Jt(m:Sy.bw)(a:Au)(v:zj)(q:Int):cC m a (v++[q])=JD m a v q:=by unfold cC;grind
theorem amG{m:Sy.bw}(hm:SafeS m.2.1 m.2.2.2.2){a:Au}{k:Nat}(ha:va a k){x:zj}(hx:St m k x):wP m a x=some (cC m a x):=by obtain ⟨v,q,rfl,b,d,c⟩:=hx;grind [Jt,al5]
theorem GG{a:Au}{qs y:zj}(h:y∈dR a v qs):∃q,q∈qs/\ox a q v=true/\y=v++[q]:=by unfold dR at h;grind
theorem Ww{a:Au}{k:Nat}(ha:va a k){q:Int}(b:0<=q/\q<k):(vR a q).length<=5000/\∀p∈vR a q,0<=p/\p<(k:Int):=by obtain ⟨qs,e,d,c⟩:=U0 ha.next b;unfold vR;rw [d];exact ha.nxt qs c
theorem abr{m:Sy.bw}{a:Au}(ha:va a k){x:zj}(hx:St m k x):∀y∈(cC m a x).1,St m k y:=by
 obtain ⟨v,q,rfl,e,g,f⟩:=hx;rw [Jt];intro y b;unfold JD at b;split at b
 .rcases nb.1 b with h|h
  .cases h
  .obtain ⟨w,d,c⟩:=List.mem_flatMap.1 h;obtain ⟨p,hp,_,rfl⟩:=GG c;have:=(Ww ha ⟨g,f⟩).2 p hp;exact ⟨w,p,rfl,Rm e w d,this.1,this.2⟩
 .cases b
theorem Xn{m:Sy.bw}(hm:SafeS m.2.1 m.2.2.2.2){a:Au}{k:Nat}(ha:va a k){x:zj}(hx:St m k x):(cC m a x).1.length<=2000000:=by
 obtain ⟨v,q,rfl,d,c,b⟩:=hx;rw [Jt];unfold JD;split
 .have h:=rO (vX a (vR a q) (fL m.2.1 m.2.2.2.2 v).1) [];have g:=Nu (a:=a) (Ww ha ⟨c,b⟩).1 (fL m.2.1 m.2.2.2.2 v).1;have f:=Nb (S:=m.2.1) (cmds:=m.2.2.2.2) v;have e:=hm.cmds;grind
 .simp
end Pd
namespace Ns
abbrev V:=zj
abbrev lK:=List (V×List V)
abbrev bw:=Sy.bw
abbrev Au:=Pd.Au
abbrev St:=So.St
abbrev FT:=Int×w5×Int×Int×wy×zj×zj×(List (Int×wy×zj))×Int×wy×zj×zj×(List (Int×wy×zj))×zj×Int×(List (w5×Int))×Int×Int×zj×Int×(List (w5×Int))×Int×Int×zj×Int×(List (w5×Int))×Int×Int×zj×Int×Int×Int×zj×zj×zj
abbrev fl(t:St):FT:=(t.1,t.2.1,t.2.2.1,t.2.2.2.1.1.1,t.2.2.2.1.1.2.1,t.2.2.2.1.1.2.2,t.2.2.2.1.2,t.2.2.2.2.1.1,t.2.2.2.2.1.2.1.1,t.2.2.2.2.1.2.1.2.1,t.2.2.2.2.1.2.1.2.2,t.2.2.2.2.1.2.2,t.2.2.2.2.2.1.1,t.2.2.2.2.2.1.2,t.2.2.2.2.2.2.1.1.1,t.2.2.2.2.2.2.1.1.2.1,t.2.2.2.2.2.2.1.1.2.2.1,t.2.2.2.2.2.2.1.1.2.2.2.1,t.2.2.2.2.2.2.1.1.2.2.2.2,t.2.2.2.2.2.2.1.2.1.1,t.2.2.2.2.2.2.1.2.1.2.1,t.2.2.2.2.2.2.1.2.1.2.2.1,t.2.2.2.2.2.2.1.2.1.2.2.2.1,t.2.2.2.2.2.2.1.2.1.2.2.2.2,t.2.2.2.2.2.2.1.2.2.1,t.2.2.2.2.2.2.1.2.2.2.1,t.2.2.2.2.2.2.1.2.2.2.2.1,t.2.2.2.2.2.2.1.2.2.2.2.2.1,t.2.2.2.2.2.2.1.2.2.2.2.2.2,t.2.2.2.2.2.2.2.1,t.2.2.2.2.2.2.2.2.1,t.2.2.2.2.2.2.2.2.2.1,t.2.2.2.2.2.2.2.2.2.2.1,t.2.2.2.2.2.2.2.2.2.2.2.1,t.2.2.2.2.2.2.2.2.2.2.2.2)
abbrev Er:=(Int×V) ⊕ (List V×List V)
section
variable {β : Type} (x : V) (s : lK) (m : bw) (a : Au) (t : St) (k : Int)
abbrev Jb(f:Int->w5->Int->Int->wy->zj->zj->List (Int×wy×zj)->Int->wy->zj->zj->List (Int×wy×zj)->zj->Int->List (w5×Int)->Int->Int->zj->Int->List (w5×Int)->Int->Int->zj->Int->List (w5×Int)->Int->Int->zj->Int->Int->Int->zj->zj->zj->β):β:=f t.1 t.2.1 t.2.2.1 t.2.2.2.1.1.1 t.2.2.2.1.1.2.1 t.2.2.2.1.1.2.2 t.2.2.2.1.2 t.2.2.2.2.1.1 t.2.2.2.2.1.2.1.1 t.2.2.2.2.1.2.1.2.1 t.2.2.2.2.1.2.1.2.2 t.2.2.2.2.1.2.2 t.2.2.2.2.2.1.1 t.2.2.2.2.2.1.2 t.2.2.2.2.2.2.1.1.1 t.2.2.2.2.2.2.1.1.2.1 t.2.2.2.2.2.2.1.1.2.2.1 t.2.2.2.2.2.2.1.1.2.2.2.1 t.2.2.2.2.2.2.1.1.2.2.2.2 t.2.2.2.2.2.2.1.2.1.1 t.2.2.2.2.2.2.1.2.1.2.1 t.2.2.2.2.2.2.1.2.1.2.2.1 t.2.2.2.2.2.2.1.2.1.2.2.2.1 t.2.2.2.2.2.2.1.2.1.2.2.2.2 t.2.2.2.2.2.2.1.2.2.1 t.2.2.2.2.2.2.1.2.2.2.1 t.2.2.2.2.2.2.1.2.2.2.2.1 t.2.2.2.2.2.2.1.2.2.2.2.2.1 t.2.2.2.2.2.2.1.2.2.2.2.2.2 t.2.2.2.2.2.2.2.1 t.2.2.2.2.2.2.2.2.1 t.2.2.2.2.2.2.2.2.2.1 t.2.2.2.2.2.2.2.2.2.2.1 t.2.2.2.2.2.2.2.2.2.2.2.1 t.2.2.2.2.2.2.2.2.2.2.2.2
abbrev sV(f:List aE->w5->zj->List aE->List (Int×Ex×List (Int×Ex))->List (List Ex)->wy->zj->wy->β):β:=f m.1 m.2.1 m.2.2.1 m.2.2.2.1 m.2.2.2.2 a.1 a.2.1 a.2.2.1 a.2.2.2
end
noncomputable section
variable (x : V) (s : lK) (m : bw) (a : Au) (t : St) (k : Int)
abbrev IS:=Jb t (sV m a (jL x)) k
abbrev UX:=Jb t (sV m a (pC x)) k
abbrev wU:=Jb t (sV m a (fH s x)) k
abbrev NM:=Jb t (sV m a (nG x)) k
abbrev Kw:=Jb t (sV m a (lX s)) k
abbrev ai6:=Jb t (sV m a (wx x)) k
abbrev UF:=Jb t (sV m a pJ) k
abbrev ra:=sV m a kx k
abbrev BR:=sV m a nE k
abbrev KH:=sV m a lZ k
end
def F4(t:St)(x:V):Option (Except (Int×V) (Bool×St)):=(dC t x).bind λr=>bif (r.2.2 != 0) then some (.error (r.2.2,[])) else some (.ok (r.2.1,r.1))
def Ln(t:St)(x:V):Option (Except (Int×V) (Bool×St)):=CR (F4 t x) λr=>(dM r.2 x 1).bind λg=>bif g.1 then some (.ok (false,r.2)) else (gz r.2 x 1).bind λs=>some (.ok (true,s.1))
abbrev PR{E A B:Type}(f:A->B)(x:Option (Except E A)):Option (Except E B):=x.map λr=>match r with
 | .error e=> .error e
 | .ok v=> .ok (f v)
theorem Qy(x:V)(m:bw)(a:Au)(t:St)(most:Int):IS x m a t most=PR (λr:Bool×St=>(r.1,r.2.1,r.2.2.1,r.2.2.2.1,r.2.2.2.2.1.1.1,r.2.2.2.2.1.1.2.1,r.2.2.2.2.1.1.2.2,r.2.2.2.2.1.2,r.2.2.2.2.2.1.1,r.2.2.2.2.2.1.2.1.1,r.2.2.2.2.2.1.2.1.2.1,r.2.2.2.2.2.1.2.1.2.2,r.2.2.2.2.2.1.2.2,r.2.2.2.2.2.2.1.1,r.2.2.2.2.2.2.1.2,r.2.2.2.2.2.2.2.1.1.1,r.2.2.2.2.2.2.2.1.1.2.1,r.2.2.2.2.2.2.2.1.1.2.2.1,r.2.2.2.2.2.2.2.1.1.2.2.2.1,r.2.2.2.2.2.2.2.1.1.2.2.2.2,r.2.2.2.2.2.2.2.1.2.1.1,r.2.2.2.2.2.2.2.1.2.1.2.1,r.2.2.2.2.2.2.2.1.2.1.2.2.1,r.2.2.2.2.2.2.2.1.2.1.2.2.2.1,r.2.2.2.2.2.2.2.1.2.1.2.2.2.2,r.2.2.2.2.2.2.2.1.2.2.1,r.2.2.2.2.2.2.2.1.2.2.2.1,r.2.2.2.2.2.2.2.1.2.2.2.2.1,r.2.2.2.2.2.2.2.1.2.2.2.2.2.1,r.2.2.2.2.2.2.2.1.2.2.2.2.2.2,r.2.2.2.2.2.2.2.2.1,r.2.2.2.2.2.2.2.2.2.1,r.2.2.2.2.2.2.2.2.2.2.1,r.2.2.2.2.2.2.2.2.2.2.2.1,r.2.2.2.2.2.2.2.2.2.2.2.2.1,r.2.2.2.2.2.2.2.2.2.2.2.2.2)) (F4 t x):=by
 unfold IS Jb sV jL F4;cases dC t x with
 |none=>rfl
 |some r=>
  obtain ⟨t',b,e⟩:=r;simp;cases e != 0 <;> rfl
theorem alk(x:V)(m:bw)(a:Au)(t:St)(most:Int):UX x m a t most=PR (λr:Bool×St=>(r.1,r.2.1,r.2.2.1,r.2.2.2.1,r.2.2.2.2.1.1.1,r.2.2.2.2.1.1.2.1,r.2.2.2.2.1.1.2.2,r.2.2.2.2.1.2,r.2.2.2.2.2.1.1,r.2.2.2.2.2.1.2.1.1,r.2.2.2.2.2.1.2.1.2.1,r.2.2.2.2.2.1.2.1.2.2,r.2.2.2.2.2.1.2.2,r.2.2.2.2.2.2.1.1,r.2.2.2.2.2.2.1.2,r.2.2.2.2.2.2.2.1.1.1,r.2.2.2.2.2.2.2.1.1.2.1,r.2.2.2.2.2.2.2.1.1.2.2.1,r.2.2.2.2.2.2.2.1.1.2.2.2.1,r.2.2.2.2.2.2.2.1.1.2.2.2.2,r.2.2.2.2.2.2.2.1.2.1.1,r.2.2.2.2.2.2.2.1.2.1.2.1,r.2.2.2.2.2.2.2.1.2.1.2.2.1,r.2.2.2.2.2.2.2.1.2.1.2.2.2.1,r.2.2.2.2.2.2.2.1.2.1.2.2.2.2,r.2.2.2.2.2.2.2.1.2.2.1,r.2.2.2.2.2.2.2.1.2.2.2.1,r.2.2.2.2.2.2.2.1.2.2.2.2.1,r.2.2.2.2.2.2.2.1.2.2.2.2.2.1,r.2.2.2.2.2.2.2.1.2.2.2.2.2.2,r.2.2.2.2.2.2.2.2.1,r.2.2.2.2.2.2.2.2.2.1,r.2.2.2.2.2.2.2.2.2.2.1,r.2.2.2.2.2.2.2.2.2.2.2.1,r.2.2.2.2.2.2.2.2.2.2.2.2.1,r.2.2.2.2.2.2.2.2.2.2.2.2.2)) (Ln t x):=by
 unfold UX Jb sV pC Ln;show CR (IS x m a t most) _=_;rw [Qy];cases F4 t x with
 |none=>rfl
 |some r=>
  cases r with
  |error e=>rfl
  |ok r=>
   obtain ⟨b,t'⟩:=r;show (dM t' x 1).bind _=PR _ ((dM t' x 1).bind _);cases dM t' x 1 with
   |none=>rfl
   |some g=>
    simp;cases g.1 with
    |true=>rfl
    |false=>
     cases gz t' x 1 <;> rfl
def xk(m:bw)(a:Au)(most:Int)(n:Nat)(x:V):Except (Int×V) (List V):=
 if most<=(n:Int) then .error (8,[]) else if (Pd.cC m a x).2=0 then .ok (Pd.cC m a x).1 else .error ((Pd.cC m a x).2,x.dropLast)
theorem NV{m:bw}(hm:Sp.SafeS m.2.1 m.2.2.2.2){a:Au}{k:Nat}(ha:Pd.va a k){x:V}(hx:Pd.St m k x)(s:lK)(h:s.length<100000000)(t:St)(most:Int):
  wU x s m a t most=some (match xk m a most s.length x with
   | .error e=> .error e
   | .ok l=> .ok (s++[(x,l)])):=by
 unfold wU Jb sV fH xk;simp [So.aM];by_cases c:most<=(s.length)
 .grind
 .rw [dk c,cy c,b7];unfold vL;rw [show wP (m.1,m.2.1,m.2.2.1,m.2.2.2.1,m.2.2.2.2) (a.1,a.2.1,a.2.2.1,a.2.2.2) x=some (Pd.cC m a x) from Pd.amG hm ha hx];show (ai _ _)=_;simp only [So.aM];by_cases b:(Pd.cC m a x).2=0
  .grind [vN,Pd.cC,Sy.aP,Sy.dv]
  .rw [dk b,show ((Pd.cC m a x).2 != 0)=true by simpa using b,ca];obtain ⟨v,q,rfl,f,i⟩:=hx;have d:v.length<1000000:=by have c:=f.len;have b:=hm.dT;omega
   have g:IntKind.i64.wrap ((List.length (v++[q]))-1)=(v.length):=by grind [bG]
   rw [g,show (v++[q]).length=v.length+1 by simp,Sy.aP (by rw [Pd.adf];simp)];simp [aV]
end Ns
namespace Ns
def wk(nw:St->V->Option (Except (Int×V) (Bool×St)))(se:V->lK->Option Er)(dn:St->lK->Option (Except Er St))(pu:Nat->V->Except (Int×V) (List V)):Nat->St->lK->Option (Except Er St)
 |0,_,_=>none
 |_+1,t,[]=>some (.ok t)
 |n+1,t,(x,[])::s=>(dn t ((x,[])::s)).bind λr=>match r with
  | .error e=>some (.error e)
  | .ok t'=>wk nw se dn pu n t' s
 |n+1,t,(x,y::ys)::s=>match se y ((x,ys)::s) with
  |some e=>some (.error e)
  |none=>(nw t y).bind λr=>match r with
   | .error e=>some (.error (.inl e))
   | .ok (false,t')=>wk nw se dn pu n t' ((x,ys)::s)
   | .ok (true,t')=>match pu (s.length+1) y with
    | .error e=>some (.error (.inl e))
    | .ok l=>wk nw se dn pu n t' ((y,l)::(x,ys)::s)
theorem PA(s:lK)(a:s.length<100000000):∀(r pre:lK),s=pre++r->∀M,r.length<M->aj (uQ s) M (pre.map (·.1),(pre.length:Int))=some (s.map (·.1))
 |[],pre,h,M,hM=>by
  obtain ⟨m,rfl⟩:∃m,M=m+1:=⟨M-1,by omega⟩;simp_all [ao,uQ,cy]
 |f::r,pre,h,M,hM=>by
  obtain ⟨m,rfl⟩:∃m,M=m+1:=⟨M-1,by omega⟩;have hl:pre.length+r.length+1=s.length:=by rw [h];simp;omega
  have ih:=PA s a r (pre++[f]) (by rw [h];simp) m (by simp at hM;omega);rw [ao];unfold uQ;dsimp only;rw [cx (by omega),ca,Sy.lR h,So.ah,Sy.aP (Sy.dv (by simp;omega) (by simp;omega)),Pa.bR (by omega)];have c:pre.map (·.1)++[f.1]=(pre++[f]).map (·.1):=by simp
  have b:((pre.length+1:Nat))=((pre++[f]).length):=by simp
  rw [c,b];exact ih
theorem ai1(s:lK)(a:s.length<100000000):A9 s=some (s.map (·.1)):=PA s a s [] rfl au (by show s.length<2^64;omega)
theorem S3(a b:V)(hl:a.length=b.length)(ha:a.length<100000000):∀(r pre s ps:V),a=pre++r->b=ps++s->ps.length=pre.length->∀M,r.length<M->aj (gM a b) M (pre.length:Int)=some (decide (r=s))
 |[],pre,s,ps,h,h',hp,M,hM=>by
  obtain ⟨m,rfl⟩:∃m,M=m+1:=⟨M-1,by omega⟩;simp_all [ao,gM,cy]
 |x::r,pre,s,ps,h,h',hp,M,hM=>by
  obtain ⟨m,rfl⟩:∃m,M=m+1:=⟨M-1,by omega⟩;have d:pre.length+r.length+1=a.length:=by rw [h];simp;omega
  match s,h' with
  |[],h'=>
   grind
  |y::s,h'=>
   have ih:=S3 a b hl ha r (pre++[x]) s (ps++[y]) (by rw [h];simp) (by rw [h'];simp) (by simp [hp]) m (by simp at hM;omega);rw [show ((pre++[x]).length)=((pre.length+1:Nat)) by simp] at ih;rw [ao];generalize aj (gM a b) m=k at ih ⊢;unfold gM;rw [cx (by omega),ca,Sy.lR h,So.ah,<-hp,Sy.lR h',So.ah,hp,Pa.bR (by omega)];by_cases c:x=y
   .subst c;simp only [bne_self_eq_false,b7,ih,o6,true_and]
   .rw [show (x != y)=true by simpa using c,ca,cy (by simp [c])]
theorem Ks(a b:V)(ha:a.length<100000000):ml a b=some (decide (a=b)):=by
 unfold ml;by_cases h:a.length=b.length
 .rw [show ((List.length a:Int) != (List.length b))=false by rw [h];simp,b7];exact S3 a b h ha a [] b [] rfl rfl rfl au (by show a.length<2^64;omega)
 .rw [show ((List.length a:Int) != (List.length b))=true by simp;omega,ca,cy (λe=>h (by rw [e]))]
theorem CF(l:V)(q:Int)(hl:l.length<100000000):∀(r pre:V),l=pre++r->∀M,r.length<M->∃j,aj (gQ l q) M (pre.length:Int)=some j/\(0<=j↔q∈r)
 |[],pre,h,M,hM=>by
  obtain ⟨m,rfl⟩:∃m,M=m+1:=⟨M-1,by omega⟩;rw [ao];unfold gQ;simp_all
 |x::r,pre,h,M,hM=>by
  obtain ⟨m,rfl⟩:∃m,M=m+1:=⟨M-1,by omega⟩;have a:pre.length+r.length+1=l.length:=by rw [h];simp;omega
  obtain ⟨j,b,c⟩:=CF l q hl r (pre++[x]) (by rw [h];simp) m (by simp at hM;omega);rw [ao];generalize aj (gQ l q) m=k at b ⊢;unfold gQ;rw [cx (by omega),ca,Sy.lR h,So.ah,Pa.bR (by omega)];grind
def aqp(a:Au):V:=(a.2.2.2[0]?).getD []
def meet(a:Au)(x:V):Bool:=decide (x.getLastD 0∈aqp a)
theorem amB{a:Au}{A:V}{r:List V}(h:a.2.2.2=A::r)(c:A.length<100000000){v:V}{q:Int}(b:v.length<1000000):x6 a (v++[q])=some (meet a (v++[q])):=by unfold x6;rw [Pd.Zb b,So.ah,h,show idx (A::r) 0=some A from rfl,So.ah];unfold nR rP;obtain ⟨j,e,d⟩:=CF A q c A [] rfl au (by show A.length<2^64;omega);grind [meet,aqp]
theorem back_eq(s:lK)(y seed:V)(o:lK)(a:y.length<100000000)(c:s.length<100000000)(d:o.length<100000000)(b:o≠[]):
  jZ s y seed o=some (if y=seed then .error (o.dropLast.map (·.1),s.map (·.1)) else .ok ()):=by
 unfold jZ;rw [Ks y seed a,So.ah];by_cases h:y=seed
 .have hl:1<=o.length:=by grind
  have e:IntKind.i64.wrap ((List.length o)-1)=((o.length-1:Nat)):=by grind [bG]
  grind [aV,List.dropLast_eq_take,Sy.aP,cZ,List.length,ai1,So.ah]
 grind
abbrev stS(t:St)(s:lK):=(t.1,t.2.1,t.2.2.1,t.2.2.2.1.1.1,t.2.2.2.1.1.2.1,t.2.2.2.1.1.2.2,t.2.2.2.1.2,t.2.2.2.2.1.1,t.2.2.2.2.1.2.1.1,t.2.2.2.2.1.2.1.2.1,t.2.2.2.2.1.2.1.2.2,t.2.2.2.2.1.2.2,t.2.2.2.2.2.1.1,t.2.2.2.2.2.1.2,t.2.2.2.2.2.2.1.1.1,t.2.2.2.2.2.2.1.1.2.1,t.2.2.2.2.2.2.1.1.2.2.1,t.2.2.2.2.2.2.1.1.2.2.2.1,t.2.2.2.2.2.2.1.1.2.2.2.2,t.2.2.2.2.2.2.1.2.1.1,t.2.2.2.2.2.2.1.2.1.2.1,t.2.2.2.2.2.2.1.2.1.2.2.1,t.2.2.2.2.2.2.1.2.1.2.2.2.1,t.2.2.2.2.2.2.1.2.1.2.2.2.2,t.2.2.2.2.2.2.1.2.2.1,t.2.2.2.2.2.2.1.2.2.2.1,t.2.2.2.2.2.2.1.2.2.2.2.1,t.2.2.2.2.2.2.1.2.2.2.2.2.1,t.2.2.2.2.2.2.1.2.2.2.2.2.2,t.2.2.2.2.2.2.2.1,t.2.2.2.2.2.2.2.2.1,t.2.2.2.2.2.2.2.2.2.1,t.2.2.2.2.2.2.2.2.2.2.1,t.2.2.2.2.2.2.2.2.2.2.2.1,t.2.2.2.2.2.2.2.2.2.2.2.2,s)
def adZ(m:bw)(k:Nat)(s:lK):Prop:= ∀f∈s,∀y∈f.2,Pd.St m k y
def seI(seed:V)(o:lK)(y:V)(s:lK):Option Er:=if y=seed then some (.inr (o.dropLast.map (·.1),s.reverse.map (·.1))) else none
abbrev wkI(m:bw)(a:Au)(most:Int)(seed:V)(o:lK):=wk Ln (seI seed o) (λt _=>some (.ok t)) (xk m a most)
theorem Jx{m:bw}{a:Au}(ha:Pd.va a k){most:Int}{n:Nat}{x:V}(hx:Pd.St m k x){l:List V}(h:xk m a most n x= .ok l):∀y∈l,Pd.St m k y:=by grind [xk,Pd.abr]
theorem aeb{m:bw}{a:Au}{most:Int}{n:Nat}{x:V}{l:List V}(h:xk m a most n x= .ok l):(n:Int)<most:=by grind [xk]
theorem mJ(s:lK)(f:V×List V):(f::s).reverse=s.reverse++[f]:=List.reverse_cons
theorem Iz(s:lK)(f:V×List V)(a:s.length<100000000):IntKind.i64.wrap ((List.length (s.reverse++[f]):Int)-1)=(s.reverse.length:Int):=by grind [bG]
theorem KX{m:bw}(hm:Sp.SafeS m.2.1 m.2.2.2.2){a:Au}{k:Nat}(ha:Pd.va a k){most:Int}(c:most<=1048576)(seed:V){o:lK}(B:o.length<100000000)(h:o≠[]):
  ∀(n:Nat) (t:St) (s:lK),s.length<=1048576->adZ m k s->aj (ra m a most seed o) n (stS t s.reverse)=PR fl (wkI m a most seed o n t s)
 |0,_,_,_,_=>rfl
 |n+1,t,[],hs,hn=>by
  rw [ao];generalize aj _ n=d;rfl
 |n+1,t,(x,[])::s,hs,hn=>by
  have ih:=KX hm ha c seed B h n t s (by simp at hs;omega) (λf i=>hn f (cp _ i));rw [ao];generalize aj (ra m a most seed o) n=d at ih ⊢;unfold ra sV kx;dsimp only;simp at hs;rw [mJ,cx (by simp),ca,Iz _ _ (by omega),Sy.lR (pre:=s.reverse) (r:=[]) rfl,So.ah];simp only [qq,Int.ofNat_zero];rw [show ((0:Int)==0)=true from rfl,ca];show (some ()).bind _=_;rw [So.ah,Sy.aP (show cZ 0 (s.reverse.length:Int) (List.length (s.reverse++[((x,[]):V×List V)]))=true by unfold cZ;simp;omega),show aV (s.reverse++[((x,[]):V×List V)]) 0 (s.reverse.length:Int)=s.reverse by unfold aV;simp];exact ih
 |n+1,t,(x,y::ys)::s,hs,hn=>by
  have D:Pd.St m k y:=hn _ (c8 ..) y (c8 ..);have w:adZ m k ((x,ys)::s):=λf i=>by
   rcases List.mem_cons.1 i with rfl|i
   .exact λz E=>hn _ (c8 ..) z (cp _ E)
   .exact hn f (cp _ i)
  have p:=λt'=>KX hm ha c seed B h n t' ((x,ys)::s) (by simpa using hs) w;have j:=λt' l (hl:xk m a most (s.length+1) y= .ok l)=>KX hm ha c seed B h n t' ((y,l)::(x,ys)::s) (by have:=aeb hl;simp;omega) (λf i=>by
   rcases List.mem_cons.1 i with rfl|i
   .exact Jx ha D hl
   .exact w f i)
  rw [ao];generalize aj (ra m a most seed o) n=d at p j ⊢;unfold ra sV kx;dsimp only;simp at hs;have u:List.set (s.reverse++[((x,y::ys):V×List V)]) (Int.toNat (s.reverse.length)) (x,ys)=s.reverse++[(x,ys)]:=by simp
  have C:y.length<100000000:=by obtain ⟨v,q,rfl,F,_⟩:=D;have:=F.len;have:=hm.dT;simp;omega
  rw [mJ,cx (by simp),ca,Iz _ _ (by omega),Sy.lR rfl,So.ah];simp only [show (((y::ys).length:Int)==0)=false by simp;omega,b7,show idx (y::ys) 0=some y from rfl,So.ah];rw [Sy.aP (by unfold cZ;simp;omega)];have A:aV (y::ys) 1 ((List.length (y::ys)))=ys:=by unfold aV;simp
  simp only [A,u];rw [back_eq _ y seed o C (by simp;omega) B h];unfold wkI wk;simp only [seI];by_cases g:y=seed
  .rw [du g,du g];show some _=some _;rw [mJ]
  .rw [dk g,dk g];show gE (UX y m a t most) _ _=_;rw [alk];cases Ln t y with
   |none=>rfl
   |some r=>
    cases r with
    |error e=>rfl
    |ok r=>
     obtain ⟨b,t'⟩:=r;cases b with
     |false=>
      have:=p t';rw [mJ] at this;exact this
     |true=>
      show gE (wU y (s.reverse++[(x,ys)]) m a t' most) _ _=_;rw [NV hm ha D _ (by simp;omega),show (s.reverse++[((x,ys))]).length=s.length+1 by simp];cases hp:xk m a most (s.length+1) y with
      |error e=>rfl
      |ok l=>
       have:=j t' l hp;rw [mJ,mJ] at this;exact this
end Ns
namespace Ns
def allI(m:bw)(a:Au)(most:Int)(x:V)(o:lK)(F:Nat)(t:St):Option (Except Er St):=match xk m a most 0 x with
 | .error e=>some (.error (.inl e))
 | .ok l=>wkI m a most x o F t [(x,l)]
def inn(m:bw)(a:Au)(most:Int)(F:Nat)(t:St)(s:lK):Option (Except Er St):=match s with
 |[]=>none
 |(x,l)::r=>bif meet a x then allI m a most x ((x,l)::r).reverse F t else some (.ok t)
def okS(m:bw)(k:Nat)(s:lK):Prop:= ∀f∈s,Pd.St m k f.1/\∀y∈f.2,Pd.St m k y
structure Few(a:Au):Prop where
 acc:∃A r,a.2.2.2=A::r/\A.length<100000000
theorem ah9{m:bw}(hm:Sp.SafeS m.2.1 m.2.2.2.2){a:Au}{k:Nat}(ha:Pd.va a k){most:Int}(b:most<=1048576){x:V}(hx:Pd.St m k x){o:lK}(g:o.length<100000000)(c:o≠[])(t:St):
  NM x m a t most x o=PR fl (allI m a most x o au t):=by
 unfold NM Jb sV nG allI;show gE (wU x [] m a t most) _ _=_;rw [NV hm ha hx [] (by simp)];cases hp:xk m a most ([]).length x with
 |error e=>rfl
 |ok l=>
  have:=KX hm ha b x g c au t [(x,l)] (by simp) (λf d=>by
   rcases List.mem_cons.1 d with rfl|d
   .exact Jx ha hx hp
   .cases d)
  unfold ra sV at this;rw [<-this];rfl
theorem aly{m:bw}(hm:Sp.SafeS m.2.1 m.2.2.2.2){a:Au}{k:Nat}(ha:Pd.va a k)(h:Few a){most:Int}(b:most<=1048576){x:V}(hx:Pd.St m k x)(l:List V)(r:lK)(o:r.length<10000000)(t:St):
  Kw ((x,l)::r).reverse m a t most=PR fl (inn m a most au t ((x,l)::r)):=by
 unfold Kw Jb sV lX inn;rw [mJ,Iz _ _ (by omega),Sy.lR rfl,So.ah];obtain ⟨A,q,n,j⟩:=h.acc;obtain ⟨v,p,c,f,hp⟩:=hx;have g:v.length<1000000:=by have n:=f.len;have j:=hm.dT;omega
 have i:x6 (a.1,a.2.1,a.2.2.1,a.2.2.2) x=some (meet a x):=by grind [amB]
 rw [i,So.ah];dsimp only;cases meet a x with
 |false=>rfl
 |true=>
  show gE (NM x m a t most x (r.reverse++[(x,l)])) _ _=_;have d:Pd.St m k x:=⟨v,p,c,f,hp⟩;rw [ah9 hm ha b d (by simp;omega) (by simp)];rw [ca,mJ];generalize allI m a most x (r.reverse++[(x,l)]) au t=w;cases w with
  |none=>rfl
  |some w=>
   cases w with
   |error e=>cases e <;> rfl
   |ok t'=>rfl
abbrev wkO(m:bw)(a:Au)(most:Int):=wk F4 (λ_ _=>none) (inn m a most au) (xk m a most)
theorem J7{m:bw}(hm:Sp.SafeS m.2.1 m.2.2.2.2){a:Au}{k:Nat}(ha:Pd.va a k)(d:Few a){most:Int}(c:most<=1048576):
  ∀(n:Nat) (t:St) (s:lK),s.length<=1048576->okS m k s->aj (BR m a most) n (stS t s.reverse)=PR fl (wkO m a most n t s)
 |0,_,_,_,_=>rfl
 |n+1,t,[],hs,hn=>by
  rw [ao];generalize aj _ n=g;rfl
 |n+1,t,(x,[])::s,hs,hn=>by
  have ih:=λt'=>J7 hm ha d c n t' s (by simp at hs;omega) (λf d=>hn f (cp _ d));rw [ao];generalize aj (BR m a most) n=g at ih ⊢;unfold BR sV nE;dsimp only;simp at hs;have j:=aly hm ha d c (hn _ (c8 ..)).1 [] s (by omega) t;rw [mJ] at j ⊢;rw [cx (by simp),ca,Iz _ _ (by omega),Sy.lR (pre:=s.reverse) (r:=[]) rfl,So.ah];simp only [qq,Int.ofNat_zero];rw [show ((0:Int)==0)=true from rfl,ca];show gE (Kw (s.reverse++[(x,[])]) m a t most) _ _=_;rw [j];unfold wkO wk;dsimp only;cases inn m a most au t ((x,[])::s) with
  |none=>rfl
  |some w=>
   cases w with
   |error e=>cases e <;> rfl
   |ok t'=>
    show aN _ _=_;rw [Sy.aP (show cZ 0 (s.reverse.length:Int) (List.length (s.reverse++[((x,[]):V×List V)]))=true by unfold cZ;simp;omega),show aV (s.reverse++[((x,[]):V×List V)]) 0 (s.reverse.length:Int)=s.reverse by unfold aV;simp];exact ih t'
 |n+1,t,(x,y::ys)::s,hs,hn=>by
  have v:=hn _ (c8 ..);have u:Pd.St m k y:=v.2 y (c8 ..);have i:okS m k ((x,ys)::s):=λf d=>by
   rcases List.mem_cons.1 d with rfl|d
   .exact ⟨v.1,λz A=>v.2 z (cp _ A)⟩
   .exact hn f (cp _ d)
  have q:=λt'=>J7 hm ha d c n t' ((x,ys)::s) (by simpa using hs) i;have p:=λt' l (hl:xk m a most (s.length+1) y= .ok l)=>J7 hm ha d c n t' ((y,l)::(x,ys)::s) (by have:=aeb hl;simp;omega) (λf d=>by
   rcases List.mem_cons.1 d with rfl|d
   .exact ⟨u,Jx ha u hl⟩
   .exact i f d)
  rw [ao];unfold BR sV nE;dsimp only;simp at hs;have h:List.set (s.reverse++[((x,y::ys))]) (Int.toNat (s.reverse.length)) (x,ys)=s.reverse++[(x,ys)]:=by simp
  rw [mJ,cx (by simp),ca,Iz _ _ (by omega),Sy.lR rfl,So.ah];simp only [show idx (y::ys) 0=some y from rfl,So.ah];rw [Sy.aP (by unfold cZ;simp;omega)];have o:aV (y::ys) 1 ((List.length (y::ys)))=ys:=by unfold aV;simp
  simp only [o,h];unfold wkO wk;show gE (IS y m a t most) _ _=_;rw [Qy];cases F4 t y with
  |none=>rfl
  |some r=>
   cases r with
   |error e=>rfl
   |ok r=>
    obtain ⟨b,t'⟩:=r;cases b with
    |false=>
     have:=q t';rw [mJ] at this;exact this
    |true=>
     show gE (wU y (s.reverse++[(x,ys)]) m a t' most) _ _=_;rw [NV hm ha u _ (by simp;omega),show (s.reverse++[((x,ys))]).length=s.length+1 by simp];cases hp:xk m a most (s.length+1) y with
     |error e=>rfl
     |ok l=>
      have:=p t' l hp;rw [mJ,mJ] at this;exact this
def ol(m:bw)(a:Au)(most:Int):List V->St->Option (Except Er St)
 |[],t=>some (.ok t)
 |x::r,t=>(F4 t x).bind λq=>match q with
  | .error e=>some (.error (.inl e))
  | .ok (false,t')=>ol m a most r t'
  | .ok (true,t')=>match xk m a most 0 x with
   | .error e=>some (.error (.inl e))
   | .ok l=>(wkO m a most au t' [(x,l)]).bind λq=>match q with
    | .error e=>some (.error e)
    | .ok t''=>ol m a most r t''
theorem aja{m:bw}(hm:Sp.SafeS m.2.1 m.2.2.2.2){a:Au}{k:Nat}(ha:Pd.va a k)(c:Few a){most:Int}(b:most<=1048576){x:V}(hx:Pd.St m k x)(t:St):
  ai6 x m a t most=PR fl (match xk m a most 0 x with
   | .error e=>some (.error (.inl e))
   | .ok l=>wkO m a most au t [(x,l)]):=by
 show gE (wU x [] m a t most) _ _=_;rw [NV hm ha hx [] (by simp)];cases hp:xk m a most ([]).length x with
 |error e=>rfl
 |ok l=>
  have:=J7 hm ha c b au t [(x,l)] (by simp) (λf c=>by
   rcases List.mem_cons.1 c with rfl|c
   .grind [Jx]
   .cases c)
  unfold BR sV at this;rw [<-this];rfl
theorem Ss{m:bw}(hm:Sp.SafeS m.2.1 m.2.2.2.2){a:Au}{k:Nat}(ha:Pd.va a k)(j:Few a){most:Int}(c:most<=1048576)(L:List V)(o:L.length<100000000)(d:∀x∈L,Pd.St m k x):
  ∀(r pre:List V),L=pre++r->∀(t:St) (M:Nat),r.length<M->aj (KH m a most L) M (t.1,t.2.1,t.2.2.1,t.2.2.2.1.1.1,t.2.2.2.1.1.2.1,t.2.2.2.1.1.2.2,t.2.2.2.1.2,t.2.2.2.2.1.1,t.2.2.2.2.1.2.1.1,t.2.2.2.2.1.2.1.2.1,t.2.2.2.2.1.2.1.2.2,t.2.2.2.2.1.2.2,t.2.2.2.2.2.1.1,t.2.2.2.2.2.1.2,t.2.2.2.2.2.2.1.1.1,t.2.2.2.2.2.2.1.1.2.1,t.2.2.2.2.2.2.1.1.2.2.1,t.2.2.2.2.2.2.1.1.2.2.2.1,t.2.2.2.2.2.2.1.1.2.2.2.2,t.2.2.2.2.2.2.1.2.1.1,t.2.2.2.2.2.2.1.2.1.2.1,t.2.2.2.2.2.2.1.2.1.2.2.1,t.2.2.2.2.2.2.1.2.1.2.2.2.1,t.2.2.2.2.2.2.1.2.1.2.2.2.2,t.2.2.2.2.2.2.1.2.2.1,t.2.2.2.2.2.2.1.2.2.2.1,t.2.2.2.2.2.2.1.2.2.2.2.1,t.2.2.2.2.2.2.1.2.2.2.2.2.1,t.2.2.2.2.2.2.1.2.2.2.2.2.2,t.2.2.2.2.2.2.2.1,t.2.2.2.2.2.2.2.2.1,t.2.2.2.2.2.2.2.2.2.1,t.2.2.2.2.2.2.2.2.2.2.1,t.2.2.2.2.2.2.2.2.2.2.2.1,t.2.2.2.2.2.2.2.2.2.2.2.2,(pre.length:Int))=PR fl (ol m a most r t)
 |[],pre,h,t,M,hM=>by
  obtain ⟨n,rfl⟩:∃n,M=n+1:=⟨M-1,by omega⟩;have e  :=by simpa using h
  rw [ao];generalize aj _ n=g;unfold KH sV lZ;dsimp only;rw [cy (by rw [e];omega),b7];rfl
 |x::r,pre,h,t,M,hM=>by
  obtain ⟨n,rfl⟩:∃n,M=n+1:=⟨M-1,by omega⟩;have i:pre.length+r.length+1=L.length:=by rw [h];simp;omega
  have hx:=d x (by rw [h];simp);have ih:=λt'=>Ss hm ha j c L o d r (pre++[x]) (by rw [h];simp) t' n (by simp at hM;omega);rw [show ((pre++[x]).length)=((pre.length+1:Nat)) by simp] at ih;rw [ao];unfold KH sV lZ;dsimp only;rw [cx (by omega),ca,Sy.lR h,So.ah,Pa.bR (by omega)];unfold ol;show gE (IS x m a t most) _ _=_;rw [Qy];cases F4 t x with
  |none=>rfl
  |some q=>
   cases q with
   |error e=>rfl
   |ok q=>
    obtain ⟨b,t'⟩:=q;cases b with
    |false=>exact ih t'
    |true=>
     show gE (ai6 x m a t' most) _ _=_;rw [aja hm ha j c hx];simp;cases xk m a most 0 x with
     |error e=>rfl
     |ok l=>
      dsimp only;cases wkO m a most au t' [(x,l)] with
      |none=>rfl
      |some w=>
       cases w with
       |error e=>cases e <;> rfl
       |ok f=>exact ih f
def vF(m:bw)(a:Au):List V:=Sp.dh [] (Pd.dR a m.2.2.1 a.2.2.1)
theorem amw{m:bw}(hm:Sp.SafeS m.2.1 m.2.2.2.2)(hi:Sp.s8 m.2.1 m.2.2.1){a:Au}{k:Nat}(ha:Pd.va a k)(d:Few a){most:Int}(b:most<=1048576)(e:(vF m a).length<100000000)(c:∀x∈vF m a,Pd.St m k x)(t:St):
  UF m a t most=PR fl (ol m a most (vF m a) t):=by
 unfold UF Jb sV pJ;rw [show Bw (m.1,m.2.1,m.2.2.1,m.2.2.2.1,m.2.2.2.2) (a.1,a.2.1,a.2.2.1,a.2.2.2)=some (vF m a) from Pd.aob hm hi ha,So.ah];exact Ss hm ha d b (vF m a) e c (vF m a) [] rfl t au (by show _<2^64;omega)
def Cu(w:Option (Except Er St)):Option (Bool×(List V×List V)×Int×V):=w.map λr=>match r with
 | .ok _=>(false,([],[]),0,[])
 | .error (.inl e)=>(false,([],[]),e.1,e.2)
 | .error (.inr p)=>(true,p,0,[])
theorem aot{m:bw}(hm:Sp.SafeS m.2.1 m.2.2.2.2)(hi:Sp.s8 m.2.1 m.2.2.1){a:Au}{k:Nat}(ha:Pd.va a k)(h:Few a)(i:(vF m a).length<100000000)(b:∀x∈vF m a,Pd.St m k x)(o:So.Op){s:w5}(g:vM m a=some (s,0)){t:St}{c:Int}(hN:gh s o=some (t,c)):
  jQ m a o=if c=0/\1<=o.2.2.1/\o.2.2.1<=1048576 then Cu (ol m a o.2.2.1 (vF m a) t) else some (false,([],[]),1,[]):=by
 unfold jQ;rw [g,So.ah];simp only [So.aM];rw [show ((0:Int) != 0)=false from rfl,b7,hN,So.ah];by_cases f:c=0
 .by_cases d:1<=o.2.2.1/\o.2.2.1<=1048576
  .rw [du ⟨f,d⟩,f,cy (by omega),cy (by omega)];show gE (UF m a t o.2.2.1) _ _=_;rw [amw hm hi ha h d.2 i b];cases ol m a o.2.2.1 (vF m a) t with
   |none=>rfl
   |some w=>
    cases w with
    |error e=>cases e <;> rfl
    |ok t'=>rfl
  grind
 grind
end Ns
namespace Ns
def mu(Us K:List V):Nat:=(Us.filter λx=> !decide (x∈K)).length
theorem af4{Us K a:List V}(h:∀x∈K,x∈a):mu Us a<=mu Us K:=by
 unfold mu
 induction Us with
 |nil=>simp
 |cons y Us ih=>
  grind
theorem ase{Us K a:List V}(h:∀x∈K,x∈a){x:V}(hx:x∈Us)(c:x∉K)(b:x∈a):mu Us a<mu Us K:=by
 induction Us with
 |nil=>cases hx
 |cons y Us ih=>
  unfold mu at ih ⊢;by_cases e:y=x
  .subst e;have:=af4 (Us:=Us) h;unfold mu at this;simp [c,b];omega
  grind
theorem aqX{Us K:List V}:mu Us K<=Us.length:=qS _ _
def wt(s:lK):Nat:=(s.map λf=>1+f.2.length).sum
structure CD(Us:List V)(s:lK):Prop where
 st:∀f∈s,f.1∈Us
 nx:∀f∈s,∀y∈f.2,y∈Us
 nd:(s.map (·.1)).Nodup
theorem CD.dT{Us:List V}{s:lK}(h:CD Us s):s.length<=Us.length:=by
 have:=Df.HX h.nd (λx hx=>by obtain ⟨f,a,rfl⟩:=List.mem_map.1 hx;exact h.st f a)
 simpa using this
section
variable {nw : St -> V -> Option (Except (Int × V) (Bool × St))} {se : V -> lK -> Option Er} {dn : St -> lK -> Option (Except Er St)} {pu : Nat -> V -> Except (Int × V) (List V)} {Us : List V} {N : Nat} {Inv : List V -> St -> Prop} {Bd : Er -> Prop} {bot : Option V}
def anx(Us:List V)(Inv:List V->St->Prop)(Bd:Er->Prop)(nw:St->V->Option (Except (Int×V) (Bool×St))):Prop:=
 ∀K t x,Inv K t->x∈Us->(∃e,nw t x=some (.error e)/\Bd (.inl e))\/(∃K' t',nw t x=some (.ok (false,t'))/\Inv K' t'/\∀z∈K,z∈K')\/(∃K' t',nw t x=some (.ok (true,t'))/\Inv K' t'/\(∀z∈K,z∈K')/\x∉K/\x∈K')
def Sj(Inv:List V->St->Prop)(Bd:Er->Prop)(K:List V)(w:Option (Except Er St)):Prop:=
 (∃e,w=some (.error e)/\Bd e)\/(∃K' t',w=some (.ok t')/\Inv K' t'/\∀z∈K,z∈K')
def ahR(Us:List V)(N:Nat)(Bd:Er->Prop)(pu:Nat->V->Except (Int×V) (List V)):Prop:=
 ∀n y,y∈Us->n<Us.length->(∃e,pu n y= .error e/\Bd (.inl e))\/(∃l,pu n y= .ok l/\(∀z∈l,z∈Us)/\l.length<=N)
theorem Nw(o:anx Us Inv Bd nw)(k:∀y s e,y∈Us->CD Us s->s≠[]->se y s=some e->Bd e)(d:∀y s,se y s=none->some y≠bot)
  (p:∀K t s,Inv K t->CD Us s->s≠[]->Sj Inv Bd K (dn t s)) (m:ahR Us N Bd pu):
  ∀(n:Nat) (t:St) (s:lK) (K:List V),Inv K t->CD Us s->(∀x∈s.map (·.1),x∈K\/some x=bot)->mu Us K*(N+2)+wt s<n->Sj Inv Bd K (wk nw se dn pu n t s)
 |0,_,_,_,_,_,_,h=>by omega
 |n+1,t,[],K,hi,_,_,_=> .inr ⟨K,t,rfl,hi,λ_ h=>h⟩
 |n+1,t,(x,[])::s,K,hi,hg,hk,hn=>by
  have D:CD Us s:=⟨λf a=>hg.st f (cp _ a),λf a=>hg.nx f (cp _ a),by have:=hg.nd;simp at this;simpa using this.2⟩;unfold wk;rcases p K t _ hi hg (by simp) with ⟨e,r,q⟩|⟨u,t',r,q,i⟩
  .rw [r];exact .inl ⟨e,rfl,q⟩
  .rw [r];have hm:=af4 (Us:=Us) i;have g:mu Us u*(N+2)+wt s<n:=by have:=hU (N+2) hm;simp [wt] at hn ⊢; omega
   rcases Nw o k d p m n t' s u q D (λy j=>(hk y (by simp at j ⊢; exact .inr j)).imp (i y) id) g with ⟨e,r1,r2⟩|⟨C,t2,r1,r2,v⟩
   .exact .inl ⟨e,r1,r2⟩
   .exact .inr ⟨C,t2,r1,r2,λz c=>v z (i z c)⟩
 |n+1,t,(x,y::ys)::s,K,hi,hg,hk,hn=>by
  have j  :=hg.nx _ (c8 ..) y (c8 ..);have b:CD Us ((x,ys)::s):=⟨λf a=>by
    rcases List.mem_cons.1 a with rfl|a
    .exact hg.st (x,y::ys) (c8 ..)
    .exact hg.st f (cp _ a),λf a=>by
    rcases List.mem_cons.1 a with rfl|a
    .exact λz c=>hg.nx (x,y::ys) (c8 ..) z (cp _ c)
    .exact hg.nx f (cp _ a),hg.nd⟩
  unfold wk;cases E:se y ((x,ys)::s) with
  |some e=>exact .inl ⟨e,rfl,k y _ e j b (by simp) E⟩
  |none=>
   rcases o K t y hi j with ⟨e,r,q⟩|⟨u,t',r,q,i⟩|⟨u,t',r,q,i,F,G⟩
   .rw [r];exact .inl ⟨_,rfl,q⟩
   .rw [r];have hm:=af4 (Us:=Us) i;have g:mu Us u*(N+2)+wt ((x,ys)::s)<n:=by have:=hU (N+2) hm;simp [wt] at hn ⊢; omega
    rcases Nw o k d p m n t' _ u q b (λz c=>(hk z (by simpa using c)).imp (i z) id) g with ⟨e,r1,r2⟩|⟨C,t2,r1,r2,v⟩
    .exact .inl ⟨e,r1,r2⟩
    .exact .inr ⟨C,t2,r1,r2,λz c=>v z (i z c)⟩
   .rw [r];have w:y∉((x,ys)::s).map (·.1):=λB=>by
     rcases hk y (by simpa using B) with B|B
     .exact F B
     .exact d y _ E B
    have A  :=by
     have:=Df.HX (List.nodup_cons.2 ⟨w,b.nd⟩) (λz c=>by
      rcases List.mem_cons.1 c with rfl|c
      .exact j
      .obtain ⟨f,a,rfl⟩:=List.mem_map.1 c;exact b.st f a)
     simp at this;omega
    rcases m (s.length+1) y j A with ⟨e,p1,p2⟩|⟨l,p1,p2,H⟩
    .simp [p1];exact .inl ⟨_,rfl,p2⟩
    .simp [p1];have hm:=ase i j F G;have g:mu Us u*(N+2)+wt ((y,l)::(x,ys)::s)<n:=by
      have:mu Us u*(N+2)+(N+2)<=mu Us K*(N+2):=by rw [<-qR];exact hU _ hm
      simp [wt] at hn ⊢; omega
     rcases Nw o k d p m n t' ((y,l)::(x,ys)::s) u q ⟨λf a=>by
       rcases List.mem_cons.1 a with rfl|a
       .exact j
       .exact b.st f a,λf a=>by
       rcases List.mem_cons.1 a with rfl|a
       .exact p2
       .exact b.nx f a,List.nodup_cons.2 ⟨w,b.nd⟩⟩ (λz c=>by
       grind) g with ⟨e,r1,r2⟩|⟨C,t2,r1,r2,v⟩
     .exact .inl ⟨e,r1,r2⟩
     .exact .inr ⟨C,t2,r1,r2,λz c=>v z (i z c)⟩
end
end Ns
variable {α : Type}
namespace Sy
open Pa
def Er{α:Type}(x:Except ir α):Prop:= ∀e,x= .error e->e.1≠0
theorem Er.ok{a:α}:Er (.ok a:Except ir α):=λe h=>by cases h
theorem Er.lit{e:ir}(h:e.1≠0):Er (.error e:Except ir α):=λe' a=>by cases a;exact h
theorem Er.bif{c:Bool}{a b:Except ir α}(ha:c=true->Er a)(hb:c=false->Er b):Er (bif c then a else b):=by cases c;exact hb rfl;exact ha rfl
theorem Er.of{x:Except ir α}(h:Er x){e:ir}(a:x= .error e){β:Type}:Er (.error e:Except ir β):= .lit (h e a)
theorem alw{names:List aE}{b:List Tok}:Er (Gj names b):=λe h=>by
 unfold Gj at h;split at h
 next hx=>have a:=Classical.choose_spec hx;rw [h] at a;rcases a.err e rfl with h|h|h <;> omega
 .cases h;decide
theorem DU{x:aE}{a:List Tok}:Er (bZ x a):=by
 unfold bZ;split
 .exact .lit (by decide)
 .exact .bif (λ_=> .ok) (λ_=> .lit (show (2:Int)≠0 by decide))
theorem abP{full:Bool}{names a:List aE}{b:List Tok}:Er (fJ full names a b):=by
 unfold fJ;split
 .exact .lit (by decide)
 .exact .bif (λ_=> .lit (show (2:Int)≠0 by decide)) λ_=> .bif (λ_=> .lit (show (3:Int)≠0 by decide)) λ_=> .bif (λ_=> .lit (show (9:Int)≠0 by decide)) λ_=> .ok
theorem aa1{a:Bool}{b:List Tok}:Er (ta a b):=by
 unfold ta;split
 .exact .lit (by decide)
 .exact .bif (λ_=> .lit (show (2:Int)≠0 by decide)) λ_=> .ok
theorem Vn{a:List Tok}:Er (gw a):= .bif (λ_=>aa1) λ_=>aa1
theorem apG{m:bw}{a:List Tok}:Er (rF m a):=by
 unfold rF;split
 next h=>exact abP.of h
 .split
  next h=>exact Vn.of h
  .split
   next h=>exact Vn.of h
   .split
    next h=>exact Vn.of h
    .split
     next h=>exact DU.of h
     .exact .bif (λ_=> .lit (show (5:Int)≠0 by decide)) λ_=> .ok
theorem aab{a:Int}{names:List aE}{b:List Tok}:Er (eI a names b):=by
 unfold eI;split
 next h=>exact alw.of h
 .exact .bif (λh=> .lit (by simpa using h)) λ_=> .bif (λ_=> .lit (show (4:Int)≠0 by decide)) λ_=> .ok
theorem abL{names:List aE}:∀(f:Nat) (acc:List (Int×Ex)) (a:List Tok),Er (fM names f acc a)
 |0,_,_=> .lit (show (2:Int)≠0 by decide)
 |f+1,acc,a=>by
  unfold fM;split
  .exact .lit (by decide)
  .refine .bif (λ_=> .lit (show (2:Int)≠0 by decide)) λ_=> .bif (λ_=> .lit (show (3:Int)≠0 by decide)) λ_=>?_;split
   next h=>exact DU.of h
   .split
    next h=>exact aab.of h
    .exact .bif (λ_=>abL f _ _) λ_=> .ok
theorem apr{m:bw}{a:List Tok}:Er (nL m a):=by
 unfold nL;refine .bif (λ_=> .lit (show (9:Int)≠0 by decide)) λ_=>?_;split
 next h=>exact aab.of h
 .split
  next h=>exact DU.of h
  .split
   next h=>exact (abL _ _ _).of h
   .split
    next h=>exact DU.of h
    .exact .ok
theorem abg:∀(f:Nat) (m:bw) (a:List Tok),Er (my f m a)
 |0,_,_=> .lit (show (2:Int)≠0 by decide)
 |f+1,m,a=>by
  unfold my;refine .bif (λ_=> .ok) λ_=>?_;split
  next h=>exact apr.of h
  .exact abg f _ _
theorem amI{m:bw}{a:List Tok}:Er (wa m a):=by
 unfold wa;split
 next h=>exact abP.of h
 .split
  next h=>exact DU.of h
  .exact abg _ _ _
theorem M8:∀(f:Nat) (m:bw) (a:List Tok),Er (pS f m a)
 |0,_,_=> .lit (show (2:Int)≠0 by decide)
 |f+1,m,a=>by
  unfold pS;split
  .exact .lit (by decide)
  .refine .bif (λ_=> .bif (λ_=> .lit (show (2:Int)≠0 by decide)) λ_=> .ok) λ_=> .bif (λ_=>?_) λ_=> .bif (λ_=>?_) λ_=> .lit (show (2:Int)≠0 by decide)
   .split
    next h=>exact apG.of h
    .exact M8 f _ _
   .split
    next h=>exact amI.of h
    .exact M8 f _ _
theorem alg{text:aE}{e:ir}(h:Qm text= .error e):e.1≠0:=by
 unfold Qm at h;split at h
 .cases h;decide
 .split at h
  .exact M8 _ _ _ e h
  next hl=>cases h;exact Za _ _ _ _ hl
end Sy
namespace Sp
theorem abx(a b:zj)(hl:a.length=b.length)(ha:a.length<1000000000):∀(r pre s:zj),a=pre++r->b=pre++s->∀M,r.length<M->aj (dN a b) M (pre.length:Int)=some (r==s)
 |[],pre,s,h,h2,M,hM=>by
  obtain ⟨k,rfl⟩:∃k,M=k+1:=⟨M-1,by simp at hM;omega⟩;rw [ao];simp only [dN,Sy.uB h,b7];have:s=[]:=er (by rw [h,h2] at hl;simpa using hl.symm);subst this;rfl
 |x::r,pre,[],h,h2,M,hM=>by rw [h,h2] at hl;simp at hl
 |x::r,pre,y::s,h,h2,M,hM=>by
  obtain ⟨k,rfl⟩:∃k,M=k+1:=⟨M-1,by omega⟩;rw [ao];have c:pre.length+r.length+1=a.length:=by rw [h];simp;omega
  simp only [dN,Sy.uz h,ca,Sy.lR h,Sy.lR h2,ah,Pa.bR (show pre.length<4611686018427387904 by omega)];by_cases e:x=y
  .subst e;have ih:=abx a b hl ha r (pre++[x]) s (by rw [h];simp) (by rw [h2];simp) k (by simp at hM;omega);rw [show ((pre++[x]).length:Int)=((pre.length+1:Nat):Int) by simp] at ih;rw [show (x != x)=false by simp,b7,ih];simp
  .rw [show (x != y)=true by simpa using e,ca];simp [e]
theorem aje(a b:zj)(ha:a.length<1000000000):gR a b=some (a==b):=by
 unfold gR;by_cases hl:a.length=b.length
 .rw [show ((List.length a:Int) != (List.length b:Int))=false by rw [hl];simp,b7];exact abx a b hl ha a [] b rfl rfl au (by show _<2^64;omega)
 .rw [show ((List.length a:Int) != (List.length b:Int))=true by simp;omega,ca,beq_eq_false_iff_ne.2 (λe=>hl (by rw [e]))]
def It(v:zj):Nat->wy->Int
 |_,[]=> -1
 |k,x::r=>if x=v then (k:Int) else It v (k+1) r
theorem NW{v:zj}:∀{l:wy} {k:Nat},It v k l<0↔v∉l
 |[],k=>by simp [It]
 |x::r,k=>by
  unfold It;by_cases e:x=v
  .rw [du e];constructor
   .intro h;omega
   .intro h;exact absurd (by rw [e];simp) h
  .rw [dk e,NW (l:=r)];simp only [qa,not_or];exact ⟨λh=>⟨λa=>e a.symm,h⟩,λh=>h.2⟩
def um(S:w5)(v:zj):Bool:=decide (v.length=S.length)&&fits S v
theorem nZ{S:w5}:um S v=true↔s8 S v:=by unfold um;rw [ar,eY];exact ⟨λh=>⟨h.1,h.2⟩,λh=>⟨h.len,h.fit⟩⟩
structure Gr(S:w5)(C:List Sy.aT):Prop extends SafeS S C where
 rguard:∀c∈C,fp (S.length:Int) c.2.1=true/\(rt c.2.1).1=2
 rsets:∀c∈C,∀s∈c.2.2,fp (S.length:Int) s.2=true/\(rt s.2).1=1
theorem apC{m:Sy.bw}(h:Sy.Wf m):Gr m.2.1 m.2.2.2.2:=by
 have d:=h.schema;have g:=h.some_;have f:=h.names;have e:=h.cmds;refine { pos:=by omega,dT:=by omega,field:=h.fields,cmds:=by omega,guard:=λc a=>?_,sets:=λc a=>⟨(h.cmd c a).len,λs b=>?_⟩,rguard:=λc a=>?_,rsets:=λc a s b=>?_ }
 .have:=(h.cmd c a).sz;omega
 .have k:=(h.cmd c a).sets s b;have:=k.var;have:=k.sz;refine ⟨by omega,by omega,by omega⟩
 .have k:=h.cmd c a;rw [d];exact ⟨k.may,k.typ.2⟩
 .have k:=(h.cmd c a).sets s b;rw [d];exact ⟨k.may,k.typ.2⟩
theorem aeA:∀{S:w5} {v:zj},(∀(i:Nat) (f:Int×Int) (n:Int),S[i]? =some f->v[i]? =some n->f.1<=n/\n<=f.2)->fits S v=true
 |[],[],_=>rfl
 |[],_::_,_=>rfl
 |_::_,[],_=>rfl
 |s::S,x::v,h=>by have c:=h 0 s x rfl rfl;simp only [fits,ar,eY];exact ⟨c,aeA λi f n b a=>h (i+1) f n (by simpa using b) (by simpa using a)⟩
theorem aow{m:Sy.bw}(h:Sy.Wf m):s8 m.2.1 m.2.2.1:=⟨by rw [h.init,h.schema],aeA h.first⟩
theorem amp(text:aE):∃q,nn text=some q/\(q.2=true->Sy.Wf q.1):=by
 unfold nn;by_cases h:(600:Int)<(text.length:Int)
 .rw [cx h,ca];exact ⟨_,rfl,λh=>by cases h⟩
 .rw [cy h,b7,Sy.al6,ah];refine ⟨_,rfl,λh=>?_⟩;cases a:Sy.Qm text with
  |ok m=>
   exact Sy.ai2 a
  |error e=>
   rw [a] at h;exact absurd (by simpa [Sy.QL] using h) (Sy.alg a)
end Sp
namespace Sp
theorem S7(l:wy)(v:zj)(hl:l.length<1000000000)(a:∀w∈l,w.length<1000000000):∀(r pre:wy),l=pre++r->∀M,r.length<M->aj (jd l v) M (pre.length:Int)=some (It v pre.length r)
 |[],pre,h,M,hM=>by
  obtain ⟨k,rfl⟩:∃k,M=k+1:=⟨M-1,by simp at hM;omega⟩;rw [ao];simp only [jd,Sy.uB h,b7,It]
 |x::r,pre,h,M,hM=>by
  obtain ⟨k,rfl⟩:∃k,M=k+1:=⟨M-1,by omega⟩;rw [ao];have b:pre.length+r.length+1=l.length:=by rw [h];simp;omega
  have ih:=S7 l v hl a r (pre++[x]) (by rw [h];simp) k (by simp at hM;omega);rw [show ((pre++[x]).length:Int)=((pre.length+1:Nat):Int) by simp,show (pre++[x]).length=pre.length+1 by simp] at ih;simp only [jd,Sy.uz h,ca,Sy.lR h,ah,Pa.bR (show pre.length<4611686018427387904 by omega)];rw [aje x v (a x (by rw [h];simp)),ah,It];by_cases e:x=v
  .rw [du e,show (x==v)=true by simpa using e,ca]
  .rw [dk e,show (x==v)=false by simpa using e,b7];exact ih
theorem wJ(l:wy)(v:zj)(hl:l.length<1000000000)(a:∀w∈l,w.length<1000000000):dm l v=some (It v 0 l):=
 S7 l v hl a l [] rfl au (by show _<2^64;omega)
end Sp
theorem aj8(op n C:Int)(l:List Ex)(v:zj)(a b:Int)(c:15<=op->(a=0\/a=1)/\(b=0\/b=1)):lz (.mk op n C l) v a b=some (Pr op n v a b):=by
 have d:(op=1\/op=2\/op=3\/op=4\/op=5\/op=6\/op=7\/op=8\/op=9\/op=10\/op=11\/op=12\/op=13\/op=15\/op=16\/op=17\/op=18\/op=19)\/(op<1\/op=14\/19<op):=by omega
 rcases d with d|d
 .rcases d with rfl|rfl|rfl|rfl|rfl|rfl|rfl|rfl|rfl|rfl|rfl|rfl|rfl|rfl|rfl|rfl|rfl|rfl
  .rfl
  .show (bif (decide (0<=n)&&decide (n<(List.length v:Int))) then (idx v n).bind (λz=>some z) else some 0)=some (bif decide (n<0)||decide ((List.length v:Int)<=n) then 0 else v.getD n.toNat 0);by_cases e:0<=n
   .by_cases r:n<(List.length v:Int)
    .rw [cx e,cx r,cy (by omega),cy (by omega)];have:idx v n=some (v.getD n.toNat 0):=by unfold idx;rw [du e,b9 (by omega)];simp [List.getD,b9 (show n.toNat<v.length by omega)]
     rw [this];rfl
    .rw [cx e,cy r,cy (by omega),cx (by omega)];rfl
   .rw [cy e,cx (show n<0 by omega)];rfl
  .rfl
  .rfl
  .rfl
  .rfl
  .show (bd (a==b)).bind (λz=>some z)=some (tr ((a==b) != false));cases (a==b) <;> rfl
  .show (bd (!(a==b))).bind (λz=>some z)=some (tr ((a==b) != true));cases (a==b) <;> rfl
  .show (bd (decide (a<b))).bind (λz=>some z)=some (tr (decide (a<b) != false));cases decide (a<b) <;> rfl
  .show (bd (decide (a<=b))).bind (λz=>some z)=some (tr (decide (a<=b) != false));cases decide (a<=b) <;> rfl
  .show (bd (decide (b<a))).bind (λz=>some z)=some (tr (decide (a<=b) != true));by_cases h:a<=b
   .rw [cx h,cy (by omega)];rfl
   .rw [cy h,cx (by omega)];rfl
  .show (bd (decide (b<=a))).bind (λz=>some z)=some (tr (decide (a<b) != true));by_cases h:a<b
   .rw [cx h,cy (by omega)];rfl
   .rw [cy h,cx (by omega)];rfl
  .rfl
  .obtain ⟨ha,hb⟩:=c (by omega);rcases ha with rfl|rfl <;> rfl
  .obtain ⟨ha,hb⟩:=c (by omega);rcases ha with rfl|rfl <;> rcases hb with rfl|rfl <;> rfl
  .obtain ⟨ha,hb⟩:=c (by omega);rcases ha with rfl|rfl <;> rcases hb with rfl|rfl <;> rfl
  .obtain ⟨ha,hb⟩:=c (by omega);rcases ha with rfl|rfl <;> rcases hb with rfl|rfl <;> rfl
  .show (bd (a==b)).bind (λz=>some z)=some (tr ((a==b) != false));cases (a==b) <;> rfl
 .have B:(op==1)=false:=beq_eq_false_iff_ne.2 (by omega);have A:(op==2)=false:=beq_eq_false_iff_ne.2 (by omega);have y:(op==3)=false:=beq_eq_false_iff_ne.2 (by omega);have x:(op==4)=false:=beq_eq_false_iff_ne.2 (by omega);have w:(op==5)=false:=beq_eq_false_iff_ne.2 (by omega);have u:(op==6)=false:=beq_eq_false_iff_ne.2 (by omega);have t:(op==7)=false:=beq_eq_false_iff_ne.2 (by omega);have b8:(op==8)=false:=beq_eq_false_iff_ne.2 (by omega);have s:(op==9)=false:=beq_eq_false_iff_ne.2 (by omega);have q:(op==10)=false:=beq_eq_false_iff_ne.2 (by omega);have p:(op==11)=false:=beq_eq_false_iff_ne.2 (by omega);have o:(op==12)=false:=beq_eq_false_iff_ne.2 (by omega);have m:(op==13)=false:=beq_eq_false_iff_ne.2 (by omega);have k:(op==15)=false:=beq_eq_false_iff_ne.2 (by omega);have j:(op==16)=false:=beq_eq_false_iff_ne.2 (by omega);have i:(op==17)=false:=beq_eq_false_iff_ne.2 (by omega);have g:(op==18)=false:=beq_eq_false_iff_ne.2 (by omega);have f:(op==19)=false:=beq_eq_false_iff_ne.2 (by omega);simp only [lz,Ex.op,Pr,B,A,y,x,w,u,t,b8,s,q,p,o,m,k,j,i,g,f,b7]
theorem api(k:Ex×zj->zb)(e:Ex)(v:zj)(hk:∀x∈e.l,k (x,v)=some (ev v x))(b:15<=e.op->(Cs v e.l=0\/Cs v e.l=1)/\(Ed v e.l=0\/Ed v e.l=1)):
  mw k e v=some (ev v e):=by
 obtain ⟨op,n,a,l⟩:=e;rw [agj];have key:=aj8 op n a l v (Cs v l) (Ed v l) b;rw [show Pr (Ex.mk op n a l).op (Ex.mk op n a l).n v (Cs v (Ex.mk op n a l).l) (Ed v (Ex.mk op n a l).l)=Pr op n v (Cs v l) (Ed v l) from rfl,<-key]
 match l,hk with
 |[],_=>simp only [Cs,Ed];rfl
 |[x],hk=>
  have hx:=hk x (by simp [Ex.l]);simp only [Cs,Ed];show (k (x,v)).bind _=_;rw [hx];rfl
 |x::y::r,hk=>
  have hx:=hk x (by simp [Ex.l]);have c:=hk y (by simp [Ex.l]);simp only [Cs,Ed];have d0:decide ((0:Int)<(List.length (x::y::r):Int))=true:=cx (by simp only [eb];omega);have d1:decide ((1:Int)<(List.length (x::y::r):Int))=true:=cx (by simp only [eb];omega);show (bif decide ((0:Int)<(List.length (x::y::r):Int)) then _ else _)=_;rw [d0];show (k (x,v)).bind _=_;rw [hx];show (bif decide ((1:Int)<(List.length (x::y::r):Int)) then _ else _)=_;rw [d1];show (k (y,v)).bind _=_;rw [c];rfl
theorem afm{a:Int}(v:zj):∀(N:Nat) (e:Ex),e.sz<=N->fp a e=true->((rt e).1=1\/(rt e).1=2)->aj (λk (s:Ex×zj)=>mw k s.1 s.2) N (e,v)=some (ev v e):=by
 intro N
 induction N with
 |zero=>intro e h;have:=oR e;omega
 |succ N ih=>
  intro e h hm ht;rw [ao];refine api _ e v (λx hx=>ih x (by have:=lU hx;omega) ((M9 hm).2.2.2.2 x hx) (acH hm ht x hx)) (λb=>arq v (λx hx=>?_));rw [rt_eq] at ht;have c:(sZ e.op e.at_ (e.l.length:Int) e.l 0 0 0).1=2:=by
   rcases ht with h|h
   .have:=Vc _ _ _ _ _ _ _ h;omega
   .exact h
  exact apO v x.sz x (cH _) (Od _ _ _ b (Og _ _ _ _ _ _ _ c).2 _ _ _ _ (by omega) c x hx).1
theorem Qw{a:Int}(v:zj)(e:Ex)(h:e.sz<1152921504606846)(hm:fp a e=true)(ht:(rt e).1=1\/(rt e).1=2):eQ e v=some (ev v e):=afm v au e (by show e.sz<=2^64;omega) hm ht
namespace Sp
theorem Xp(m:Sy.bw)(w:zj)(hn:w.length=m.2.1.length)(d:w.length<1000):∀(r pre:zj) (rs ps:w5),w=pre++r->m.2.1=ps++rs->ps.length=pre.length->rs.length=r.length->
  ∀M,r.length<M->aj (iR m w) M (pre.length:Int)=some (bif fits rs r then (w,0) else ([],6))
 |[],pre,rs,ps,h,hS,hl,hr,M,hM=>by
  obtain ⟨m,rfl⟩:∃m,M=m+1:=⟨M-1,by simp at hM;omega⟩;rw [ao];simp only [iR,Sy.uB h,b7];have:rs=[]:=er hr;subst this;rfl
 |x::r,pre,[],ps,h,hS,hl,hr,M,hM=>by simp at hr
 |x::r,pre,s::rs,ps,h,hS,hl,hr,M,hM=>by
  obtain ⟨k,rfl⟩:∃k,M=k+1:=⟨M-1,by omega⟩;rw [ao];have e:idx m.2.1 (pre.length:Int)=some s:=by rw [<-hl];exact Sy.lR hS
  have a:pre.length+r.length+1=w.length:=by rw [h];simp;omega
  have ih:=Xp m w hn d r (pre++[x]) rs (ps++[s]) (by rw [h];simp) (by rw [hS];simp) (by simp;omega) (by simpa using hr) k (by simp at hM;omega);rw [show ((pre++[x]).length:Int)=((pre.length+1:Nat):Int) by simp] at ih;simp only [iR,Sy.uz h,ca,Sy.lR h,ah,e,Pa.bR (show pre.length<4611686018427387904 by omega),ih,fits,aM,ao5];by_cases c:x<s.1
  .rw [cx c,Bool.true_or,ca,cy (show ¬s.1<=x by omega)];rfl
  .rw [cy c,cx (show s.1<=x by omega)];simp only [j6,ca,mE,iQ];by_cases b:s.2<x
   .rw [cx b,cy (show ¬x<=s.2 by omega)];rfl
   .rw [cy b,cx (show x<=s.2 by omega)];rfl
theorem SC(m:Sy.bw)(v:zj)(hm:Gr m.2.1 m.2.2.2.2)(hn:v.length=m.2.1.length)(k:Int)(e:Sy.aT)(hk:idx m.2.2.2.2 k=some e)(a:e∈m.2.2.2.2):
  ∀(r pre:List (Int×Ex)),e.2.2=pre++r->∀(w:zj) (M:Nat),w.length=v.length->r.length<M->
   aj (la m v k) M (w,(pre.length:Int))=some (fin m.2.1 (r.foldl (Mu v) w))
 |[],pre,h,w,M,hw,hM=>by
  obtain ⟨n,rfl⟩:∃n,M=n+1:=⟨M-1,by simp at hM;omega⟩;rw [ao];have i:v.length<1000:=by have:=hm.dT;omega
  simp only [la,hk,ah,Sy.uB h,b7,List.foldl_nil,fin];exact Xp m w (by omega) (by omega) w [] m.2.1 [] rfl rfl rfl (by omega) au (by show _<2^64;omega)
 |s::r,pre,h,w,M,hw,hM=>by
  obtain ⟨n,rfl⟩:∃n,M=n+1:=⟨M-1,by omega⟩;rw [ao];have b:s∈e.2.2:=by rw [h];simp
  obtain ⟨g,o,l⟩:=(hm.sets e a).2 s b;obtain ⟨f,d⟩:=hm.rsets e a s b;have j:=(hm.sets e a).1;have c:pre.length+r.length+1=e.2.2.length:=by rw [h];simp;omega
  obtain ⟨x,hx,_⟩:=sf w s.1 g (by omega);have ih:=SC m v hm hn k e hk a r (pre++[s]) (by rw [h];simp) (Mu v w s) n (by rw [Rr,hw]) (by simp at hM;omega);rw [show ((pre++[s]).length:Int)=((pre.length+1:Nat):Int) by simp] at ih;simp only [la,hk,ah,Sy.uz h,ca,Sy.lR h];rw [Qw v s.2 (by omega) f (.inl d)];simp only [ah,hx,Pa.bR (show pre.length<4611686018427387904 by omega)];exact ih
theorem ajW{m:Sy.bw}(hm:Gr m.2.1 m.2.2.2.2)(hn:v.length=m.2.1.length)(k:Int):oI m v k=some (Oe m.2.1 m.2.2.2.2 v k):=by
 have e:v.length<1000:=by have:=hm.dT;omega
 unfold oI;simp only [aM];unfold Oe;by_cases hk:k<0\/(m.2.2.2.2.length:Int)<=k
 .rw [du hk];rw [show (decide (k<0)||decide ((List.length m.2.2.2.2:Int)<=k))=true by rw [e9,eY,eY];exact hk,ca]
 .rw [dk hk];rw [show (decide (k<0)||decide ((List.length m.2.2.2.2:Int)<=k))=false by rw [qe];intro h;rw [e9,eY,eY] at h;exact hk h,b7];obtain ⟨c,d,b⟩:=sf m.2.2.2.2 k (by omega) (by omega);rw [Sy.aP (Sy.dv (by simp;omega) (by simp;omega)),o5];have a:c∈m.2.2.2.2:=fe b;have:=SC m v hm hn k c d a c.2.2 [] rfl v au rfl (by have:=(hm.sets c a).1;show _<2^64;omega);rw [show (0:Int)=((([]:List (Int×Ex)).length:Nat):Int) from rfl,this];unfold fk;rw [b];rfl
theorem abV(m:Sy.bw)(v:zj)(hm:Gr m.2.1 m.2.2.2.2):∀(r pre:List Sy.aT),m.2.2.2.2=pre++r->∀(out:zj) (M:Nat),out.length<=pre.length->r.length<M->
  aj (jq m v) M (out,(pre.length:Int))=some (out++mW v pre.length r)
 |[],pre,h,out,M,b,hM=>by
  obtain ⟨k,rfl⟩:∃k,M=k+1:=⟨M-1,by simp at hM;omega⟩;rw [ao];simp only [jq,Sy.uB h,b7,mW,j5]
 |c::r,pre,h,out,M,b,hM=>by
  obtain ⟨k,rfl⟩:∃k,M=k+1:=⟨M-1,by omega⟩;rw [ao];have d:pre.length+r.length+1=m.2.2.2.2.length:=by rw [h];simp;omega
  have i:=hm.cmds;have g:=hm.guard c (by rw [h];simp);obtain ⟨f,e⟩:=hm.rguard c (by rw [h];simp);simp only [jq,Sy.uz h,ca,Sy.lR h,ah];rw [Qw v c.2.1 (by omega) f (.inr e),ah];have ih:=λout b=>abV m v hm r (pre++[c]) (by rw [h];simp) out k b (by simp at hM;omega);rw [show ((pre++[c]).length:Int)=((pre.length+1:Nat):Int) by simp,show (pre++[c]).length=pre.length+1 by simp] at ih;simp only [Pa.bR (show pre.length<4611686018427387904 by omega),mW];by_cases a:ev v c.2.1=1
  .rw [du a,show (ev v c.2.1==1)=true by simpa using a,ca,Sy.aP (Sy.dv (by simp;omega) (by simp;omega)),ih _ (by simp;omega),cb];rfl
  .rw [dk a,show (ev v c.2.1==1)=false by simpa using a,b7,ih _ (by omega)]
theorem aqM{m:Sy.bw}(hm:Gr m.2.1 m.2.2.2.2):p7 m v=some (mW v 0 m.2.2.2.2):=
 abV m v hm m.2.2.2.2 [] rfl [] au (cH _) (by have:=hm.cmds;show _<2^64;omega)
theorem Dt{l:wy}:(It v 0 l<0->ik l v=l++[v])/\(¬It v 0 l<0->ik l v=l):=by
 unfold ik;constructor
 .intro h;rw [NW] at h;rw [dk (by simpa using h)]
 .intro h;rw [NW] at h;rw [du (by simpa using h)]
theorem RY(m:Sy.bw)(v:zj)(hm:Gr m.2.1 m.2.2.2.2)(hn:v.length=m.2.1.length)(L:zj)(n:∀i∈L,0<=i/\i<m.2.2.2.2.length)(g:L.length<=300):
  ∀(r pre:zj),L=pre++r->∀(l:wy) (M:Nat),(∀w∈l,s8 m.2.1 w)->l.length<=pre.length->r.length<M->
   aj (kX m v L) M (l,(pre.length:Int))=some (bif (r.map (fk m.2.2.2.2 v)).all (fits m.2.1) then (dh l (r.map (fk m.2.2.2.2 v)),0) else ([],6))
 |[],pre,h,l,M,hs,hl,hM=>by
  obtain ⟨k,rfl⟩:∃k,M=k+1:=⟨M-1,by simp at hM;omega⟩;rw [ao];simp only [kX,Sy.uB h,b7];rfl
 |i::r,pre,h,l,M,hs,hl,hM=>by
  obtain ⟨k,rfl⟩:∃k,M=k+1:=⟨M-1,by omega⟩;rw [ao];have j:pre.length+r.length+1=L.length:=by rw [h];simp;omega
  obtain ⟨e,d⟩:=n i (by rw [h];simp);simp only [kX,Sy.uz h,ca,Sy.lR h,ah];rw [ajW hm hn i];unfold Oe;rw [dk (by omega),ah];unfold fin;rw [eT,qm];obtain ⟨c,_,q⟩:=sf m.2.2.2.2 i e d;have f:(fk m.2.2.2.2 v i).length=m.2.1.length:=by unfold fk;rw [q,<-hn];exact MZ v c
  cases p:fits m.2.1 (fk m.2.2.2.2 v i)
  .rfl
  .have b:s8 m.2.1 (fk m.2.2.2.2 v i):=⟨f,p⟩;simp only [ca,iQ];rw [show ((0:Int) != 0)=false from rfl,b7,wJ l _ (by omega) (λw a=>(hs w a).short hm.toSafeS),ah];have o:=EY l (fk m.2.2.2.2 v i);have ih:=RY m v hm hn L n g r (pre++[i]) (by rw [h];simp) (ik l (fk m.2.2.2.2 v i)) k (λw a=>by
    rcases ZU.1 a with h|h
    .exact hs w h
    .rw [h];exact b) (by simp;omega) (by simp at hM;omega)
   rw [show ((pre++[i]).length:Int)=((pre.length+1:Nat):Int) by simp] at ih;simp only [Pa.bR (show pre.length<4611686018427387904 by omega),List.foldl_cons,dh] at ih ⊢;by_cases hp:It (fk m.2.2.2.2 v i) 0 l<0
   .rw [cx hp,ca,Sy.aP (Sy.dv (by simp;omega) (by simp;omega)),<-Dt.1 hp];exact ih
   .rw [cy hp,b7];rw [Dt.2 hp] at ih ⊢;exact ih
theorem amT{m:Sy.bw}(hm:Gr m.2.1 m.2.2.2.2)(g:s8 m.2.1 v):ob m v=some (fL m.2.1 m.2.2.2.2 v):=by
 have b:=I0 v m.2.2.2.2 0;have d:(mW v 0 m.2.2.2.2).length<=300:=by rw [I0];have:=qS (λc:Sy.aT=>decide (ev v c.2.1=1)) m.2.2.2.2;have:=hm.cmds;unfold enC;omega
 have a:(mW v 0 m.2.2.2.2).map (fk m.2.2.2.2 v)=goes v m.2.2.2.2:=UD v m.2.2.2.2 m.2.2.2.2 [] rfl;have j:=RY m v hm g.len (mW v 0 m.2.2.2.2) (λi hi=>ah1 hi) d (mW v 0 m.2.2.2.2) [] rfl [] au (λw k=>by cases k) (cH _) (by show _<2^64;omega);rw [a,show ((([]:zj).length:Nat):Int)=0 from rfl] at j;unfold ob;rw [aqM hm,ah,j,o5,Sy.aP (Sy.dv (by have:=g.short hm.toSafeS;simp;omega) (by have:=g.short hm.toSafeS;simp;omega))];unfold fL SN;by_cases f:goes v m.2.2.2.2=[]
 .have h:(mW v 0 m.2.2.2.2).length=0:=by rw [b];unfold goes at f;have:=congrArg List.length f;simpa using this
  rw [du f,show ((List.length (mW v 0 m.2.2.2.2):Int)==0)=true by rw [h];rfl,ca]
 .have h:(mW v 0 m.2.2.2.2).length≠0:=by rw [b];intro e;apply f;unfold goes;rw [er e];rfl
  rw [dk f,show ((List.length (mW v 0 m.2.2.2.2):Int)==0)=false by simp;simpa using h,b7]
end Sp
mutual
def ht:Ex->Nat
 | .mk _ _ _ l=>htL l+1
def htL:List Ex->Nat
 |[]=>0
 |x::r=>max (ht x) (htL r)
end
theorem arT(e:Ex):ht e=htL e.l+1:=by cases e;simp only [ht,Ex.l]
theorem RK(k:Ex×Int->zb)(e:Ex)(most:Int)(hm: -1000<=most/\most<=1000)(hk:∀x∈e.l,∀m:Int,-1001<=m->m<=1000->∃d:Int,k (x,m)=some d/\1<=d/\d<=x.sz/\(d<m->(ht x:Int)<=d))(hl:e.sz<4611686018427387904):
  ∀(r pre:List Ex),e.l=pre++r->∀(M:Nat) (d:Int),1<=d->d<=e.sz->r.length<M->∃v:Int,aj (bV k e most) M (d,(pre.length:Int))=some v/\d<=v/\v<=e.sz/\(v<most->(htL r:Int)+1<=v)
 |[],pre,h,M,d,h1,h2,hM=>by
  obtain ⟨m,rfl⟩:∃m,M=m+1:=⟨M-1,by simp at hM;omega⟩;rw [ao];simp only [bV,vw h,aM,oi,b7];exact ⟨_,rfl,pF _,h2,λ_=>by simp only [htL];omega⟩
 |x::r,pre,h,M,d,h1,h2,hM=>by
  obtain ⟨m,rfl⟩:∃m,M=m+1:=⟨M-1,by omega⟩;rw [ao];have u:IntKind.i64.wrap (most-1)=most-1:=bG (by omega);have a:x∈e.l:=by rw [h];simp
  have q:=lU a;obtain ⟨g,hx,t,s,b⟩:=hk x a (most-1) (by omega) (by omega);have w:=x5 e;have c:pre.length<4611686018427387904:=by have n:=congrArg List.length h;simp at n;omega
  have ih:=λd=>RK k e most hm hk hl r (pre++[x]) (by rw [h];simp) m d;rw [show ((pre++[x]).length:Int)=((pre.length+1:Nat):Int) by simp] at ih;simp only [bV,kN h,aM,iQ];cases j:decide (1<most)
  .simp only [b7];refine ⟨_,rfl,pF _,h2,λf=>?_⟩;simp only [qi] at j;omega
  .have i:IntKind.i64.wrap (1+g)=1+g:=bG (by omega);simp only [ca,n8 h,ah,u,hx,mI c,i];cases hd:decide (d<1+g)
   .simp only [b7];simp only [qi] at hd;obtain ⟨v,o,p,e3,e4⟩:=ih d h1 h2 (by simp at hM;omega);refine ⟨v,o,p,e3,λf=>?_⟩;have:=e4 f;have:=b (by omega);simp only [htL];omega
   .simp only [ca];simp only [eY] at hd;obtain ⟨v,o,p,e3,e4⟩:=ih (1+g) (by omega) (by omega) (by simp at hM;omega);refine ⟨v,o,by omega,e3,λf=>?_⟩;have:=e4 f;have:=b (by omega);simp only [htL];omega
theorem akA:∀(N:Nat) (e:Ex) (most:Int),e.sz<=N->e.sz<4611686018427387904-> -1000<=most->most<=1000->∃d:Int,aj (λk (s:Ex×Int)=>jk k s.1 s.2) N (e,most)=some d/\1<=d/\d<=e.sz/\(d<most->(ht e:Int)<=d):=by
 intro N
 induction N with
 |zero=>intro e _ h;have:=oR e;omega
 |succ N ih=>
  intro e most h hb i g;rw [ao];show ∃d:Int,aj (bV _ e most) au (1,0)=some d/\_;have hl:=x5 e;have hp:=oR e;by_cases hm:most= -1000
  . -- none is asked
   refine ⟨1,?_,pF _,by omega,by omega⟩;rw [show au=18446744073709551615+1 from rfl,ao];simp only [bV,aM,hm,show decide ((1:Int)< -1000)=false from rfl,qP,b7]
  obtain ⟨v,n,j,e3,e4⟩:=RK (aj (λk (s:Ex×Int)=>jk k s.1 s.2) N) e most ⟨i,g⟩ (λx hx m f a=>by
   by_cases c:m< -1000
   .obtain rfl:m= -1001:=by omega
    refine ⟨1,?_,pF _,by have:=oR x;omega,by omega⟩;obtain ⟨K,rfl⟩:∃K,N=K+1:=⟨N-1,by have:=lU hx;have:=oR x;omega⟩;rw [ao];show aj (bV _ x (-1001)) au (1,0)=some 1;rw [show au=18446744073709551615+1 from rfl,ao];simp only [bV,aM,show decide ((1:Int)< -1001)=false from rfl,qP,b7]
   .exact ih x m (by have:=lU hx;omega) (by have:=lU hx;omega) (by omega) a) hb e.l [] rfl au 1 (pF _) (by omega) (by show e.l.length<2^64;omega)
  exact ⟨v,n,j,e3,λb=>by rw [arT];have:=e4 b;omega⟩
theorem akX(e:Ex)(h:e.sz<4611686018427387904){most:Int}(b: -1000<=most)(a:most<=1000):∃d:Int,kS e most=some d/\1<=d/\d<=e.sz/\(d<most->(ht e:Int)<=d):=akA au e most (by show e.sz<=2^64;omega) h b a
theorem SY(k:Ex×Int->zb)(e:Ex)(most:Int)(hk:∀x∈e.l,∃d:Int,k (x,most)=some d/\1<=d/\d<=x.sz/\(d<most->d=x.sz))(hl:e.sz<4611686018427387904):
  ∀(r pre:List Ex),e.l=pre++r->∀(M:Nat) (d:Int),1<=d->d+w7 r<=e.sz->r.length<M->∃v:Int,aj (cS k e most) M (d,(pre.length:Int))=some v/\d<=v/\v<=d+w7 r/\(v<most->v=d+w7 r)
 |[],pre,h,M,d,h1,h2,hM=>by
  obtain ⟨m,rfl⟩:∃m,M=m+1:=⟨M-1,by simp at hM;omega⟩;rw [ao];simp only [cS,vw h,aM,oi,b7];exact ⟨_,rfl,pF _,by simp only [w7];omega,λ_=>by simp only [w7];omega⟩
 |x::r,pre,h,M,d,h1,h2,hM=>by
  obtain ⟨m,rfl⟩:∃m,M=m+1:=⟨M-1,by omega⟩;rw [ao];obtain ⟨i,hx,o,n,b⟩:=hk x (by rw [h];simp);have p:=x5 e;have a:pre.length<4611686018427387904:=by have g:=congrArg List.length h;simp at g;omega
  have ih:=λd=>SY k e most hk hl r (pre++[x]) (by rw [h];simp) m d;rw [show ((pre++[x]).length:Int)=((pre.length+1:Nat):Int) by simp] at ih;simp only [w7] at h2 ⊢;simp only [cS,kN h,aM,iQ];cases f:decide (d<most)
  .simp only [b7];refine ⟨_,rfl,pF _,by omega,λj=>?_⟩;simp only [qi] at f;omega
  .have c:IntKind.i64.wrap (d+i)=d+i:=bG (by omega);simp only [ca,n8 h,ah,hx,mI a,c];obtain ⟨v,q,s,e3,e4⟩:=ih (d+i) (by omega) (by omega) (by simp at hM;omega);refine ⟨v,q,by omega,by omega,λj=>?_⟩;have:=e4 j;have:=b (by omega);omega
theorem akD:∀(N:Nat) (e:Ex) (most:Int),e.sz<=N->e.sz<4611686018427387904->∃d:Int,aj (λk (s:Ex×Int)=>jr k s.1 s.2) N (e,most)=some d/\1<=d/\d<=e.sz/\(d<most->d=e.sz):=by
 intro N
 induction N with
 |zero=>intro e _ h;have:=oR e;omega
 |succ N ih=>
  intro e most h hb;rw [ao];show ∃d:Int,aj (cS _ e most) au (1,0)=some d/\_;have hl:=x5 e;have f:=Ex.ahf e;obtain ⟨v,c,b,e3,e4⟩:=SY (aj (λk (s:Ex×Int)=>jr k s.1 s.2) N) e most (λx hx=>ih x most (by have:=lU hx;omega) (by have:=lU hx;omega)) hb e.l [] rfl au 1 (pF _) (by omega) (by show e.l.length<2^64;omega);exact ⟨v,c,b,by omega,λa=>by have:=e4 a;omega⟩
theorem alJ(e:Ex)(h:e.sz<4611686018427387904)(most:Int):∃d:Int,kL e most=some d/\1<=d/\d<=e.sz/\(d<most->d=e.sz):=akD au e most (by show e.sz<=2^64;omega) h
theorem ajO{e:Ex}(h:e.sz<4611686018427387904)(a:cB e=some true):ht e<=44/\e.sz<=299:=by
 obtain ⟨d,d1,d2,g,b⟩:=akX e h (most:=45) (by omega) (by omega);obtain ⟨m,m1,f,c,m4⟩:=alJ e h 300;unfold cB at a;rw [d1,m1] at a;have:(decide (d<45)&&decide (m<300))=true:=by injection a
 simp only [ar,eY] at this;have:=b this.1;have:=m4 (by omega);omega
theorem aaj(k:Ex×Int->x3)(e:Ex)(a:Int)(hk:∀x∈e.l,k (x,a)=some (fp a x))(hl:e.l.length<4611686018427387904):
  ∀(r pre:List Ex),e.l=pre++r->∀(M:Nat),r.length<M->aj (jj k e a (e.l.length:Int)) M (pre.length:Int)=some (vo a r)
 |[],pre,h,M,hM=>by
  obtain ⟨m,rfl⟩:∃m,M=m+1:=⟨M-1,by simp at hM;omega⟩;rw [ao];simp only [jj,vw h,b7,vo]
 |x::r,pre,h,M,hM=>by
  obtain ⟨m,rfl⟩:∃m,M=m+1:=⟨M-1,by omega⟩;rw [ao];have hx:=hk x (by rw [h];simp);have b:pre.length<4611686018427387904:=by rw [h] at hl;simp at hl;omega
  have ih:=aaj k e a hk hl r (pre++[x]) (by rw [h];simp) m (by simp at hM;omega);rw [show ((pre++[x]).length:Int)=((pre.length+1:Nat):Int) by simp] at ih;simp only [jj,kN h,ca,n8 h,ah,hx,mI b,vo];cases fp a x
  .rfl
  .simp only [qf,b7,iQ];exact ih
theorem arj(k:Ex×Int->x3)(e:Ex)(a b:Int)(hk:∀x∈e.l,k (x,a)=some (fp a x))(hl:e.l.length<4611686018427387904):
  mh k e a b=some (vr e.op e.n (e.l.length:Int) b a&&vo a e.l):=by
 have c:((e.l.length:Int) != b)=false->aj (jj k e a b) au 0=some (vo a e.l):=λd=>by
  have d:(e.l.length:Int)=b:=by simpa using d
  rw [<-d];exact aaj k e a hk hl e.l [] rfl au (by show e.l.length<2^64;omega)
 unfold mh vr;simp only [aM];generalize decide (e.op<1)=c1;generalize decide (24<e.op)=g;generalize ((e.l.length:Int) != b)=c3 at*;generalize ((e.op==1)&&(decide (e.n<0)||decide (1073741824<e.n))||(e.op==2)&&(decide (e.n<0)||decide (a<=e.n))||decide (2<e.op)&&e.n != 0)=f;cases c1 <;> cases g <;> cases c3 <;> cases f <;> first|exact c rfl|rfl
theorem arO(k:Ex×Int->x3)(e:Ex)(a:Int):ig k e a=mh k e a (oD e.op):=by
 unfold ig rX yO oD;generalize (e.op==1)=c1;generalize (e.op==2)=j;generalize (e.op==13)=i;generalize (e.op==14)=h;generalize (e.op==6)=g;generalize (e.op==15)=f;generalize (e.op==20)=d;generalize (e.op==21)=c;generalize (e.op==22)=b;cases c1
 .cases j
  .cases i
   .cases h
    .cases g
     .cases f
      .cases d
       .cases c
        .cases b <;> rfl
        .rfl
       .rfl
      .rfl
     .rfl
    .rfl
   .rfl
  .rfl
 .rfl
theorem alp:∀(N:Nat) (e:Ex) (a:Int),e.sz<=N->e.sz<4611686018427387904->aj (λk (s:Ex×Int)=>ig k s.1 s.2) N (e,a)=some (fp a e):=by
 intro N
 induction N with
 |zero=>intro e _ h;have:=oR e;omega
 |succ N ih=>
  intro e a h hb;rw [ao];show ig _ e a=_;have hl:=x5 e;rw [arO,arj _ e a _ (λx hx=>ih x a (by have:=lU hx;omega) (by have:=lU hx;omega)) (by omega),We]
theorem ap5(e:Ex)(h:e.sz<4611686018427387904)(a:Int):pG e a=some (fp a e):=alp au e a (by show e.sz<=2^64;omega) h
namespace Ns
theorem pK{σ ρ:Type}{F:(σ->Option ρ)->σ->Option ρ}(f:Nat->σ)(P:Nat->Prop)(R:Option ρ->Prop)(n:Nat)(hn:n<9223372036854775807)
  (e:∀i,i<n->(∀j,j<i->P j)->∀k,R (F k (f i))\/(P i/\F k (f i)=k (f (i+1)))) (h:(∀j,j<n->P j)->∀k,R (F k (f n))):R (aj F au (f 0)):=by
 have key:∀(d i m:Nat),i+d=n->d<m->(∀j,j<i->P j)->R (aj F m (f i)):=λd=>by
  induction d with
  |zero=>
   intro i m c b a;obtain ⟨m,rfl⟩:∃q,m=q+1:=⟨m-1,by omega⟩;grind [ao]
  |succ d ih=>
   intro i m c b a;obtain ⟨m,rfl⟩:∃q,m=q+1:=⟨m-1,by omega⟩;rw [ao];grind
 exact key n 0 au (by omega) (by show n<2^64;omega) (λj g=>by omega)
theorem bP{α:Type}{l:List α}{i:Nat}(h:i<l.length):idx l (i:Int)=some l[i]:=by simp_all [idx]
def A0(Q:Prop)(x:x3):Prop:= ∃b,x=some b/\(b=true->Q)
theorem tz{Q:Prop}:A0 Q (some false):=⟨false,rfl,λh=>by cases h⟩
theorem Nl{l:V}(hl:l.length<=1048576)(n:Int):A0 (∀q∈l,0<=q/\q<n) (fc l n):=by
 refine pK (λi=>(i:Int)) (λi=>∀q,l[i]? =some q->0<=q/\q<n) _ l.length (by omega) (λi hi _ k=>?_) (λh k=>?_)
 .unfold nQ;simp [So.aM];rw [cx (by omega),ca,bP hi,So.ah];by_cases a:l[i]<0
  .refine .inl ?_;rw [cx a];exact tz
  .rw [cy a];show A0 _ ((some l[i]).bind _)\/_/\(some l[i]).bind _=_;grind [So.ah,decide_eq_true,tz,List.getElem?_eq_getElem,decide_eq_false,Pa.bR]
 .unfold nQ;rw [cy (by omega),b7];exact ⟨true,rfl,λ_ q b=>by grind [List.mem_iff_getElem?,List.getElem?_eq_some_iff]⟩
structure Ud(a:Au):Prop where
 l0:a.1.length<=1048576
 l1:∀l∈a.1,l.length<=1048576/\∀e∈l,e.sz<=1048576
 n0:a.2.1.length<=1048576
 n1:∀l∈a.2.1,l.length<=1048576
 i0:a.2.2.1.length<=1048576
 c0:a.2.2.2.length<=1048576
 c1:∀l∈a.2.2.2,l.length<=1048576
theorem aq4(e:Ex)(h:e.sz<=1048576):lP e=some ((rt e).2.1==0&&(rt e).1==2):=by unfold lP;rw [show dQ e=some (rt e) from Ub au e (by show e.sz<=2^64;omega) (by omega),So.ah];rfl
theorem amo{a:Au}(hb:Ud a):A0 ((∀q∈a.2.2.1,0<=q/\q<(a.1.length:Int))/\a.2.1.length=a.1.length/\(∀l∈a.2.1,∀q∈l,0<=q/\q<(a.1.length:Int))/\(∀l∈a.1,∀e∈l,(rt e).1=2)) (nC a):=by
 unfold nC;obtain ⟨b,s,r⟩:=Nl hb.i0 (a.1.length);rw [s,So.ah];simp [So.aM];cases b with
 |false=>exact tz
 |true=>
  by_cases hl:a.2.1.length=a.1.length
  .rw [show ((a.2.1.length:Int) != (a.1.length))=false by rw [hl];simp];show A0 _ (aj (kF a) au 0);refine pK (λi=>(i:Int)) (λi=>(∀l,a.2.1[i]? =some l->∀q∈l,0<=q/\q<(a.1.length))/\∀l,a.1[i]? =some l->∀e∈l,(rt e).1=2) _ a.1.length (by have:=hb.l0;omega) (λi hi _ k=>?_) (λh k=>?_)
   .have d:i<a.2.1.length:=by omega
    unfold kF;rw [cx (by omega),ca,bP d,So.ah];obtain ⟨u,n,p⟩:=Nl (hb.n1 _ (de d)) (a.1.length);rw [n,So.ah];cases u with
    |false=>exact .inl tz
    |true=>
     have hx:=hb.l1 _ (de hi);refine pK (F:=kC a (i) k) (λj=>(j)) (λj=>∀e,a.1[i][j]? =some e->(rt e).1=2) (λx=>A0 _ x\/_/\x=k ((i+1:Nat))) a.1[i].length (by omega) (λj c _ g=>?_) (λh g=>?_)
     .unfold kC;rw [bP hi,So.ah,cx (by omega),ca,So.ah,bP c,So.ah,aq4 _ (hx.2 _ (de c)),So.ah];cases o:((rt a.1[i][j]).2.1==0&&(rt a.1[i][j]).1==2) with
      |false=>exact .inl (.inl tz)
      |true=>
       refine .inr ⟨λe f=>?_,?_⟩
       .rw [b9 c] at f;cases f;simp at o;exact o.2
       .rw [Pa.bR (by omega)];rfl
     .unfold kC;rw [bP hi,So.ah,cy (by omega),b7,Pa.bR (by have:=hb.l0;omega)];refine .inr ⟨⟨λl hl=>?_,λl hl=>?_⟩,rfl⟩
      .rw [b9 d] at hl;cases hl;exact p rfl
      .rw [b9 hi] at hl;cases hl;exact λe f=>by
        obtain ⟨j,c⟩:=List.mem_iff_getElem?.1 f;exact h j (List.getElem?_eq_some_iff.1 c).1 e c
   .unfold kF;rw [cy (by omega),b7];refine pK (F:=iq a) (λj=>(j)) (λ_=>True) _ a.2.2.2.length (by have:=hb.c0;omega) (λj c _ g=>?_) (λ_ g=>?_)
    .unfold iq;rw [cx (by omega),ca,bP c,So.ah];obtain ⟨t,n,p⟩:=Nl (hb.c1 _ (de c)) (a.1.length);rw [n,So.ah];cases t with
     |false=>exact .inl tz
     |true=>exact .inr ⟨trivial,by have:=hb.c0;rw [Pa.bR (by omega)];rfl⟩
    .unfold iq;rw [cy (by omega),b7];refine ⟨true,rfl,λ_=>⟨r rfl,hl,λl m=>?_,λl m=>?_⟩⟩
     .grind [List.mem_iff_getElem?,List.getElem?_eq_some_iff]
     grind [List.mem_iff_getElem?,List.getElem?_eq_some_iff]
  .rw [show ((a.2.1.length:Int) != (a.1.length))=true by simp;omega,Bool.or_true];exact tz
end Ns
theorem Wr(k:Ex×Int->zb)(e:Ex)(most:Int)(hk:∀x∈e.l,∀m,∃d,k (x,m)=some d)(hl:e.l.length<4611686018427387904):
  ∀(r pre:List Ex),e.l=pre++r->∀(M:Nat) (d:Int),r.length<M->∃v,aj (bV k e most) M (d,(pre.length:Int))=some v
 |[],pre,h,M,d,hM=>by
  obtain ⟨m,rfl⟩:∃m,M=m+1:=⟨M-1,by simp at hM;omega⟩;rw [ao];simp only [bV,vw h,aM,oi,b7];exact ⟨_,rfl⟩
 |x::r,pre,h,M,d,hM=>by
  obtain ⟨m,rfl⟩:∃m,M=m+1:=⟨M-1,by omega⟩;rw [ao];obtain ⟨b,hx⟩:=hk x (by rw [h];simp) (IntKind.i64.wrap (most-1));have a:pre.length<4611686018427387904:=by rw [h] at hl;simp at hl;omega
  have ih:=λd=>Wr k e most hk hl r (pre++[x]) (by rw [h];simp) m d (by simp at hM;omega);rw [show ((pre++[x]).length:Int)=((pre.length+1:Nat):Int) by simp] at ih;simp only [bV,kN h,aM,iQ];cases decide (1<most)
  .simp only [b7];exact ⟨_,rfl⟩
  .simp only [ca,n8 h,ah,hx,mI a];cases decide (d<IntKind.i64.wrap (1+b))
   .simp only [b7];exact ih _
   .simp only [ca];exact ih _
theorem ahG:∀(N:Nat) (e:Ex) (most:Int),e.sz<=N->e.sz<4611686018427387904->∃d,aj (λk (s:Ex×Int)=>jk k s.1 s.2) N (e,most)=some d:=by
 intro N
 induction N with
 |zero=>intro e _ h;have:=oR e;omega
 |succ N ih=>
  intro e most h hb;rw [ao];show ∃d,aj (bV _ e most) au (1,0)=some d;have hl:=x5 e;exact Wr _ e most (λx hx m=>ih x m (by have:=lU hx;omega) (by have:=lU hx;omega)) (by omega) e.l [] rfl au 1 (by show e.l.length<2^64;omega)
theorem W7(k:Ex×Int->zb)(e:Ex)(most:Int)(hk:∀x∈e.l,∀m,∃d,k (x,m)=some d)(hl:e.l.length<4611686018427387904):
  ∀(r pre:List Ex),e.l=pre++r->∀(M:Nat) (d:Int),r.length<M->∃v,aj (cS k e most) M (d,(pre.length:Int))=some v
 |[],pre,h,M,d,hM=>by
  obtain ⟨m,rfl⟩:∃m,M=m+1:=⟨M-1,by simp at hM;omega⟩;rw [ao];simp only [cS,vw h,aM,oi,b7];exact ⟨_,rfl⟩
 |x::r,pre,h,M,d,hM=>by
  obtain ⟨m,rfl⟩:∃m,M=m+1:=⟨M-1,by omega⟩;rw [ao];obtain ⟨b,hx⟩:=hk x (by rw [h];simp) most;have a:pre.length<4611686018427387904:=by rw [h] at hl;simp at hl;omega
  have ih:=λd=>W7 k e most hk hl r (pre++[x]) (by rw [h];simp) m d (by simp at hM;omega);rw [show ((pre++[x]).length:Int)=((pre.length+1:Nat):Int) by simp] at ih;simp only [cS,kN h,aM,iQ];cases decide (d<most)
  .simp only [b7];exact ⟨_,rfl⟩
  .simp only [ca,n8 h,ah,hx,mI a];exact ih _
theorem ajF:∀(N:Nat) (e:Ex) (most:Int),e.sz<=N->e.sz<4611686018427387904->∃d,aj (λk (s:Ex×Int)=>jr k s.1 s.2) N (e,most)=some d:=by
 intro N
 induction N with
 |zero=>intro e _ h;have:=oR e;omega
 |succ N ih=>
  intro e most h hb;rw [ao];show ∃d,aj (cS _ e most) au (1,0)=some d;have hl:=x5 e;exact W7 _ e most (λx hx m=>ih x m (by have:=lU hx;omega) (by have:=lU hx;omega)) (by omega) e.l [] rfl au 1 (by show e.l.length<2^64;omega)
theorem amb(e:Ex)(h:e.sz<4611686018427387904):∃b,cB e=some b:=by obtain ⟨d,hd⟩:=ahG au e 45 (by show e.sz<=2^64;omega) h;obtain ⟨m,hm⟩:=ajF au e 300 (by show e.sz<=2^64;omega) h;refine ⟨decide (d<45)&&decide (m<300),?_⟩;unfold cB kS kL;rw [hd,hm];rfl
namespace Ns
def dK{α:Type}:List (List α)->Nat
 |[]=>0
 |x::l=>x.length+dK l
theorem rz{α:Type}:∀{l:List (List α)} {i:Nat} (h:i<l.length),dK (l.take (i+1))=dK (l.take i)+l[i].length
 |x::l,0,_=>by simp [dK]
 |x::l,i+1,h=>by have:=rz (by simpa using h);grind [dK]
theorem JS{α:Type}{x:List α}:∀{l:List (List α)},x∈l->x.length<=dK l
 |y::l,h=>by
  unfold dK;rcases List.mem_cons.1 h with rfl|h
  .omega
  .have:=JS h;omega
theorem aqC{a:Au}(hb:Ud a){n:Nat}(hn:n<=100000000):A0 (n<4000/\dK a.1<4000/\(∀l∈a.1,∀e∈l,cB e=some true)/\a.1.length<=40) (aj (jo a 40) au ((n:Int),0)):=by
 have c:=hb.l0;refine pK (F:=jo a 40) (λi:Nat=>(((n+dK (a.1.take i):Nat)),(i))) (λi=>n+dK (a.1.take i)<4000/\∀l,a.1[i]? =some l->∀e∈l,cB e=some true) _ a.1.length (by omega) (λi hi _ k=>?_) (λh k=>?_)
 .unfold jo;simp [So.aM];rw [cx (by omega)];by_cases g:n+dK (a.1.take i)<4000
  .rw [cx (by omega),Bool.and_true,ca,bP hi,So.ah];have hx:=hb.l1 _ (de hi);refine pK (F:=lW a ((n+dK (a.1.take i):Nat)) (i) k a.1[i]) (λj=>(j)) (λj=>∀e,a.1[i][j]? =some e->cB e=some true) (λx=>A0 _ x\/_/\x=k (((n+dK (a.1.take (i+1)):Nat)),((i+1:Nat)))) a.1[i].length (by omega) (λj d _ b=>?_) (λh b=>?_)
   .unfold lW;rw [bP hi,So.ah,cx (by omega),ca,So.ah,bP d,So.ah];grind [amb,List.getElem_mem,So.ah,tz,List.getElem?_eq_getElem,Pa.bR]
   .unfold lW;rw [bP hi,So.ah,cy (by omega),b7,Pa.bR (by omega),rz hi];grind [List.getElem?_eq_getElem,List.mem_iff_getElem?,List.getElem?_eq_some_iff,bG]
  grind [decide_eq_false,dK,tz]
 .unfold jo;simp only [So.aM];rw [cy (by omega),oi,b7,qw];refine ⟨_,rfl,λf=>?_⟩;grind [List.mem_iff_getElem?,List.getElem?_eq_some_iff]
theorem ap7{a:Au}(hb:Ud a):A0 (dK a.2.1<4000/\dK a.2.2.2<4000/\a.2.2.1.length<4000/\dK a.1<4000/\(∀l∈a.1,∀e∈l,cB e=some true)/\a.1.length<=40) (pD a 40):=by
 unfold pD;have o:=hb.i0;have p:=hb.c0;have m:=hb.n0;rw [bG (by omega)];have s:((a.2.2.1.length:Int)+(a.2.2.2.length:Int),(0:Int))=(λi:Nat=>(((a.2.2.1.length+a.2.2.2.length+dK (a.2.1.take i):Nat):Int),(i:Int))) 0:=by simp [dK]
 rw [s];have two:∀n:Nat,n<=10000000->A0 (n<4000/\dK a.2.2.2<4000/\dK a.1<4000/\(∀l∈a.1,∀e∈l,cB e=some true)/\a.1.length<=40) (aj (ju a 40) au ((n:Int),0)):=λn hn=>by
  have r:((n:Int),(0:Int))=(λi:Nat=>(((n+dK (a.2.2.2.take i):Nat):Int),(i:Int))) 0:=by simp [dK]
  rw [r];refine pK (F:=ju a 40) (λi:Nat=>(((n+dK (a.2.2.2.take i):Nat):Int),(i:Int))) (λi=>n+dK (a.2.2.2.take i)<4000) _ a.2.2.2.length (by omega) (λi hi hp k=>?_) (λhp k=>?_)
  .have f:n+dK (a.2.2.2.take i)<=20000000:=by
    cases i with
    |zero=>simp [dK];omega
    |succ i=>
     have:=hp i (by omega);have d:=hb.c1 _ (de (l:=a.2.2.2) (n:=i) (by omega));rw [rz (by omega)];omega
   unfold ju;simp only [So.aM];rw [cx (show (i:Int)<(a.2.2.2.length:Int) by omega)];by_cases h:n+dK (a.2.2.2.take i)<4000
   .rw [cx (show ((n+dK (a.2.2.2.take i):Nat):Int)<4000 by omega),Bool.and_true,ca,bP hi,So.ah,Pa.bR (by omega)];have d:=hb.c1 _ (de hi);refine .inr ⟨h,?_⟩;rw [rz hi,bG (by omega)];congr 2;omega
   .rw [cy (show ¬((n+dK (a.2.2.2.take i):Nat):Int)<4000 by omega),qP,b7];obtain ⟨b,g,d⟩:=aqC hb (n:=n+dK (a.2.2.2.take i)) (by omega);exact .inl ⟨b,g,λc=>absurd (d c).1 h⟩
  .have f:n+dK a.2.2.2<=20000000:=by
    cases j:a.2.2.2.length with
    |zero=>rw [List.length_eq_zero_iff.1 j];simp [dK];omega
    |succ i=>
     have:=hp i (by omega);have d:=hb.c1 _ (de (l:=a.2.2.2) (n:=i) (by omega));have q:=rz (l:=a.2.2.2) (i:=i) (by omega);rw [<-j,qw] at q;omega
   unfold ju;simp only [So.aM];rw [cy (show ¬(a.2.2.2.length:Int)<(a.2.2.2.length:Int) by omega),oi,b7,qw];obtain ⟨b,g,d⟩:=aqC hb (n:=n+dK a.2.2.2) (by omega);exact ⟨b,g,λc=>⟨by have:=(d c).1;omega,by have:=(d c).1;omega,(d c).2⟩⟩
 refine pK (F:=lY a 40) (λi:Nat=>(((a.2.2.1.length+a.2.2.2.length+dK (a.2.1.take i):Nat)),(i))) (λi=>a.2.2.1.length+a.2.2.2.length+dK (a.2.1.take i)<4000) _ a.2.1.length (by omega) (λi hi hp k=>?_) (λhp k=>?_)
 .have f:a.2.2.1.length+a.2.2.2.length+dK (a.2.1.take i)<=4000000:=by
   cases i with
   |zero=>simp [dK];omega
   |succ i=>
    have:=hp i (by omega);have d:=hb.n1 _ (de (n:=i) (by omega));rw [rz (by omega)];omega
  unfold lY;simp [So.aM];rw [cx (by omega)];by_cases h:a.2.2.1.length+a.2.2.2.length+dK (a.2.1.take i)<4000
  .rw [cx (by omega),Bool.and_true,ca,bP hi,So.ah,Pa.bR (by omega)];have d:=hb.n1 _ (de hi);refine .inr ⟨h,?_⟩;rw [rz hi,bG (by omega)];congr 2;omega
  .rw [cy (by omega),qP,b7];obtain ⟨b,g,d⟩:=two _ (by omega:a.2.2.1.length+a.2.2.2.length+dK (a.2.1.take i)<=10000000);exact .inl ⟨b,g,λc=>absurd (d c).1 h⟩
 .have f:a.2.2.1.length+a.2.2.2.length+dK a.2.1<=4000000:=by
   cases j:a.2.1.length with
   |zero=>grind
   |succ i=>
    have d:=hb.n1 _ (de (n:=i) (by omega));grind [rz,List.take_length]
  unfold lY;simp only [So.aM];rw [cy (by omega),oi,b7,qw];obtain ⟨b,g,d⟩:=two _ (by omega:a.2.2.1.length+a.2.2.2.length+dK a.2.1<=10000000);exact ⟨b,g,λc=>⟨by grind,(d c).2.1,by grind,(d c).2.2⟩⟩
theorem amD{a:Au}(hb:Ud a)(b:Int):A0 (∀l∈a.1,∀e∈l,fp b e=true) (vk a b):=by
 have d:=hb.l0;refine pK (F:=mb a b) (λi=>(i)) (λi=>∀l,a.1[i]? =some l->∀e∈l,fp b e=true) _ a.1.length (by omega) (λi hi _ k=>?_) (λh k=>?_)
 .unfold mb;rw [cx (by omega),ca];have hx:=hb.l1 _ (de hi);refine pK (F:=mn a b (i) k) (λj=>(j)) (λj=>∀e,a.1[i][j]? =some e->fp b e=true) (λx=>A0 _ x\/_/\x=k ((i+1:Nat))) a.1[i].length (by omega) (λj f _ c=>?_) (λh c=>?_)
  .unfold mn;rw [bP hi,So.ah,cx (by omega),ca,So.ah,bP f,So.ah,ap5 _ (by grind),So.ah];grind [fp,tz,List.getElem?_eq_getElem,Pa.bR]
  .unfold mn;rw [bP hi,So.ah,cy (by omega),b7,Pa.bR (by omega)];grind [List.getElem?_eq_getElem,List.mem_iff_getElem?,List.getElem?_eq_some_iff]
 .unfold mb;rw [cy (by omega),b7];exact ⟨true,rfl,λ_ l hl=>by grind [List.mem_iff_getElem?,List.getElem?_eq_some_iff]⟩
theorem ajZ{m:bw}(hS:m.2.1.length<=1048576)(e:∀f∈m.2.1,0<=f.2-f.1/\f.2-f.1<=100000000/\ -2000000000<=f.1/\f.2<=2000000000):∃b,pj m 200=some b:=by
 have key:∀(d i M:Nat) (n:Int),i+d=m.2.1.length->d<M->0<=n->n<=100000000000->∃b,aj (fT m 200) M (n,(i))=some b:=λd=>by
  induction d with
  |zero=>
   intro i M n j h c g;obtain ⟨M,rfl⟩:∃q,M=q+1:=⟨M-1,by omega⟩;rw [ao];unfold fT;simp only [So.aM];rw [cy (by omega),oi,b7];exact ⟨_,rfl⟩
  |succ d ih=>
   intro i M n j h c g;obtain ⟨M,rfl⟩:∃q,M=q+1:=⟨M-1,by omega⟩;have hi:i<m.2.1.length:=by omega
   have o:=e _ (de hi);have a:=λn=>ih (i+1) M n (by omega) (by omega);rw [ao];generalize aj (fT m 200) M=k at a ⊢;unfold fT;simp only [So.aM];rw [cx (by omega),iQ];by_cases hn:n<=200
   .rw [cx hn,ca,bP hi,So.ah,So.ah,Pa.bR (by omega)];have l:IntKind.i64.wrap (IntKind.i64.wrap (m.2.1[i].2-m.2.1[i].1)+1)=m.2.1[i].2-m.2.1[i].1+1:=by grind [bG]
    have r:0<=n*(m.2.1[i].2-m.2.1[i].1+1):=Int.mul_nonneg c (by omega);have p:n*(m.2.1[i].2-m.2.1[i].1+1)<=200*100000001:=Int.mul_le_mul hn (by omega) (by omega) (by omega);rw [l,bG (by omega)];grind
   grind
 exact key m.2.1.length 0 au 1 (by omega) (by show m.2.1.length<2^64;omega) (by omega) (by omega)
end Ns
namespace Ns
open Sp
structure pb(m:bw)(a:Au):Prop where
 hm:Gr m.2.1 m.2.2.2.2
 hi:s8 m.2.1 m.2.2.1
 ha:Pd.va a a.1.length
 lit:∀l∈a.1,∀e∈l,fp (m.1.length:Int) e=true/\(rt e).1=2/\e.sz<1000000
 dT:Few a
variable {m : bw} {a : Au}
theorem arF(h:pb m a){q:Int}(g:0<=q/\q<(a.1.length:Int))(v:V):ur a q v=some (Pd.ox a q v):=by
 obtain ⟨i,rfl⟩:∃i:Nat,q=(i):=⟨q.toNat,by omega⟩;have hi:i<a.1.length:=by omega
 have hl:=(h.ha.row _ (de hi)).1;have c:Pd.ox a (i) v=a.1[i].all λe=>ev v e==1:=by grind [Pd.ox,Pd.YL]
 rw [c];refine pK (F:=lf a (i) v) (λj=>(j)) (λj=>∀e,a.1[i][j]? =some e->ev v e=1) (λx=>x=some (a.1[i].all λe=>ev v e==1)) a.1[i].length (by omega) (λj b _ k=>?_) (λl k=>?_)
 .unfold lf;obtain ⟨f,d,o⟩:=h.lit _ (de hi) _ (de b);rw [bP hi,So.ah,cx (by omega),ca,So.ah,bP b,So.ah,Qw v _ (by omega) f (.inr d),So.ah];by_cases n:ev v a.1[i][j]=1
  .grind [List.getElem?_eq_getElem,Pa.bR]
  grind
 .unfold lf;rw [bP hi,So.ah,cy (by omega),b7];grind [List.all_eq_true,List.mem_iff_getElem?,List.getElem?_eq_some_iff]
theorem ajH(v:V)(p q:zj):Pd.dR a v (p++q)=Pd.dR a v p++Pd.dR a v q:=by simp [Pd.dR]
theorem NX{A R:Type}{d:A}{x:Option A}{f:A->Option R}:bC true d x f=x.bind f:=rfl
theorem apl{A R:Type}{d:A}{x:Option A}{b:A->Bool}{p q:Option R}:(bC false d x λr=>ai (b r) λc=>ai (false&&c) λe=>bif e then p else q)=q:=rfl
theorem ank(h:pb m a){v:V}(p:v.length<1000000){qs:zj}(n:∀q∈qs,0<=q/\q<(a.1.length:Int))(j:qs.length<=5000){l:List V}(hl:l.length<=20000000)(g:∀w∈l,w.length<2000000):
  lT l a v qs=some (dh l (Pd.dR a v qs)):=by
 have c:∀i,(dh l (Pd.dR a v (qs.take i))).length<=l.length+i:=λi=>by grind [rO,Pd.dR,Pd.FY]
 have e:∀i,∀w∈dh l (Pd.dR a v (qs.take i)),w.length<2000000:=λi w b=>by
  rcases nb.1 b with d|d
  .exact g w d
  .obtain ⟨q,_,_,rfl⟩:=Pd.GG d;simp;omega
 refine pK (F:=jY a v qs) (λi=>(dh l (Pd.dR a v (qs.take i)),(i))) (λ_=>True) (λx=>x=some (dh l (Pd.dR a v qs))) qs.length (by omega) (λi hi _ k=> .inr ⟨trivial,?_⟩) (λ_ k=>?_)
 .unfold jY;dsimp only;have d:=c i;rw [cx (by omega),ca,bP hi,So.ah,Sy.aP (Sy.dv (by simp;omega) (by simp;omega)),Sy.aP (Sy.dv (by simp;omega) (by simp;omega)),So.ah,arF h (n _ (de hi)),So.ah,o5,Pa.bR (by omega)];rw [show qs.take (i+1)=qs.take i++[qs[i]] from ql hi,ajH,Pd.J8];cases f:Pd.ox a qs[i] v with
  |false=>
   have:Pd.dR a v [qs[i]]=[]:=by simp [Pd.dR,f]
   rw [this,show dh (dh l (Pd.dR a v (qs.take i))) []=dh l (Pd.dR a v (qs.take i)) from rfl];rw [apl]
  |true=>
   have o:Pd.dR a v [qs[i]]=[v++[qs[i]]]:=by simp [Pd.dR,f]
   rw [o];rw [NX,wJ _ _ (by omega) (λw b=>by grind),So.ah];simp only [So.aM,iQ];have hd:dh (dh l (Pd.dR a v (qs.take i))) [v++[qs[i]]]=ik (dh l (Pd.dR a v (qs.take i))) (v++[qs[i]]):=rfl;rw [hd];by_cases hp:It (v++[qs[i]]) 0 (dh l (Pd.dR a v (qs.take i)))<0
   .rw [cx hp,ca,Dt.1 hp,Sy.aP (Sy.dv (by simp;omega) (by simp;omega))]
   .rw [cy hp,b7,Dt.2 hp]
 simp_all [jY,b7]
theorem S6(h:pb m a){v:V}(b:s8 m.2.1 v):v.length<1000000:=by have d:=b.len;have c:=h.hm.dT;omega
theorem aqx(h:pb m a):kJ m a=some (vF m a):=by unfold kJ;have:=h.ha.init;rw [ank h (S6 h h.hi) this.2 this.1 (by simp) (λw b=>by cases b)];rfl
theorem SJ(h:pb m a){x:V}(hx:Pd.St m a.1.length x):x.length<1000001:=by obtain ⟨v,q,rfl,b,_⟩:=hx;grind [S6]
theorem aqQ(h:pb m a){x:V}(hx:Pd.St m a.1.length x):kP m a x=some (Pd.cC m a x):=by
 obtain ⟨v,q,rfl,g,A⟩:=hx;rw [Pd.Jt];have s:=S6 h g;unfold kP Pd.JD;have r:IntKind.i64.wrap ((List.length (v++[q]))-1)=(v.length):=by grind [bG]
 have y:aV (v++[q]) 0 (v.length)=v:=by unfold aV;simp
 rw [r,Sy.aP (by grind [cZ]),y,amT h.hm g,So.ah];have o:=Nb (S:=m.2.1) (cmds:=m.2.2.2.2) v;have t:=h.hm.cmds;by_cases n:(fL m.2.1 m.2.2.2.2 v).2=0
 .rw [du n,show ((fL m.2.1 m.2.2.2.2 v).2 != 0)=false by simp [n],b7];obtain ⟨i,rfl⟩:∃i:Nat,q=(i):=⟨q.toNat,by omega⟩;have hi:i<a.2.1.length:=by have:=h.ha.next;omega
  have l:Pd.vR a (i)=a.2.1[i]:=by grind [Pd.vR]
  have c:=h.ha.nxt _ (de hi);have f:∀w∈(fL m.2.1 m.2.2.2.2 v).1,w.length<1000000:=λw b=>S6 h (Rm g w b);have d:∀j,j<=(fL m.2.1 m.2.2.2.2 v).1.length->(dh [] (Pd.vX a a.2.1[i] ((fL m.2.1 m.2.2.2.2 v).1.take j))).length<=5000*j:=λj e=>by grind [rO,Pd.vX,fL,Pd.Nu,min]
  rw [l];refine pK (F:=kZ a (v++[(i:Int)]) (fL m.2.1 m.2.2.2.2 v)) (λj=>(dh [] (Pd.vX a a.2.1[i] ((fL m.2.1 m.2.2.2.2 v).1.take j)),(j))) (λ_=>True) (λx=>x=some (dh [] (Pd.vX a a.2.1[i] (fL m.2.1 m.2.2.2.2 v).1),0)) (fL m.2.1 m.2.2.2.2 v).1.length (by omega) (λj e _ k=> .inr ⟨trivial,?_⟩) (λ_ k=>?_)
  .unfold kZ;dsimp only;have e3:idx (v++[(i:Int)]) (v.length)=some (i:Int):=by grind [bP]
   rw [cx (by omega),ca,bP e,So.ah,r,e3,So.ah,bP hi,So.ah];have B:=d j (by omega);rw [ank h (f _ (de e)) c.2 c.1 (by omega) (λw b=>?_),So.ah,Pa.bR (by omega),show (fL m.2.1 m.2.2.2.2 v).1.take (j+1)=(fL m.2.1 m.2.2.2.2 v).1.take j++[(fL m.2.1 m.2.2.2.2 v).1[j]] from ql e]
   .grind [Pd.vX,Pd.J8]
   .rcases nb.1 b with b|b
    .cases b
    .obtain ⟨u,z,b⟩:=List.mem_flatMap.1 b;obtain ⟨p,_,_,rfl⟩:=Pd.GG b;grind
  simp_all [kZ,b7]
 grind
end Ns
namespace Ns
open Sp
variable {m : bw} {a : Au}
structure asQ(m:bw)(a:Au)(Us:List V):Prop where
 st:∀x∈Us,Pd.St m a.1.length x
 vF:∀x∈vF m a,x∈Us
 code:∀x∈Us,(Pd.cC m a x).2=0
 next:∀x∈Us,∀y∈(Pd.cC m a x).1,y∈Us
theorem ajJ(h:pb m a):∀x∈vF m a,Pd.St m a.1.length x:=λx hx=>by
 rcases nb.1 hx with hx|hx
 .cases hx
 .obtain ⟨q,b,_,rfl⟩:=Pd.GG hx;exact ⟨_,q,rfl,h.hi,h.ha.init.2 q b⟩
theorem adB(h:pb m a):(vF m a).length<=5000:=by have d:=rO (Pd.dR a m.2.2.1 a.2.2.1) [];have c:=Pd.FY (a:=a) (v:=m.2.2.1) (qs:=a.2.2.1);have b:=h.ha.init.1;grind [vF]
def adE(m:bw)(a:Au)(most:Nat)(x:Option (List V×Int)):Prop:= ∃r,x=some r/\(r.2=0->r.1.length<=most/\asQ m a r.1)
theorem aok(h:pb m a){most:Nat}(u:most<=1000):adE m a most (nF m a (most:Int)):=by
 unfold nF;rw [aqx h,So.ah];have key:∀(d i M:Nat) (l:List V),i+d=most+1->d<M->l.length<=10000000->i<=l.length->(∀x∈l,Pd.St m a.1.length x)->(∀x∈vF m a,x∈l)->(∀x∈l.take i,(Pd.cC m a x).2=0/\∀y∈(Pd.cC m a x).1,y∈l)->
   adE m a most (aj (iz m a (most:Int)) M (l,(i:Int))):=λd=>by
  induction d with
  |zero=>
   intro i M l J I H G f z g;obtain ⟨M,rfl⟩:∃q,M=q+1:=⟨M-1,by omega⟩;rw [ao];generalize aj _ M=k;unfold iz;dsimp only;rw [cx (show (most:Int)<(l.length:Int) by omega)];refine ⟨([],7),?_,λp=>by cases p⟩;cases decide ((i:Int)<(l.length:Int)) <;> rfl
  |succ d ih=>
   intro i M l J I H G f z g;obtain ⟨M,rfl⟩:∃q,M=q+1:=⟨M-1,by omega⟩;have n:=λl=>ih (i+1) M l (by omega) (by omega);rw [ao];generalize aj (iz m a (most:Int)) M=k at n ⊢;unfold iz;dsimp only;by_cases C:most<l.length
   .rw [cx (show (most:Int)<(l.length:Int) by omega)];refine ⟨([],7),?_,λp=>by cases p⟩;cases decide ((i:Int)<(l.length)) <;> rfl
   .rw [cy (show ¬(most:Int)<(l.length) by omega)];by_cases hi:i<l.length
    .rw [cx (by omega),ca,b7,bP hi,So.ah,aqQ h (f _ (de hi)),So.ah];by_cases r:(Pd.cC m a l[i]).2=0
     .rw [show ((Pd.cC m a l[i]).2 != 0)=false by simp [r],b7];have B:=Pd.Xn h.hm.toSafeS h.ha (f _ (de hi));have c:=Pd.abr h.ha (f _ (de hi));have v:aj (ix (i) k (Pd.cC m a l[i])) au (l,0)=k (dh l (Pd.cC m a l[i]).1,((i+1:Nat))):=by
       refine pK (F:=ix (i) k (Pd.cC m a l[i])) (λj=>(dh l ((Pd.cC m a l[i]).1.take j),(j))) (λ_=>True) (λx=>x=k (dh l (Pd.cC m a l[i]).1,((i+1:Nat)))) (Pd.cC m a l[i]).1.length (by omega) (λj A _ D=> .inr ⟨trivial,?_⟩) (λ_ D=>?_)
       .have e:=rO ((Pd.cC m a l[i]).1.take j) l;simp at e;unfold ix;dsimp only;rw [cx (by omega),ca,bP A,So.ah,wJ _ _ (by omega) (λw o=>by
         rcases nb.1 o with o|o
         .have:=SJ h (f w o);omega
         .have:=SJ h (c w (qV o));omega),So.ah,Pa.bR (by omega),So.ah]
        rw [show (Pd.cC m a l[i]).1.take (j+1)=(Pd.cC m a l[i]).1.take j++[(Pd.cC m a l[i]).1[j]] from ql A,Pd.J8];rw [show dh (dh l ((Pd.cC m a l[i]).1.take j)) [(Pd.cC m a l[i]).1[j]]=ik (dh l ((Pd.cC m a l[i]).1.take j)) (Pd.cC m a l[i]).1[j] from rfl];by_cases hp:It (Pd.cC m a l[i]).1[j] 0 (dh l ((Pd.cC m a l[i]).1.take j))<0
        .rw [cx hp,ca,Dt.1 hp,Sy.aP (Sy.dv (by simp;omega) (by simp;omega))]
        .rw [cy hp,b7,Dt.2 hp]
       .unfold ix;dsimp only;rw [cy (by omega),b7,qw,Pa.bR (by omega)]
      rw [v];have b:∀x∈l,x∈dh l (Pd.cC m a l[i]).1:=λx hx=>nb.2 (.inl hx);have e:=rO (Pd.cC m a l[i]).1 l;refine n _ (by omega) ?_ (λx hx=>?_) (λx hx=>b x (z x hx)) (λx hx=>?_)
      .have:=(P7 (Pd.cC m a l[i]).1 l).length_le;omega
      .rcases nb.1 hx with hx|hx
       .exact f x hx
       .exact c x hx
      .have t:(dh l (Pd.cC m a l[i]).1).take (i+1)=l.take i++[l[i]]:=by obtain ⟨q,E⟩:=P7 (Pd.cC m a l[i]).1 l;rw [<-E,List.take_append_of_le_length (by omega),ql hi]
       rw [t] at hx;rcases List.mem_append.1 hx with hx|hx
       .exact ⟨(g x hx).1,λy s=>b y ((g x hx).2 y s)⟩
       .rw [List.mem_singleton.1 hx];exact ⟨r,λy s=>nb.2 (.inr s)⟩
     .rw [show ((Pd.cC m a l[i]).2 != 0)=true by simpa using r,ca];exact ⟨_,rfl,λp=>absurd p r⟩
    .rw [cy (by omega),b7,b7];rw [fb (by omega)] at g;exact ⟨_,rfl,λ_=>⟨by grind,f,z,λx hx=>(g x hx).1,λx hx=>(g x hx).2⟩⟩
 have hl:=adB h;exact key (most+1) 0 au (vF m a) (by omega) (by show most+1<2^64;omega) (by omega) (by omega) (ajJ h) (λ_ h=>h) (λx hx=>by simp at hx)
def Cw(S:List So.Fd)(cap:Int)(Us W G:List V)(t:St):Prop:=
 (∃(L:List V) (g:So.Gf),So.OkS t S cap L g/\L.Nodup/\(∀x∈L,x∈Us)/\(∀x∈W,x∈L)/\∀x∈G,g true x=true)\/
 (∃(M K:Nat) (seed:Int) (p0 p1 p2:Nat->Bool),So.OkL t S M K seed p0 p1 p2/\(∀x∈W,So.aeU S x seed K M p0=true)/\∀x∈G,(So.Wp S x seed K M).all p2=true)
structure Oc(S:List So.Fd)(Us:List V):Prop where
 right:So.lq S
 mem:∀x∈Us,So.In S x/\x.length<100000000
theorem Qp{p:Nat->Bool}{l:zk}(q:zk)(h:l.all p=true):l.all (So.wY p q)=true:=by simp_all [So.wY]
theorem UK(p:Nat->Bool)(l:zk):l.all (So.wY p l)=true:=by simp_all [So.wY,List.contains_iff_mem]
theorem aiG{S:List So.Fd}{Us:List V}(hS:Oc S Us){cap:Int}{Bd:Er->Prop}(h:cap<(Us.length:Int)->Bd (.inl (7,[])))(W G:List V)(t:St)(x:V)(ht:Cw S cap Us W G t)(hx:x∈Us):
  (∃e,F4 t x=some (.error e)/\Bd (.inl e))\/(∃t',F4 t x=some (.ok (false,t'))/\Cw S cap Us (x::W) G t')\/(∃t',F4 t x=some (.ok (true,t'))/\Cw S cap Us (x::W) G t'/\x∉W):=by
 obtain ⟨f,hl⟩:=hS.mem x hx;have l:=So.rH.2 f;unfold F4;rcases ht with ⟨L,g,i,n,p,d,c⟩|⟨M,K,seed,p0,p1,p2,i,d,c⟩
 .obtain ⟨t',j,a,_⟩:=So.aqv hS.right i x hl;rw [j,So.ah];unfold So.VZ at a ⊢;rw [du l] at a ⊢;unfold So.x4 at a ⊢;by_cases hm:x∈L
  .rw [du hm] at a ⊢;exact .inr (.inl ⟨t',rfl,.inl ⟨L,g,a,n,p,λz b=>by
    grind,c⟩⟩)
  .rw [dk hm] at a ⊢;by_cases o:cap<=(L.length)
   .have:=Df.HX (List.nodup_cons.2 ⟨hm,n⟩) (m:=Us) (λz b=>by grind)
    grind
   .rw [dk o] at a ⊢;refine .inr (.inr ⟨t',rfl,.inl ⟨_,g,a,?_,λz b=>?_,λz b=>?_,c⟩,λk=>hm (d x k)⟩)
    .grind
    .grind
    grind
 .obtain ⟨t',j,a⟩:=So.anU (So.lq.fds hS.right) i x hl;rw [j,So.ah];rw [du l] at a ⊢;cases hm:So.aeU S x seed K M p0 with
  |true=>
   refine .inr (.inl ⟨t',rfl,.inr ⟨M,K,seed,_,p1,p2,a,λz b=>?_,c⟩⟩);rcases List.mem_cons.1 b with rfl|b
   .exact UK _ _
   .exact Qp _ (d z b)
  |false=>
   refine .inr (.inr ⟨t',rfl,.inr ⟨M,K,seed,_,p1,p2,a,λz b=>?_,c⟩,λk=>by grind⟩);rcases List.mem_cons.1 b with rfl|b
   .exact UK _ _
   .exact Qp _ (d z b)
theorem ap3{S:List So.Fd}{Us:List V}(hS:Oc S Us){cap:Int}{Bd:Er->Prop}(f:cap<(Us.length:Int)->Bd (.inl (7,[])))(W G:List V)(t:St)(x:V)(ht:Cw S cap Us W G t)(hx:x∈Us):
  (∃e,Ln t x=some (.error e)/\Bd (.inl e))\/(∃t',Ln t x=some (.ok (false,t'))/\Cw S cap Us W G t')\/(∃t',Ln t x=some (.ok (true,t'))/\Cw S cap Us W (x::G) t'/\x∉G):=by
 obtain ⟨l,hl⟩:=hS.mem x hx;have s:=So.rH.2 l;have key:∀{t':St} {b:Bool},F4 t x=some (.ok (b,t'))->Cw S cap Us (x::W) G t'->(∃t'',Ln t x=some (.ok (false,t''))/\Cw S cap Us W G t'')\/(∃t'',Ln t x=some (.ok (true,t''))/\Cw S cap Us W (x::G) t''/\x∉G):=λ{t' b} r q=>by
  unfold Ln;rw [r];show ((∃t'',(dM t' x 1).bind _=_/\_))\/(∃t'',(dM t' x 1).bind _=_/\_);rcases q with ⟨L,g,d,h,p,i,k⟩|⟨M,K,seed,p0,p1,p2,d,i,k⟩
  .have a:So.FZ S L x 1=0:=by unfold So.FZ So.gK;rw [du s,dk (by omega),du (i x (c8 ..))]
   rw [So.ari hS.right d x hl 1,So.ah];obtain ⟨t2,n,j,_⟩:=So.ary hS.right d x hl 1;unfold So.akK;unfold So.al2 at j;rw [du a] at j ⊢;cases m:g ((1:Int)==1) x with
   |true=>exact .inl ⟨t',rfl,.inl ⟨L,g,d,h,p,λz c=>i z (cp _ c),k⟩⟩
   |false=>
    rw [b7,n,So.ah];refine .inr ⟨t2,rfl,.inl ⟨L,_,j,h,p,λz c=>i z (cp _ c),λz c=>?_⟩,λo=>by have:=k x o;rw [show ((1:Int)==1)=true from rfl,this] at m;cases m⟩;unfold So.mC;rcases List.mem_cons.1 c with rfl|c
    .simp
    .rw [k z c,Bool.true_or]
  .have a:So.Dn S x seed K M p0 1=0:=by simp_all [So.Dn,So.AG,So.aeU,So.Wp]
   rw [So.aoq (So.lq.fds hS.right) d x hl 1,So.ah];obtain ⟨t2,n,j⟩:=So.aoR (So.lq.fds hS.right) d x hl 1;rw [du a,du rfl];rw [dk (by omega),du ⟨a,rfl⟩] at j;cases m:(So.Wp S x seed K M).all p2 with
   |true=>exact .inl ⟨t',rfl,.inr ⟨M,K,seed,p0,p1,p2,d,λz c=>i z (cp _ c),k⟩⟩
   |false=>
    rw [b7,n,So.ah];refine .inr ⟨t2,rfl,.inr ⟨M,K,seed,p0,p1,_,j,λz c=>i z (cp _ c),λz c=>?_⟩,λo=>by grind⟩;rcases List.mem_cons.1 c with rfl|c
    .exact UK _ _
    grind [Qp]
 rcases aiG hS f W G t x ht hx with ⟨e,d,h⟩|⟨t',d,h⟩|⟨t',d,h,_⟩
 .refine .inl ⟨e,?_,h⟩;unfold Ln;rw [d];rfl
 .exact .inr (key d h)
 grind
end Ns
namespace Ns
open Sp
variable {m : bw} {a : Au} {Us : List V} {Bd : Er -> Prop} {cap most : Int}
structure Ends(m:bw)(a:Au)(Us:List V)(cap most:Int)(Bd:Er->Prop):Prop where
 st:∀x∈Us,Pd.St m a.1.length x
 next:∀x∈Us,(Pd.cC m a x).2=0->∀y∈(Pd.cC m a x).1,y∈Us
 full:cap<(Us.length:Int)->Bd (.inl (7,[]))
 stack:most<(Us.length:Int)->Bd (.inl (8,[]))
 code:∀x∈Us,(Pd.cC m a x).2≠0->Bd (.inl ((Pd.cC m a x).2,x.dropLast))
 found:∀p:List V×List V,(∀x∈p.1,x∈Us)->(∀x∈p.2,x∈Us)->p.2≠[]->p.1.length<=Us.length->p.2.length<=Us.length->Bd (.inr p)
theorem DB(h:pb m a)(b:Ends m a Us cap most Bd):ahR Us 2000000 Bd (xk m a most):=λn y d hn=>by
 unfold xk;by_cases e:most<=(n)
 .rw [du e];exact .inl ⟨_,rfl,b.stack (by omega)⟩
 .rw [dk e];by_cases c:(Pd.cC m a y).2=0
  .rw [du c];exact .inr ⟨_,rfl,b.next y d c,Pd.Xn h.hm.toSafeS h.ha (b.st y d)⟩
  .rw [dk c];exact .inl ⟨_,rfl,b.code y d c⟩
theorem Zo{x:V}(hx:x∈Us){l:List V}(hl:∀z∈l,z∈Us):CD Us [(x,l)]:=
 ⟨λf a=>by grind,λf a=>by grind,by simp⟩
theorem adk{K:List V}{x:V}{l:List V}(a:Us.length<=1000000)(hl:l.length<=2000000):mu Us K*(2000000+2)+wt [(x,l)]<au:=by have b:=aqX (Us:=Us) (K:=K);show _<2^64;simp [wt,eT,List.map_nil,List.sum_cons,List.sum_nil];omega
theorem aiZ(h:pb m a){S:List So.Fd}(hS:Oc S Us)(j:Ends m a Us cap most Bd)(D:Us.length<=1000000){W:List V}{t:St}(ht:Cw S cap Us W [] t){s:lK}(k:CD Us s)(n:s≠[]):
  Sj (λK t=>Cw S cap Us K [] t) Bd W (inn m a most au t s):=by
 match s,n with
 |(x,l)::r,_=>
  have hx:=k.st _ (c8 ..);unfold inn;dsimp only;cases meet a x with
  |false=>exact .inr ⟨W,t,rfl,ht,λ_ h=>h⟩
  |true=>
   unfold allI;rcases DB h j 0 x hx (List.length_pos_of_mem hx) with ⟨e,q,p⟩|⟨l',q,p,E⟩
   .simp [q];exact .inl ⟨_,rfl,p⟩
   .simp only [q];have C:=Nw (nw:=Ln) (se:=seI x ((x,l)::r).reverse) (bot:=some x)
     (λK t y hi A=>by
      rcases ap3 hS j.full W K t y hi A with ⟨e,d,c⟩|⟨t',d,c⟩|⟨t',d,c,H⟩
      .grind
      .grind
      grind)
     (λy w e A B hn i=>by
      unfold seI at i;split at i
      .cases i;refine j.found _ (λz b=>?_) (λz b=>?_) (by simpa using hn) (by have:=k.dT;simp at this ⊢; omega) (by have:=B.dT;simpa using this)
       .obtain ⟨f,o,rfl⟩:=List.mem_map.1 b;exact k.st f (List.mem_reverse.1 ((List.dropLast_sublist _).subset o))
       .obtain ⟨f,o,rfl⟩:=List.mem_map.1 b;exact B.st f (List.mem_reverse.1 o)
      .cases i)
     (λy w i I=>by grind [seI,Option.some.inj])
     (λK t w hi _ _=> .inr ⟨K,t,rfl,hi,λ_ h=>h⟩)
     (DB h j) au t [(x,l')] [] ht (Zo hx p) (λz b=>by grind) (adk D E)
    rcases C with ⟨e,d,c⟩|⟨J,t',d,c,_⟩
    .exact .inl ⟨e,d,c⟩
    .refine .inr ⟨W,t',d,c.imp (λ⟨L,g,v,G,F,u,_⟩=>⟨L,g,v,G,F,u,λz b=>by cases b⟩) (λ⟨M,K,s,p0,p1,p2,v,u,_⟩=>⟨M,K,s,p0,p1,p2,v,u,λz b=>by cases b⟩),λ_ h=>h⟩
theorem Ur{S:List So.Fd}(hS:Oc S Us)(f:Ends m a Us cap most Bd):anx Us (λK t=>Cw S cap Us K [] t) Bd F4:=λK t y hi d=>by
 rcases aiG hS f.full K [] t y hi d with ⟨e,c,b⟩|⟨t',c,b⟩|⟨t',c,b,g⟩
 .grind
 .grind
 grind
theorem aiq(h:pb m a){S:List So.Fd}(hS:Oc S Us)(b:Ends m a Us cap most Bd)(l:Us.length<=1000000):∀(L:List V),(∀x∈L,x∈Us)->∀(W:List V) (t:St),Cw S cap Us W [] t->Sj (λK t=>Cw S cap Us K [] t) Bd W (ol m a most L t)
 |[],_,W,t,ht=> .inr ⟨W,t,rfl,ht,λ_ h=>h⟩
 |x::r,hL,W,t,ht=>by
  have hx:=hL x (c8 ..);have ih:=λG t' k=>aiq h hS b l r (λy w=>hL y (cp _ w)) G t' k;unfold ol;rcases Ur hS b W t x ht hx with ⟨e,d,c⟩|⟨g,t',d,c,j⟩|⟨g,t',d,c,j,J,I⟩
  .rw [d];exact .inl ⟨_,rfl,c⟩
  .rw [d];rcases ih g t' c with ⟨e,r1,r2⟩|⟨u,t2,r1,r2,i⟩
   .exact .inl ⟨e,r1,r2⟩
   .exact .inr ⟨u,t2,r1,r2,λz f=>i z (j z f)⟩
  .rw [d];rcases DB h b 0 x hx (List.length_pos_of_mem hx) with ⟨e,o,n⟩|⟨l',o,n,E⟩
   .simp [o];exact .inl ⟨_,rfl,n⟩
   .simp [o];have A:Sj (λK t=>Cw S cap Us K [] t) Bd g (wkO m a most au t' [(x,l')]):=Nw (bot:=none)
     (Ur hS b) (λ_ _ _ _ _ _ C=>by cases C) (λ_ _ _ D=>by cases D) (λK t s hi B hn=>aiZ h hS b l hi B hn) (DB h b) au t' [(x,l')] g c (Zo hx n) (λz f=>by grind) (adk l E)
    rcases A with ⟨e,q,p⟩|⟨u,t2,q,p,F⟩
    .rw [q];exact .inl ⟨e,rfl,p⟩
    .rw [q];rcases ih u t2 p with ⟨e,r1,r2⟩|⟨H,v,r1,r2,i⟩
     .exact .inl ⟨e,r1,r2⟩
     .exact .inr ⟨H,v,r1,r2,λz f=>i z (F z (j z f))⟩
end Ns
namespace Ns
open Sp
theorem aoy:sE=some true:=by kernel_rfl
theorem aoV{m:bw}{a:Au}(f:Sy.Wf m)(hb:Ud a)(d:(∀q∈a.2.2.1,0<=q/\q<(a.1.length:Int))/\a.2.1.length=a.1.length/\(∀l∈a.2.1,∀q∈l,0<=q/\q<(a.1.length:Int))/\(∀l∈a.1,∀e∈l,(rt e).1=2))
  (j:dK a.2.1<4000/\dK a.2.2.2<4000/\a.2.2.1.length<4000/\dK a.1<4000/\(∀l∈a.1,∀e∈l,cB e=some true)/\a.1.length<=40)
  (i:∀l∈a.1,∀e∈l,fp (m.1.length:Int) e=true) (h:a.2.2.2.length=1):pb m a:=by
 have c:∀l∈a.1,∀e∈l,e.sz<1000000:=λl hl e b=>by have:=(ajO (by have:=(hb.l1 l hl).2 e b;omega) (j.2.2.2.2.1 l hl e b)).2;omega
 refine ⟨apC f,aow f,⟨rfl,d.2.1,by omega,λl hl=>⟨by have:=JS hl;omega,c l hl⟩,⟨by omega,d.1⟩,λl hl=>⟨by have:=JS hl;omega,d.2.2.1 l hl⟩⟩,λl hl e b=>⟨i l hl e b,d.2.2.2 l hl e b,c l hl e b⟩,⟨?_⟩⟩;cases g:a.2.2.2 with
 |nil=>rw [g] at h;cases h
 |cons A r=>exact ⟨A,r,rfl,by have:=JS (l:=a.2.2.2) (x:=A) (by rw [g];simp);omega⟩
theorem aks{m:bw}{a:Au}(hb:Ud a):A0 (Sy.Wf m->pb m a) (mo m a):=by
 unfold mo;obtain ⟨i,h,f⟩:=ap7 hb;rw [h,So.ah];cases i with
 |false=>exact tz
 |true=>
  obtain ⟨k,g,e⟩:=amo hb;obtain ⟨j,e3,d⟩:=amD hb (m.1.length:Int);rw [g,So.ah,e3,So.ah];refine ⟨_,rfl,λb c=>?_⟩;simp only [ar,mN] at b;exact aoV c hb (e b.1.1) (f rfl) (d b.1.2) (by have:=b.2;omega)
theorem ajC(text:aE){a:Au}(hb:Ud a):∃q,mg text a=some q/\(q.2=true->pb q.1 a/\a.1.length<=12):=by
 unfold mg;obtain ⟨q,h,g⟩:=amp text;rw [h,So.ah];cases e:q.2 with
 |false=>exact ⟨(q.1,false),rfl,λc=>by cases c⟩
 |true=>
  have b:=g e;obtain ⟨n,k,i⟩:=aks (m:=q.1) hb;rw [NX,k,So.ah];simp only [So.aM,iQ];cases n with
  |false=>exact ⟨(q.1,false),rfl,λc=>by cases c⟩
  |true=>
   by_cases hl:a.1.length<=12
   .rw [cx (show (a.1.length:Int)<=12 by omega)];obtain ⟨l,j⟩:=ajZ (m:=q.1) (by have:=b.names;have:=b.schema;omega) (λf d=>by have:=b.fields f d;have:=this.le;have:=b.fields f d;have:=this.lo;have:=b.fields f d;have:=this.hi;have:=b.fields f d;have:=this.wide;omega);show ∃q',bC true _ _ _=_/\_;rw [NX,j,So.ah];exact ⟨(q.1,l),rfl,λ_=>⟨i rfl b,hl⟩⟩
   .rw [cy (show ¬(a.1.length:Int)<=12 by omega)];exact ⟨(q.1,false),rfl,λc=>by cases c⟩
abbrev Cc(m:bw)(a:Au):List So.Fd:=m.2.1++[(0,max 0 ((a.1.length:Int)-1))]
theorem C0{m:bw}{a:Au}(h:pb m a):So.lq (Cc m a):=by
 have hk:=h.ha.dT;have e:=h.hm.pos;have d:=h.hm.dT;refine ⟨by simp [Cc],by simp [Cc];omega,λf b=>?_⟩;rcases List.mem_append.1 b with b|b
 .have c:=h.hm.field f b;exact ⟨c.lo,c.hi,c.le,c.wide⟩
 .rw [List.mem_singleton.1 b];dsimp only;omega
theorem ado{m:bw}{a:Au}(h:pb m a):So.FI (Cc m a):=λf b=>by have:=(C0 h).each f b;exact ⟨⟨by omega,by omega⟩,⟨by omega,by omega⟩⟩
theorem ahY{m:bw}{a:Au}(h:pb m a):vM m a=some (Cc m a,0):=by
 have hk:=h.ha.dT;have d:=h.hm.dT;unfold vM;rw [bG (by omega)];have c:So.FI [((0:Int),max 0 ((a.1.length:Int)-1))]:=λf b=>by rw [List.mem_singleton.1 b];exact ⟨⟨by dsimp only;omega,by dsimp only;omega⟩,⟨by dsimp only;omega,by dsimp only;omega⟩⟩
 rw [So.aag c,So.ah,So.Xo.2 ⟨by simp,by simp,λf b=>by rw [List.mem_singleton.1 b];dsimp only;omega⟩];show (cK m.2.1).bind _=_;rw [So.MB (by omega),So.ah,Sy.aP (Sy.dv (by simp;omega) (by simp;omega))]
theorem abO:∀{S:w5} {v:zj},fits S v=true->∀(i:Nat) (h:i<S.length) (a:i<v.length),S[i].1<=v[i]/\v[i]<=S[i].2
 |s::S,n::w,h,0,_,_=>by
  simp only [fits,ar,eY] at h;exact h.1
 |s::S,n::w,h,i+1,h1,h2=>by simp only [fits,ar,eY] at h;exact abO h.2 i (by simpa using h1) (by simpa using h2)
theorem asc{m:bw}{a:Au}(h:pb m a){x:V}(hx:Pd.St m a.1.length x):So.In (Cc m a) x/\x.length<100000000:=by
 refine ⟨?_,by have:=SJ h hx;omega⟩;obtain ⟨v,q,rfl,b,f⟩:=hx;have hl:=b.len;refine ⟨by simp [Cc,hl],λi hi=>?_⟩;have d:i<m.2.1.length+1:=by simpa [Cc] using hi
 by_cases c:i<m.2.1.length
 .have:=abO b.fit i c (by omega);rw [List.getElem_append_left c,List.getElem_append_left (by omega)];exact this
 .have e:i=m.2.1.length:=by omega
  subst e;rw [List.getElem_append_right (by omega),List.getElem_append_right (by omega)];simp only [hl,Nat.sub_self,List.getElem_cons_zero];omega
theorem ar4{m:bw}{a:Au}(h:pb m a){Us:List V}(b:∀x∈Us,Pd.St m a.1.length x):Oc (Cc m a) Us:=⟨C0 h,λx hx=>asc h (b x hx)⟩
theorem ako{m:bw}{a:Au}(h:pb m a){Us:List V}{Bd:Er->Prop}(o:So.Op)(hk:0<=o.1/\o.1<5)(d:0<=o.2.1/\o.2.1<=1048576)(j4:1<=o.2.2.1/\o.2.2.1<=1048576)(hl:o.1=4->1<=o.2.2.2.2.1/\o.2.2.2.2.1<=4194304/\1<=o.2.2.2.2.2/\o.2.2.2.2.2<=16)
  (i:Ends m a Us o.2.1 o.2.2.1 Bd) (l:Us.length<=1000000) (hi:∀x∈vF m a,x∈Us):(∃e,jQ m a o=Cu (some (.error e))/\Bd e)\/jQ m a o=some (false,([],[]),0,[]):=by
 have hS:=ar4 h i.st;have n:=λ(t:St) (c:Int) (hN:gh (Cc m a) o=some (t,c))=>aot h.hm.toSafeS h.hi h.ha h.dT (by have:=adB h;omega) (ajJ h) o (ahY h) hN;have run:∀t,gh (Cc m a) o=some (t,0)->Cw (Cc m a) o.2.1 Us [] [] t->(∃e,jQ m a o=Cu (some (.error e))/\Bd e)\/jQ m a o=some (false,([],[]),0,[]):=λt hN ht=>by
  rw [n t 0 hN,du ⟨rfl,j4.1,j4.2⟩];rcases aiq h hS i l (vF m a) hi [] t ht with ⟨e,b,k⟩|⟨s,t',b,_⟩
  .rw [b];exact .inl ⟨e,rfl,k⟩
  .rw [b];exact .inr rfl
 by_cases j:o.1=4
 .obtain ⟨l1,r,q,p⟩:=hl j;obtain ⟨t,g,f⟩:=So.apo (ado h) (C0 h) (M:=o.2.2.2.2.1.toNat) (K:=o.2.2.2.2.2.toNat) (by omega) (by omega) o j d (by omega) (by omega);exact run t g (.inr ⟨_,_,_,_,_,_,f,nofun,nofun⟩)
 .obtain ⟨t,g,f,_⟩:=(So.aoS (ado h) (C0 h) o (by omega)).2 d.1 d.2;exact run t g (.inl ⟨[],_,f,by simp,nofun,nofun,nofun⟩)
theorem aaX{Us:List V}(hl:Us.length<1000000)(b:∀w∈Us,w.length<100000000){x:V}(hx:x∈Us):∃j,dm Us x=some j/\ ¬j<0:=by rw [wJ _ _ (by omega) (λw a=>by have:=b w a;omega)];exact ⟨_,rfl,λc=>NW.1 c hx⟩
theorem acP(w:aE×Au×Int×Int)(hb:Ud w.2.1)(hk:0<=w.2.2.1/\w.2.2.1<=255):jD w=some true:=by
 unfold jD;rw [aoy,So.ah];obtain ⟨q,z,y⟩:=ajC w.1 hb;rw [z,So.ah];cases v:q.2 with
 |false=>rfl
 |true=>
  obtain ⟨h,_⟩:=y v;rw [qf,b7];obtain ⟨r,B,A⟩:=aok h (most:=80) (by omega);rw [show (80:Int)=((80:Nat):Int) from rfl,B,So.ah];by_cases m:r.2=0
  .obtain ⟨n,a⟩:=A m;rw [show (r.2 != 0)=false by simp [m],b7,bG (by omega)];have b:0<=Int.tmod w.2.2.1 5/\Int.tmod w.2.2.1 5<5:=by rw [Int.tmod_eq_emod_of_nonneg hk.1];omega
   have c:∀u∈r.1,u.length<100000000:=λu t=>by have:=SJ h (a.st u t);omega
   rcases ako h (Us:=r.1) (Bd:=λe=>∃p,e= .inr p/\(∀x∈p.1,x∈r.1)/\(∀x∈p.2,x∈r.1)/\p.2≠[]/\p.1.length<=80/\p.2.length<=80) (Int.tmod w.2.2.1 5,100,100,w.2.2.2,1000,2) b (by dsimp only;omega) (by dsimp only;omega) (λ_=>by dsimp only;omega)
    ⟨a.st,λx hx _=>a.next x hx,λd=>by dsimp only at d;omega,λd=>by dsimp only at d;omega,λx hx d=>absurd (a.code x hx) d,λp p1 p2 f s o=>⟨p,rfl,p1,p2,f,by omega,by omega⟩⟩ (by omega) a.vF with ⟨e,f1,p,rfl,p1,p2,f,s,o⟩|f1
   .rw [f1];show (some (true,p,0,[])).bind _=_;rw [So.ah];simp only [So.aM];rw [show (((0:Int) != 0)||(!true))=false from rfl,b7];refine pK (F:=gY true r (true,p,0,[])) (λi=>(i:Int)) (λ_=>True) (λx=>x=some true) p.1.length (by omega) (λi hi _ k=> .inr ⟨trivial,?_⟩) (λ_ k=>?_)
    .unfold gY;dsimp only;obtain ⟨j,l,g⟩:=aaX (by omega) c (p1 _ (de hi));rw [cx (by omega),ca,bP hi,So.ah,l,So.ah,cy g,b7,Pa.bR (by omega)]
    .unfold gY;dsimp only;rw [cy (by omega),b7];refine pK (F:=ic true r (true,p,0,[])) (λi=>(i:Int)) (λ_=>True) (λx=>x=some true) p.2.length (by omega) (λi hi _ k=> .inr ⟨trivial,?_⟩) (λ_ k=>?_)
     .unfold ic;dsimp only;obtain ⟨j,l,g⟩:=aaX (by omega) c (p2 _ (de hi));rw [cx (by omega),ca,bP hi,So.ah,l,So.ah,cy g,b7,Pa.bR (by omega)]
     .unfold ic;dsimp only;have:0<p.2.length:=List.length_pos_iff.2 f;rw [cy (by omega),b7,cx (by omega)];rfl
   .rw [f1];rfl
  .rw [show (r.2 != 0)=true by simpa using m,ca]
end Ns
variable {w : World}
open Go.Lib Go.ChangeAt Go.ChangeShapes Go.WideShapes Go.RowKit
theorem adt{P:Program}{w:World}:∀(l:List (String×DataW Unit)) (ps:List MemPlace),DataW.LaidVars P w l ps->∀(i:Nat) (n:String) (d:DataW Unit),l[i]? =some (n,d)->
  ∃g t cs a p,P.globalNamed n=some g/\(P.globals[g]?).map (·.type)=some t/\w.var? P n=some cs/\DataW.trod (λ_=>()) P w 0 (λ_=>true) false a t cs.toList=some (d,p)
 |[],_,_,i,n,d,h=>by simp at h
 |(n0,d0)::l,ps,h,i,n,d,hi=>by
  obtain ⟨g,t,cs,a,p,q,j,f,e,c,b,_⟩:=h;cases i with
  |zero=>
   simp only [qh,ej,q5] at hi;obtain ⟨rfl,rfl⟩:=hi;exact ⟨g,t,cs,a,p,j,f,e,c⟩
  |succ i=>exact adt l q b i n d (by simpa using hi)
theorem afw{P:Program}{laid:List (String×DataW Unit)}(a:(laid.filter λx=>x.2.handleName?.isSome)=[])(h:laidMetH P laid w):laidMet P laid w:=by unfold laidMetH at h;rw [a] at h;exact h
theorem apt{P:Program}{laid:List (String×DataW Unit)}{Γ:Ctx}(h:laidMet P laid w)(i:Nat){n:String}{kd:IntKind}{zs:zj}{g:Nat}{t e:TypeId}{k:Nat}
  (hi:laid[i]? =some (n,tabData kd zs)) (m:P.globalNamed n=some g) (b:(P.globals[g]?).map (·.type)=some t)
  (ht:P.underlying t=some (.array k e)) (q:P.underlying e=some (.int kd)) (l:P.cellsOf e=1) (j:P.cellsOf t=k) (r:¬ Γ.M g):(gl g (zs.map (Value.int kd))).P Γ.M w:=by
 obtain ⟨ps,hl,_⟩:=h;obtain ⟨u,t',cs,o,p,f,d,a,hd⟩:=adt _ _ hl i n _ hi;obtain rfl:=gj (m.symm.trans f);obtain rfl:=gj (b.symm.trans d);have s:=cells_of_tab ht q l j hd;refine ⟨r,?_⟩;unfold World.var? at a;rw [m] at a;simp only [Option.bind_some] at a;split at a
 next c ty fr hb=>obtain rfl:=gj a;exact ⟨ty,fr,by rw [hb,<-s]⟩
 .cases a
def Xi(Γ:Ctx):Prop:= ∀b,¬ Γ.M b
theorem adJ:Xi []:=λb h=>by obtain ⟨it,h,_⟩:=h;cases h
theorem aae{it:Item}{Γ:Ctx}(hp:it.own=[])(h:Xi Γ):Xi (it::Γ):=λb hb=>by
 rcases Ctx.EW.1 hb with a|a
 .rw [hp] at a;cases a
 .exact h b a
theorem aia(w:World):Sat [kept w (λ_=>False)] w:=Sat.nil.add rfl ⟨iX.refl w,cH _,λb _ _=>⟨adJ b,rfl⟩⟩
theorem ahO(w:World):Xi [kept w (λ_=>False)]:=aae rfl adJ
theorem amJ{Γ:Ctx}(h:Xi Γ):Mv (λ_=>False) w Γ.M w:=⟨cH _,λb _ _=>⟨h b,rfl⟩⟩
theorem ajE{w':World}{Γ:Ctx}{i:Nat}(h:Sat Γ w')(hi:Γ[i]? =some (kept w (λ_=>False))):Below w.heap.size w w':=by obtain ⟨a,c,b⟩:=h.kept hi;exact ⟨a.os,a.tape,a.output,c,λk hk=>(b k hk (λh=>h)).2⟩
theorem Sr{Y:Type}(R:Nat->Y->Ex->Prop):∀(ys:List Y),(∀i y,ys[i]? =some y->∃e,R i y e)->∃l:List Ex,l.length=ys.length/\∀i y e,ys[i]? =some y->l[i]? =some e->R i y e
 |[],_=>⟨[],rfl,λi y e h=>by simp at h⟩
 |y::ys,h=>by
  obtain ⟨e,d⟩:=h 0 y rfl;obtain ⟨l,hl,c⟩:=Sr (λi=>R (i+1)) ys (λi y a=>h (i+1) y (by simpa using a));refine ⟨e::l,by simp [hl],λi b e' a hx=>?_⟩;cases i with
  |zero=>
   simp only [qh,ej] at a hx;subst a;subst hx;exact d
  |succ i=>exact c i b e' (by simpa using a) (by simpa using hx)
theorem ahk{H:Type}:∀(l:List Ex) (ds:List (DataW H)),l.length=ds.length->(∀(i:Nat) (e:Ex) (d:DataW H),l[i]? =some e->ds[i]? =some d->e.sz<=Rows.uptoBulk d)->w7 l<=Rows.uptoBulkAll ds
 |[],[],_,_=>cH _
 |e::l,d::ds,hl,h=>by
  have c:=h 0 e d rfl rfl;have b:=ahk l ds (by simpa using hl) (λi e d a hd=>h (i+1) e d (by simpa using a) (by simpa using hd));simp only [w7,Rows.uptoBulkAll];omega
 |[],_::_,h,_=>by simp at h
 |_::_,[],h,_=>by simp at h
theorem Ri{H:Type}(d:DataW H):1<=Rows.uptoBulk d:=by
 cases d with
 |lit l=>cases l <;> simp [Rows.uptoBulk]
 |nil=>simp [Rows.uptoBulk]
 |ptr d=>simp [Rows.uptoBulk]
 |slice e b=>simp [Rows.uptoBulk]
 |agg c=>simp [Rows.uptoBulk]
 |iface t d=>simp [Rows.uptoBulk]
 |map a=>simp [Rows.uptoBulk]
 |held h=>simp [Rows.uptoBulk]
theorem Bx{H:Type}{d:DataW H}:∀{l:List (DataW H)},d∈l->Rows.uptoBulk d<=Rows.uptoBulkAll l
 |x::r,h=>by
  simp only [Rows.uptoBulkAll];rcases List.mem_cons.1 h with rfl|h
  .omega
  .have:=Bx h;omega
structure ajs(P:Program)(t:TypeId):Prop where
 fields:∃(fs:Array Field) (f0 f1 f2 f3:Field),P.underlying t=some (.struct fs)/\fs.size=4/\fs[0]? =some f0/\fs[1]? =some f1/\fs[2]? =some f2/\fs[3]? =some f3/\
  (f0.offset=0/\P.underlying f0.type=some (.int .i64)/\P.cellsOf f0.type=1)/\(f1.offset=1/\P.underlying f1.type=some (.int .i64)/\P.cellsOf f1.type=1)/\
  (f2.offset=2/\P.underlying f2.type=some (.int .i64)/\P.cellsOf f2.type=1)/\(f3.offset=3/\P.underlying f3.type=some (.slice t)/\P.cellsOf f3.type=1)
 cells:P.cellsOf t=4
theorem apN{P:Program}{a:Nat}{t:TypeId}{v:Value}{b:Array Field}(ht:P.underlying t=some (.struct b))(h:Value.okWide P w .any a t v):
  ∃cs,v= .agg cs/\cs.size=P.cellsOf t/\Row.okWide P w .any a t cs:=by
 unfold Value.okWide at h;rw [ht] at h;exact h
theorem agx{a:Addr}{v:Value}(h:w.cell? a=some v):a.spot=none/\∃cs e fr,w.heap[a.block]? =some (.cells cs e fr)/\cs[a.off]? =some v:=by
 unfold World.cell? at h;split at h
 .rename_i cs e fr hb;split at h
  .cases h
  next b=>exact ⟨by simpa using b,cs,e,fr,hb,h⟩
 .cases h
theorem agF{H:Type}{enc:TypeId×Value->H}{P:Program}{W:World}{t:TypeId}(L:ajs P t):∀(p:Nat) (cs:za) (x:DataW H×List MemPlace),
  DataW.trod enc P W 0 (λ_=>true) true p t cs=some x->∃e,yd (λ_=>False) W cs e/\e.sz<=Rows.uptoBulk x.1:=by
 intro p
 induction p using Nat.strongRecOn with
 |ind p ih=>
 intro cs x h;obtain ⟨⟨fs,f0,f1,f2,f3,hT,hsz,g0,g1,g2,g3,⟨o0,u0,c0⟩,⟨o1,u1,c1⟩,⟨o2,u2,c2⟩,⟨o3,u3,c3⟩⟩,hc⟩:=L;obtain ⟨xs,n,rfl,rfl,hl,D,X⟩:=DataW.trod_struct hT h;rw [hc] at hl;rw [hsz] at D;obtain ⟨a0,V,U,C,rfl⟩:∃a0 V U C,cs=[a0,V,U,C]:=by
  match cs,hl with
  |[a,b,c,d],_=>exact ⟨a,b,c,d,rfl⟩
 obtain ⟨x0,x1,x2,A,rfl⟩:∃a0 V U C,xs=[a0,V,U,C]:=by
  match xs,D with
  |[a,b,c,d],_=>exact ⟨a,b,c,d,rfl⟩
 have Z:=X 0 f0 g0;have t1:=X 1 f1 g1;have t2:=X 2 f2 g2;have Y:=X 3 f3 g3;rw [o0,c0] at Z;rw [o1,c1] at t1;rw [o2,c2] at t2;rw [o3,c3] at Y;simp only [n9,qZ,tx,List.drop_succ_cons,qh,gy] at Z t1 t2 Y;obtain ⟨z,e0,_,_⟩:=DataW.trod_int u0 Z;obtain ⟨w,e1,_,_⟩:=DataW.trod_int u1 t1;obtain ⟨v,e2,_,_⟩:=DataW.trod_int u2 t2;obtain rfl:a0= .int .i64 z:=by simpa using e0
 obtain rfl:V= .int .i64 w:=by simpa using e1
 obtain rfl:U= .int .i64 v:=by simpa using e2
 have hb:∀d,A.1=d->Rows.uptoBulk d+1<=Rows.uptoBulk (DataW.agg ([x0,x1,x2,A].map (·.1))):=λd hd=>by subst hd;have:=Bx (d:=A.1) (l:=[x0,x1,x2,A].map (·.1)) (by simp);simp only [Rows.uptoBulk];omega
 rcases DataW.trod_slice u3 Y with ⟨q,E⟩|⟨a,len,cap,f,rest,m,rfl,q,E,_,hlc,_,J,O,hsp,_⟩
 .obtain rfl:C= .slice none 0 0:=by simpa using q
  refine ⟨.mk z w v [],.nil z w v none,?_⟩;have:=hb _ rfl;have:=Ri A.1;simp only [Ex.sz,w7];omega
 .obtain rfl:C= .slice (some a) len cap:=by simpa using q
  obtain ⟨hrl,G⟩:=hsp rfl;rw [hc] at O G
  -- all of it is there
  have cell:∀i,i<cap->∃us y,W.cells? 0 (a.add (i*4)) 4=some us/\us.length=4/\(∀j,j<4->W.cell? ((a.add (i*4)).add j)=us[j]?)/\DataW.trod enc P W 0 (λ_=>true) true m t us=some y/\(i<len->f[i]? =some y):=λi hi=>by
   by_cases M:i<len
   .obtain ⟨y,r⟩:∃y,f[i]? =some y:=⟨f[i]'(by omega),b9 _⟩;have:=O i M;rw [r,q0] at this;obtain ⟨us,B,S⟩:=this;obtain ⟨_,q,u⟩:=World.cells?_some B;exact ⟨us,y,B,q,u,S,λ_=>r⟩
   .obtain ⟨y,r⟩:∃y,rest[i-len]? =some y:=⟨rest[i-len]'(by omega),b9 _⟩;have:=G (i-len) (by omega);rw [r,q0] at this;obtain ⟨us,B,S⟩:=this;have e:len+(i-len)=i:=by omega
    rw [e] at B;obtain ⟨_,q,u⟩:=World.cells?_some B;exact ⟨us,y,B,q,u,S,λh=>absurd h M⟩
  by_cases Q:cap=0
  .subst Q;obtain rfl:len=0:=by omega
   refine ⟨.mk z w v [],.nil z w v (some a),?_⟩;have:=hb _ rfl;have:=Ri A.1;simp only [Ex.sz,w7];omega
  .obtain ⟨us0,_,_,hl0,hc0,_⟩:=cell 0 (by omega);have T:=hc0 0 (by omega);rw [b9 (by omega)] at T;obtain ⟨hs,o,e',fr,R,_⟩:=agx T;have F:a.spot=none:=by simpa [Addr.add] using hs
   have k:W.heap[a.block]? =some (.cells o e' fr):=by simpa [Addr.add] using R
   obtain ⟨b,g,sp⟩:=a;simp only at F k;subst F;have at_:∀i j,((⟨b,g,none⟩:Addr).add (i*4)).add j=⟨b,g+i*4+j,none⟩:=λi j=>by unfold Addr.add;split <;> split <;> simp_all
   have s:∀i,i<cap->∃us y,us.length=4/\(∀j,j<4->o[g+i*4+j]? =us[j]?)/\DataW.trod enc P W 0 (λ_=>true) true m t us=some y/\(i<len->f[i]? =some y):=λi hi=>by obtain ⟨us,y,_,q,u,h5,h6⟩:=cell i hi;refine ⟨us,y,q,λj K=>?_,h5,h6⟩;have:=u j K;rw [at_] at this;simpa [World.cell?,k] using this
   have hsize:g+cap*4<=o.size:=by obtain ⟨us,_,q,u,_⟩:=s (cap-1) (by omega);have:=u 3 (by omega);rw [b9 (by omega)] at this;have:=(Array.getElem?_eq_some_iff.1 this).1;omega
   have N:∀i y,f[i]? =some y->∃e,(yd (λ_=>False) W (((o.toList.drop g).drop (i*4)).take 4) e/\e.sz<=Rows.uptoBulk y.1):=λi y r=>by
    have hi:i<len:=by rw [<-J];exact (List.getElem?_eq_some_iff.1 r).1
    obtain ⟨us,y',q,u,h5,h6⟩:=s i (by omega);obtain rfl:y'=y:=by have:=h6 hi;rw [r] at this;exact (gj this).symm
    have hus:((o.toList.drop g).drop (i*4)).take 4=us:=by
     apply l9;intro j;by_cases K:j<4
     .rw [qg,du K,qv,qv,<-u j K];simp [q7]
     .rw [qg,dk K,lk (by omega)]
    rw [hus];exact ih m (by omega) us y' h5
   obtain ⟨l,hll,hR⟩:=Sr (λi y e=>yd (λ_=>False) W (((o.toList.drop g).drop (i*4)).take 4) e/\e.sz<=Rows.uptoBulk y.1) f N;have I:l.length=len:=by omega
   refine ⟨.mk z w v l,?_,?_⟩
   .rw [<-I];refine .some z w v l b g cap o e' fr (λh=>h) k (by omega) (by omega) ?_ (λi hi=>?_)
    .simp only [dj,iN,eZ];omega
    .obtain ⟨y,r⟩:∃y,f[i]? =some y:=⟨f[i]'(by omega),b9 _⟩;have:=(hR i y l[i] r (b9 _)).1;rw [qx,qF];have e4:min 4 (l.length*4-i*4)=4:=by omega
     rw [e4];exact this
   .have B:=ahk l (f.map (·.1)) (by simp [hll]) (λi e d he hd=>by rw [qo,Option.map_eq_some_iff] at hd;obtain ⟨y,r,rfl⟩:=hd;exact (hR i y e r he).2)
    have S:A.1= .slice (f.map (·.1)) (rest.map (·.1)):=by rw [E]
    have q:=hb _ S;simp only [Ex.sz];have u:Rows.uptoBulk (DataW.slice (f.map (·.1)) (rest.map (·.1)))=Rows.uptoBulkAll (f.map (·.1))+Rows.uptoBulkAll (rest.map (·.1))+1:=by simp only [Rows.uptoBulk]
    omega
variable {Q : Nat -> Prop} {W : World}
open Go.ChangeMaps (open_string)
def vT:Ty->v7
 | .p a b=>vT a++vT b
 | .l _|.ex=>[none]
 |_=>[]
def aqk:Ty->Pt
 | .i k=> .int k
 | .bo=> .bool
 | .s=> .str
 | .l t=> .sli t
 |t=> .dat t (vT t)
def La(Q:Nat->Prop):(t:Ty)->t.T->Prop
 | .i k,x=>(Lit.int k x).wf=true
 | .s,x=>x.length<=9223372036854775807
 | .p a b,x=>La Q a x.1/\La Q b x.2
 | .l t,x=>(List.length (α:=t.T) x<=9223372036854775807/\Q (List.length (α:=t.T) x))/\∀y:t.T,List.Mem y x->La Q t y
 | .ex,x=>Q x.sz
 |_,_=>True
def Nc(P:Program)(t:TypeId):Bool:=(match P.underlying t with
 |some (.int .i64)=>true
 |_=>false)&&P.cellsOf t==1
def exB(P:Program)(t:TypeId):Bool:=(match P.underlying t with
 |some (.struct fs)=>(match fs.toList with
  |[f0,f1,f2,f3]=>f0.offset==0&&Nc P f0.type&&(f1.offset==1&&Nc P f1.type)&&(f2.offset==2&&Nc P f2.type)&&(f3.offset==3&&P.cellsOf f3.type==1&&(match P.underlying f3.type with
   |some (.slice e)=>e==t
   |_=>false))
  |_=>false)
 |_=>false)&&P.cellsOf t==4
def CQ(P:Program)(fit:TypeId->Ty->Bool)(tot:Nat):List Field->Nat->Ty->Bool
 |[],_,_=>false
 |[f],off,t=>f.offset==off&&off+P.cellsOf f.type==tot&&P.cellsOf f.type==t.rep.n&&fit f.type t
 |f::g::fs,off,t=>match t with
  | .p a b=>f.offset==off&&P.cellsOf f.type==a.rep.n&&fit f.type a&&CQ P fit tot (g::fs) (off+P.cellsOf f.type) b
  |_=>false
def fits(P:Program):Nat->TypeId->Ty->Bool
 |0,_,_=>false
 |n+1,i,t=>match P.underlying i with
  |some (.int k)=>(match t with
   | .i k'=>decide (k=k')
   |_=>false)
  |some .bool=>(match t with
   | .bo=>true
   |_=>false)
  |some .string=>(match t with
   | .s=>true
   |_=>false)
  |some (.slice e)=>(match t with
   | .l u=>P.cellsOf e==u.rep.n&&Nat.blt 0 u.rep.n&&fits P n e u
   |_=>false)
  |some (.struct fs)=>(match t with
   | .ex=>exB P i
   | .p a b=>CQ P (fits P n) (P.cellsOf i) fs.toList 0 (.p a b)
   |_=>false)
  |_=>false
def WR:Ty->Bool
 | .n=>false
 | .p a b=>WR a&&WR b
 |_=>true
theorem MU{P:Program}{fit:TypeId->Ty->Bool}(h:∀i t,fit i t=true->WR t=true){d:Nat}:∀(j:List Field) (c:Nat) (t:Ty),CQ P fit d j c t=true->WR t=true
 |[],_,_,e=>by cases e
 |[f],c,t,e=>by
  simp only [CQ,ar] at e;exact h _ _ e.2
 |f::g::j,c,t,e=>by
  unfold CQ at e;split at e
  next a b=>simp only [ar] at e;simp only [WR,ar];exact ⟨h _ _ e.1.2,MU h (g::j) _ b e.2⟩
  .cases e
theorem abf{P:Program}:∀(n:Nat) (i:TypeId) (t:Ty),fits P n i t=true->WR t=true
 |0,_,_,e=>by cases e
 |n+1,i,t,e=>by
  unfold fits at e;split at e <;> (try cases e)
  .split at e
   .rfl
   .cases e
  .split at e
   .rfl
   .cases e
  .split at e
   .rfl
   .cases e
  .split at e
   .rfl
   .cases e
  .split at e
   .rfl
   .exact MU (λi t=>abf n i t) _ _ _ e
   .cases e
theorem wV{P:Program}{t:TypeId}(h:Nc P t=true):P.underlying t=some (.int .i64)/\P.cellsOf t=1:=by
 unfold Nc at h;simp only [ar,mN] at h;refine ⟨?_,h.2⟩;revert h;split
 next h=>intro _;exact h
 .intro h;cases h.1
theorem arn{P:Program}{t:TypeId}(h:exB P t=true):ajs P t:=by
 unfold exB at h;simp only [ar,mN] at h;obtain ⟨a,q⟩:=h;split at a
 .rename_i d b;split at a
  .rename_i k j f c hl;simp only [ar,mN] at a;obtain ⟨⟨⟨⟨a0,n⟩,w,m⟩,v,l⟩,⟨u,r⟩,s⟩:=a;have g:∀i:Nat,d[i]? =[k,j,f,c][i]? :=λi=>by rw [<-hl,si]
   have o:P.underlying c.type=some (.slice t):=by
    revert s;split
    next e p=>intro hb;rw [p,(by simpa using hb:e=t)]
    .intro hb;cases hb
   refine ⟨⟨d,k,j,f,c,b,?_,g 0,g 1,g 2,g 3,⟨a0,(wV n).1,(wV n).2⟩,⟨w,(wV m).1,(wV m).2⟩,⟨v,(wV l).1,(wV l).2⟩,⟨u,o,r⟩⟩,q⟩;rw [<-eZ,hl];rfl
  .cases a
 .cases a
theorem aj2{a:Addr}{v:Value}(h:w.cell? a=some v):a.spot=none/\∃cs e fr,w.heap[a.block]? =some (.cells cs e fr)/\cs[a.off]? =some v:=by
 unfold World.cell? at h;split at h
 .rename_i cs e fr hb;split at h
  .cases h
  next b=>exact ⟨by simpa using b,cs,e,fr,hb,h⟩
 .cases h
theorem Pf{Y α:Type}(R:Nat->Y->α->Prop):∀(ys:List Y),(∀i y,ys[i]? =some y->∃e,R i y e)->∃l:List α,l.length=ys.length/\∀i y e,ys[i]? =some y->l[i]? =some e->R i y e
 |[],_=>⟨[],rfl,λi y e h=>by simp at h⟩
 |y::ys,h=>by
  obtain ⟨e,d⟩:=h 0 y rfl;obtain ⟨l,hl,c⟩:=Pf (λi=>R (i+1)) ys (λi y a=>h (i+1) y (by simpa using a));refine ⟨e::l,by simp [hl],λi b e' a hx=>?_⟩;cases i with
  |zero=>
   simp only [qh,ej] at a hx;subst a;subst hx;exact d
  |succ i=>exact c i b e' (by simpa using a) (by simpa using hx)
theorem PQ{H:Type}:∀(l:List (DataW H)),l.length<=Rows.uptoBulkAll l
 |[]=>n6 _
 |d::l=>by have:=PQ l;have:=Ri d;simp only [eb,Rows.uptoBulkAll];omega
theorem ahV{H:Type}{enc:TypeId×Value->H}{P:Program}{t e:TypeId}{A:fg α}{D:α->Prop}(ht:P.underlying t=some (.slice e))(hA:P.cellsOf e=A.n)(hn:0<A.n)
  (q:Nat) (cs:za) (x:DataW H×List MemPlace) (hQ:∀n,n<=Rows.uptoBulk x.1->Q n)
  (he:∀(q:Nat) (us:za) (y:DataW H×List MemPlace),(∀n,n<=Rows.uptoBulk y.1->Q n)->DataW.trod enc P W 0 (λ_=>true) true q e us=some y->∃z,A.rd (λ_=>False) W us z/\D z)
  (h:DataW.trod enc P W 0 (λ_=>true) true q t cs=some x):
  ∃(u:jP) (zs:List α),cs=[sl u]/\bS A (λ_=>False) W (sl u) zs/\(zs.length<=9223372036854775807/\Q zs.length)/\∀z∈zs,D z:=by
 rcases DataW.trod_slice ht h with ⟨p,_⟩|⟨a,len,cap,c,rest,m,rfl,p,hx,_,hlc,C,F,K,T,_⟩
 .exact ⟨(none,0,0),[],p,bS.nil,⟨by simp,hQ _ (n6 _)⟩,by simp⟩
 .obtain ⟨hrl,B⟩:=T rfl;rw [hA] at K B;have C:cap<=9223372036854775807:=C;have hb:Rows.uptoBulk x.1=Rows.uptoBulkAll (c.map (·.1))+Rows.uptoBulkAll (rest.map (·.1))+1:=by rw [hx];simp only [Rows.uptoBulk]
  have hlb:len<=Rows.uptoBulk x.1:=by have:=PQ (c.map (·.1));simp only [mj] at this;omega
  have V:∀y∈c,∀n,n<=Rows.uptoBulk y.1->Q n:=λy o n hn=>hQ n (by have:=Bx (d:=y.1) (l:=c.map (·.1)) (List.mem_map.2 ⟨y,o,rfl⟩);omega)
  have cell:∀i,i<cap->∃us y,us.length=A.n/\(∀j,j<A.n->W.cell? ((a.add (i*A.n)).add j)=us[j]?)/\DataW.trod enc P W 0 (λ_=>true) true m e us=some y/\(i<len->c[i]? =some y):=λi hi=>by
   by_cases I:i<len
   .obtain ⟨y,o⟩:∃y,c[i]? =some y:=⟨c[i]'(by omega),b9 _⟩;have:=K i I;rw [o,q0] at this;obtain ⟨us,O,Z⟩:=this;obtain ⟨_,p,s⟩:=World.cells?_some O;exact ⟨us,y,p,s,Z,λ_=>o⟩
   .obtain ⟨y,o⟩:∃y,rest[i-len]? =some y:=⟨rest[i-len]'(by omega),b9 _⟩;have:=B (i-len) (by omega);rw [o,q0,show len+(i-len)=i by omega] at this;obtain ⟨us,O,Z⟩:=this;obtain ⟨_,p,s⟩:=World.cells?_some O;exact ⟨us,y,p,s,Z,λh=>absurd h I⟩
  by_cases L:cap=0
  .subst L;obtain rfl:len=0:=by omega
   exact ⟨(some a,0,0),[],p,bS.emp,⟨by simp,hQ _ (n6 _)⟩,by simp⟩
  .obtain ⟨us0,_,hl0,U,_⟩:=cell 0 (by omega);have N:=U 0 hn;rw [b9 (by omega)] at N;obtain ⟨hs,g,e',fr,M,_⟩:=aj2 N;have w:a.spot=none:=by simpa [Addr.add] using hs
   have k:W.heap[a.block]? =some (.cells g e' fr):=by simpa [Addr.add] using M
   obtain ⟨b,f,sp⟩:=a;simp only at w k;subst w;have at_:∀i j,((⟨b,f,none⟩:Addr).add (i*A.n)).add j=⟨b,f+i*A.n+j,none⟩:=λi j=>by unfold Addr.add;split <;> split <;> simp_all
   have r:∀i,i<cap->∃us y,us.length=A.n/\(∀j,j<A.n->g[f+i*A.n+j]? =us[j]?)/\DataW.trod enc P W 0 (λ_=>true) true m e us=some y/\(i<len->c[i]? =some y):=λi hi=>by obtain ⟨us,y,p,s,Y,X⟩:=cell i hi;refine ⟨us,y,p,λj G=>?_,Y,X⟩;have:=s j G;rw [at_] at this;simpa [World.cell?,k] using this
   have v:f+cap*A.n<=g.size:=by
    obtain ⟨us,_,p,s,_⟩:=r (cap-1) (by omega);have:=s (A.n-1) (by omega);rw [b9 (by omega)] at this;have:=(Array.getElem?_eq_some_iff.1 this).1;have e1:cap*A.n=(cap-1)*A.n+A.n:=by
     have:cap=(cap-1)+1:=by omega
     conv=>lhs;rw [this]
     rw [qn,Nat.one_mul]
    omega
   have J:∀i y,c[i]? =some y->∃z,(A.rd (λ_=>False) W (((g.toList.drop f).drop (i*A.n)).take A.n) z/\D z):=λi y o=>by
    have hi:i<len:=by rw [<-F];exact (List.getElem?_eq_some_iff.1 o).1
    obtain ⟨us,R,p,s,Y,X⟩:=r i (by omega);obtain rfl:R=y:=by have:=X hi;rw [o] at this;exact (gj this).symm
    have S:((g.toList.drop f).drop (i*A.n)).take A.n=us:=by
     apply l9;intro j;by_cases G:j<A.n
     .rw [qg,du G,qv,qv,<-s j G];simp [q7]
     .rw [qg,dk G,lk (by omega)]
    rw [S];exact he m us R (V R (fe o)) Y
   obtain ⟨l,hll,hR⟩:=Pf (λi y z=>A.rd (λ_=>False) W (((g.toList.drop f).drop (i*A.n)).take A.n) z/\D z) c J;have E:l.length=len:=by omega
   have get:∀i (hi:i<l.length),A.rd (λ_=>False) W (((g.toList.drop f).drop (i*A.n)).take A.n) l[i]/\D l[i]:=λi hi=>by obtain ⟨y,o⟩:∃y,c[i]? =some y:=⟨c[i]'(by omega),b9 _⟩;exact hR i y l[i] o (b9 _)
   refine ⟨(some ⟨b,f,none⟩,len,cap),l,p,.inr ⟨b,f,cap,g,e',fr,by rw [E];rfl,(λh=>h),k,by omega,v,?_⟩,⟨by omega,hQ _ (by omega)⟩,λz hz=>?_⟩
   .have hle:l.length*A.n<=cap*A.n:=hU _ (by omega);refine ⟨?_,λi hi=>?_⟩
    .simp only [dj,iN,eZ];omega
    .have O:i*A.n+A.n<=l.length*A.n:=by rw [<-qR];exact hU _ hi
     rw [qx,qF,hV (by omega)];exact (get i hi).1
   .obtain ⟨i,hi,rfl⟩:=qN hz;exact (get i hi).2
theorem ack{H:Type}{enc:TypeId×Value->H}{P:Program}:∀(n:Nat) (i:TypeId) (t:Ty),fits P n i t=true->∀(o:Nat) (cs:za) (x:DataW H×List MemPlace),
  (∀n,n<=Rows.uptoBulk x.1->Q n)->DataW.trod enc P W 0 (λ_=>true) true o i cs=some x->∃z:t.T,t.rep.rd (λ_=>False) W cs z/\La Q t z:=by
 intro n
 induction n with
 |zero=>intro i t h;cases h
 |succ n ih=>
 intro i t c o cs x hQ h;unfold fits at c;split at c
 .rename_i k v;split at c
  .obtain ⟨z,q,_,w⟩:=DataW.trod_int v h;have e:=qK c;subst e;exact ⟨z,q,w⟩
  .cases c
 .rename_i v;split at c
  .obtain ⟨z,q,_⟩:=DataW.trod_bool v h;exact ⟨z,q,trivial⟩
  .cases c
 .rename_i v;split at c
  .obtain ⟨⟨⟨z⟩⟩,q,_,w⟩:=DataW.trod_string v h;exact ⟨z,q,w⟩
  .cases c
 .rename_i e v;split at c
  next u=>simp only [ar,mN,j0] at c;obtain ⟨⟨q,G⟩,w⟩:=c;obtain ⟨p,zs,a1,a2,Z,Y⟩:=ahV (A:=u.rep) (Q:=Q) (D:=La Q u) v q G o cs x hQ (λo us y K h=>ih e u w o us y K h) h;exact ⟨zs,⟨p,a1,a2⟩,Z,Y⟩
  .cases c
 .rename_i C v;have key:∀t:Ty,CQ P (fits P n) (P.cellsOf i) C.toList 0 t=true->∃z:t.T,t.rep.rd (λ_=>False) W cs z/\La Q t z:=λt c=>by
   obtain ⟨xs,m,_,hx,hl,L,O⟩:=DataW.trod_struct v h;have hb:Rows.uptoBulk x.1=Rows.uptoBulkAll (xs.map (·.1))+1:=by rw [hx];simp only [Rows.uptoBulk]
   have R:∀y∈xs,∀n,n<=Rows.uptoBulk y.1->Q n:=λy K n hn=>hQ n (by have:=Bx (d:=y.1) (l:=xs.map (·.1)) (List.mem_map.2 ⟨y,K,rfl⟩);omega)
   have one:∀(j:Nat) (f:Field) (t:Ty),C.toList[j]? =some f->fits P n f.type t=true->∃z:t.T,t.rep.rd (λ_=>False) W ((cs.drop f.offset).take (P.cellsOf f.type)) z/\La Q t z:=λj f t I ht=>by
    have F:C[j]? =some f:=by simpa using I
    have q:=O j f F;have N:j<xs.length:=by rw [L];exact (Array.getElem?_eq_some_iff.1 F).1
    rw [b9 N] at q;exact ih f.type t ht m _ _ (R _ (de _)) q
   have go:∀(r:List Field) (j s:Nat) (t:Ty),C.toList.drop j=r->CQ P (fits P n) (P.cellsOf i) r s t=true->∃z:t.T,t.rep.rd (λ_=>False) W (cs.drop s) z/\La Q t z:=λr=>by
    induction r with
    |nil=>intro j s t _ h;cases h
    |cons f r J=>
     intro j s t U c;have I:C.toList[j]? =some f:=by have:=congrArg (·[0]?) U;simpa [qv] using this
     have M:C.toList.drop (j+1)=r:=by rw [<-qy,U];rfl
     cases r with
     |nil=>
      simp only [CQ,ar,mN] at c;obtain ⟨⟨⟨q,G⟩,w⟩,S⟩:=c;obtain ⟨z,B,E⟩:=one j f t I S;rw [q,fb (by simp;omega)] at B;exact ⟨z,B,E⟩
     |cons g r=>
      unfold CQ at c;split at c
      next a b=>simp only [ar,mN] at c;obtain ⟨⟨⟨q,G⟩,w⟩,S⟩:=c;obtain ⟨z,B,E⟩:=one j f a I w;obtain ⟨y,X,V⟩:=J (j+1) _ b M S;rw [q] at B;refine ⟨(z,y),⟨_,_,?_,B,X⟩,E,V⟩;rw [<-qy];exact (qt ..).symm
      .cases c
   obtain ⟨z,B,E⟩:=go C.toList 0 0 t rfl c;exact ⟨z,by simpa using B,E⟩
  split at c
  .obtain ⟨e,q,G⟩:=agF (arn c) o cs x h;exact ⟨e,q,hQ _ G⟩
  .exact key _ c
  .cases c
 .cases c
def nY(W:World)(I:fX):Prop:= ∀it∈I,it.1=false/\it.2.cM=true/\∀M,Mv (λ_=>False) W M W->it.2.P M W
theorem nY.nil:nY W []:=λit h=>by cases h
theorem nY.app{I J:fX}(h:nY W I)(k:nY W J):nY W (I++J):=λit bI=>by
 rcases List.mem_append.1 bI with a|a
 .exact h it a
 .exact k it a
theorem nY.one{A:fg α}{p:jP}{l:List α}(h:bS A (λ_=>False) W (sl p) l):nY W [(false,ND true A p l false)]:=λit bI=>by
 rcases List.mem_singleton.1 bI with rfl
 exact ⟨rfl,rfl,λM hm _=>⟨h.mv hm,λh=>by cases h⟩⟩
theorem Kb{W:World}:∀(t:Ty) (cs:za) (x:t.T),WR t=true->t.rep.rd (λ_=>False) W cs x->∀(o:v7) (N:List Nm),∃I N',Qh t x cs (vT t++o) N I N' o/\nY W I
 | .i k,cs,x,hn,h,o,N=>⟨[],N,⟨h,rfl,rfl,rfl⟩,.nil⟩
 | .bo,cs,x,hn,h,o,N=>⟨[],N,⟨h,rfl,rfl,rfl⟩,.nil⟩
 | .s,cs,x,hn,h,o,N=>⟨[],N,⟨h,rfl,rfl,rfl⟩,.nil⟩
 | .un,cs,x,hn,h,o,N=>⟨[],N,⟨h,rfl,rfl,rfl⟩,.nil⟩
 | .n,cs,x,hn,h,o,N=>by cases hn
 | .mp _ _,cs,x,hn,h,o,N=>absurd h id
 | .p a b,cs,x,hn,h,o,N=>by
  simp only [WR,ar] at hn;obtain ⟨c1,e,d,c,r⟩:=h;obtain ⟨j,f,q,v⟩:=Kb a c1 x.1 hn.1 c (vT b++o) N;obtain ⟨g,N2,m,u⟩:=Kb b e x.2 hn.2 r o f;refine ⟨j++g,N2,⟨c1,e,f,j,g,vT b++o,?_,m,d,rfl⟩,v.app u⟩;rw [show vT (.p a b)++o=vT a++(vT b++o) by simp [vT]];exact q
 | .l t,cs,x,hn,h,o,N=>by
  obtain ⟨p,d,c⟩:=h;exact ⟨_,_,⟨⟨0,p,⟨0,0,none⟩,none,.bool false,⟨.un,()⟩⟩,d,rfl,.inl ⟨rfl,rfl⟩⟩,.one c⟩
 | .ex,cs,x,hn,h,o,N=>by obtain ⟨p,d,c⟩:=J0 h;exact ⟨_,_,⟨⟨0,p,⟨0,0,none⟩,none,.bool false,⟨.un,()⟩⟩,d,rfl,.inl ⟨rfl,rfl⟩⟩,.one c⟩
def Arg(W:World)(t:Ty)(v:Value)(z:t.T):Prop:= ∀N:List Nm,∃I N',Sem (aqk t) v none none N [⟨t,z⟩] I [] N'/\nY W I
theorem acx{H:Type}{enc:TypeId×Value->H}{P:Program}{o:Nat}{n:Nat}{i:TypeId}(t:Ty)(f:fits P n i t=true){v:Value}{d:DataW H}{ps:List MemPlace}
  (l:Value.okWide P W .any o i v) (hQ:∀n,n<=Rows.uptoBulk d->Q n) (h:DataW.Trod enc P W 0 (λ_=>true) true i v d ps):∃z:t.T,Arg W t v z/\La Q t z:=by
 have hk:=h;obtain ⟨m,hx⟩:=h;obtain ⟨z,c,w⟩:=ack n i t f m _ _ hQ hx;refine ⟨z,?_,w⟩;cases n with
 |zero=>cases f
 |succ n=>
 unfold fits at f;split at f
 .rename_i k j;split at f
  .have e:=qK f;subst e;obtain ⟨y,rfl,_⟩:=open_int j l hk;have:y=z:=by
    have c:([.int k y]:za)=[.int k z]:=c;injection c with c _
    injection c
   subst this;exact λN=>⟨[],N,⟨y,rfl,rfl,rfl,rfl,rfl⟩,.nil⟩
  .cases f
 .rename_i j;split at f
  .obtain ⟨y,rfl,_⟩:=open_bool j l hk;have:y=z:=by
    have c:([.bool y]:za)=[.bool z]:=c;injection c with c _
    injection c
   subst this;exact λN=>⟨[],N,⟨y,rfl,rfl,rfl,rfl,rfl⟩,.nil⟩
  .cases f
 .rename_i j;split at f
  .obtain ⟨⟨⟨y⟩⟩,rfl,_⟩:=open_string j l hk;have:y=z:=by
    have c:([S y]:za)=[S z]:=c;injection c with c _
    injection c with c
    injection c with c
    injection c
   subst this;exact λN=>⟨[],N,⟨y,rfl,rfl,rfl,rfl,rfl⟩,.nil⟩
  .cases f
 .rename_i e j;split at f
  .rename_i u;obtain ⟨a,len,cap,rfl⟩:=okWide_slice j l;obtain ⟨p,r,q⟩:=c;have x:Value.slice a len cap=sl p:=by simpa [Value.cells] using r
   rw [x];exact λN=>⟨_,_,⟨⟨0,p,⟨0,0,none⟩,none,.bool false,⟨.un,()⟩⟩,z,rfl,rfl,rfl,rfl,rfl⟩,.one q⟩
  .cases f
 .rename_i B j;obtain ⟨cs,rfl,_,_⟩:=apN j l;split at f
  .obtain ⟨p,r,q⟩:=J0 c;exact λN=>⟨_,_,⟨cs.toList,z,[],by simp,rfl,⟨⟨0,p,⟨0,0,none⟩,none,.bool false,⟨.un,()⟩⟩,r,rfl,.inl ⟨rfl,rfl⟩⟩,rfl⟩,.one q⟩
  .rename_i a b;exact λN=>by
    obtain ⟨I,A,s,g⟩:=Kb (.p a b) _ z (MU (λi t=>abf n i t) _ _ _ f) c [] N;exact ⟨I,A,⟨cs.toList,z,[],by simp,rfl,by simpa [Value.cells] using s,rfl⟩,g⟩
  .cases f
 .cases f
def ama(W:World)(ps:List Pt)(vs:za)(D:List cm):Prop:= ∀N:List Nm,∃I N',yp ps vs [] [] N D I [] N'/\nY W I
theorem ake:ama W [] [] []:=λN=>⟨[],N,⟨rfl,rfl,rfl,rfl,rfl⟩,.nil⟩
theorem aiu{W:World}{t:Ty}{v:Value}{z:t.T}{ps:List Pt}{vs:za}{D:List cm}(h:Arg W t v z)(k:ama W ps vs D):ama W (aqk t::ps) (v::vs) (⟨t,z⟩::D):=λN=>by obtain ⟨c,a,e,g⟩:=h N;obtain ⟨b,N2,d,f⟩:=k a;exact ⟨c++b,N2,⟨v,vs,[⟨t,z⟩],D,c,b,[],[],a,rfl,e,d,rfl,rfl,rfl⟩,g.app f⟩
theorem aki{I:fX}{Γ:Ctx}(g:nY W I)(hn:Xi Γ)(h:Sat Γ W):Sat (dE I++Γ) W:=E7 h _ (λit bI=>by obtain ⟨x,hx,rfl⟩:=List.mem_map.1 bI;exact ⟨(g x hx).2.1,(g x hx).2.2 _ (amJ hn)⟩)
namespace Ns
theorem arG{a:Au}(h:La (λn=>n<=1048576) (.p (.l (.l .ex)) (.p (.l (.l (.i .i64))) (.p (.l (.i .i64)) (.l (.l (.i .i64)))))) a):Ud a:=
 ⟨h.1.1.2,λl hl=>⟨(h.1.2 l hl).1.2,λe b=>(h.1.2 l hl).2 e b⟩,h.2.1.1.2,λl hl=>(h.2.1.2 l hl).1.2,h.2.2.1.1.2,h.2.2.2.1.2,λl hl=>(h.2.2.2.2 l hl).1.2⟩
theorem ar2{x:Int}(h:(Lit.int .u8 x).wf=true):0<=x/\x<=255:=by simp only [Lit.wf,ar,eY] at h;exact h
theorem al1(w:aE×Au×Int×Int)(h:La (λn=>n<=1048576) (.p .s (.p (.p (.l (.l .ex)) (.p (.l (.l (.i .i64))) (.p (.l (.i .i64)) (.l (.l (.i .i64)))))) (.p (.i .u8) (.i .u64)))) w):jD w=some true:=
 acP w (arG h.2.1) (ar2 h.2.2.1)
end Ns
end
end Go.Proofs.YtcgihjbfppkcfaaGreatDoor
