/-
  Own texts for the statement NestRounds, cut down to what it needs: PdX, NsA, NsB, NsC, NsD, SysErr, StC1, StC2, TrREval, StC4, TrFew2, TrMay, NsE, TrFew, NsF, NsG, NsH, NsI, NsJ, KFr, KFx, KArg, NsJt. (cut and joined by a program)
-/
import Derived.Test.YtcgihjbfppkcfaaGreatDoorNestRoundsJ
import Derived.Lib.LaidTab
import Derived.Below
import Derived.ProofKit
import Derived.Test.YtcgihjbfppkcfaaGreatDoorRows
import Derived.Carry
import Derived.ChangeSlices
import Derived.OpenShut
set_option linter.unusedVariables false
set_option linter.unusedSimpArgs false
set_option linter.unusedSectionVars false
namespace Go.Proofs.YtcgihjbfppkcfaaGreatDoor
open IntKind (u64)
noncomputable section
variable {k : Nat} {q : Int} {v : zj}
namespace Pd
open Sp
theorem ad3{l:zj}{u:Nat}(a:u<18446744073709551616)(hl:l.length<100000000000):Ua l (u:Int) 10=some (l++aQ (Lib.decDigits u)):=by
 unfold Ua;rw [show ((10:Int)==10)=true from rfl,cx (by omega),cx (by omega),iQ,iQ,iQ,
  Sy.aP (Sy.dw (by omega) (by omega)),gr]
theorem ar2{x:Int}(b:0<=x)(a:x<18446744073709551616):u64.wrap x=x:=by rw [IntKind.wrap_u64];omega
theorem anY{l:zj}{i:Int}(c: -9223372036854775808<=i)(b:i<=9223372036854775807)(hl:l.length<10000000000):lY l i 10=some (l++aQ (Lib.itoa i)):=by
 unfold lY jX;simp only [aM];by_cases hi:i<0
 .rw [cx hi,ca,Sy.aP (Sy.dw (by simp;omega) (by simp;omega))];obtain ⟨u,rfl⟩:∃u:Nat,i= -(u):=⟨i.natAbs,by omega⟩;have a:u64.wrap (0-u64.wrap (-(u)))=(u):=by grind [IntKind.wrap_u64]
  unfold iL;rw [a,ad3 (by omega) (by simp;omega),ah,ah,show Lib.itoa (-(u))=45::Lib.decDigits u from by simp_all [Lib.itoa]];simp [aQ]
 .rw [cy hi,b7];obtain ⟨u,rfl⟩:∃u:Nat,i=(u):=⟨i.toNat,by omega⟩;unfold iL;rw [ar2 (by omega) (by omega),ad3 (by omega) (by omega),ah,ah,show Lib.itoa (u)=Lib.decDigits u from by simp_all [Lib.itoa]]
def keyOf(v:zj):aE:=v.flatMap λn=>32::Lib.itoa n
theorem ZN(v:zj):keyOf v++[32]=32::fm v:=by
 induction v with
 |nil=>rfl
 |cons x r ih=>
  grind [keyOf,fm,List.append_assoc]
theorem key_inj{a b:zj}(h:keyOf a=keyOf b):a=b:=by grind [keyOf,ZN,Rh,List.cons.inj]
theorem aoq(a b:zj):keyOf (a++b)=keyOf a++keyOf b:=by simp [keyOf]
theorem ao2(h:vF v):(keyOf v).length<=21*v.length:=by have a:=congrArg List.length (ZN v);grind [abH]
def uQ(l:wq)(at_:Option (List (aE×Bool))):Prop:=(at_=none->l=[])/\∀v,ew at_ (keyOf v) false=l.contains v
theorem WQ:uQ [] none:=⟨λ_=>rfl,λa=>rfl⟩
theorem ao1{x:zj}{l:wq}{a:List (aE×Bool)}(f:l.length<1000000000)(d:uQ l (some a)):
  ∃at',(bif (!(ew (some a) (strOf (aQ (keyOf x))) false)) then ((some a).bind λb=>aN (aH (List.length l+List.length ([x]:wq)) 24)<|some ((l++([x]:wq)),(some (mo b (strOf (aQ (keyOf x))) true)))) else some (l,some a))=some (iz l x,at')/\uQ (iz l x) at':=by
 have k1:aH (List.length l+List.length ([x])) 24=true:=Sy.dw (by simp;omega) (by simp;omega);rw [Le,d.2 x];unfold iz;cases g:l.contains x
 .simp only [Sy.aP k1,eF];refine ⟨_,rfl,(λh=>by cases h),λu=>?_⟩;have c:=d.2 u;unfold ew at c ⊢;simp at c ⊢;rw [Gq,c];have e:(keyOf u==keyOf x)=(u==x):=by grind [beq_eq_false_iff_ne,key_inj]
  grind
 grind
theorem Qs{x:zj}(hx:vF x)(hl:x.length<100000000){l:wq}{c:List (aE×Bool)}(b:l.length<1000000000)(d:uQ l (some c)):
  ∀(r pre:zj),x=pre++r->∀M,r.length<M->∃a,aj (sZ x l (some c)) M (aQ (keyOf pre),(pre.length:Int))=some (iz l x,a)/\uQ (iz l x) a
 |[],pre,h,M,hM=>by
  obtain ⟨m,rfl⟩:∃m,M=m+1:=⟨M-1,by omega⟩;rw [ao];simp only [sZ,Sy.uS h];have e:pre=x:=by rw [h];simp
  rw [e];exact ao1 b d
 |n::r,pre,h,M,hM=>by
  obtain ⟨m,rfl⟩:∃m,M=m+1:=⟨M-1,by omega⟩;rw [ao];have hn:=hx n (by rw [h];simp);have hp:vF pre:=λn hn=>hx n (by grind);have hk:=ao2 hp;obtain ⟨a,g,f⟩:=Qs hx hl b d r (pre++[n]) (by rw [h];simp) m (by simp at hM;omega);have i:aQ (keyOf (pre++[n]))=(aQ (keyOf pre)++[32])++aQ (Lib.itoa n):=by rw [aoq,PO];simp [keyOf,qU,List.flatMap_nil,j5,cb];rfl
  simp [sZ,Sy.lL h];grind [Sy.aP,Sy.dw,HB,anY,List.length_append,ah,Pa.bR]
structure Row(x:zj):Prop where
 i64:vF x
 short:x.length<100000000
theorem add_eq{x:zj}(hx:Row x){l:wq}{at_:Option (List (aE×Bool))}(a:l.length<1000000000)(b:uQ l at_):
  ∃at',tT x l at_=some (iz l x,at')/\uQ (iz l x) at':=by
 cases at_ with
 |none=>
  exact Qs hx.i64 hx.short a ⟨(λh=>by cases h),λu=>b.2 u⟩ x [] rfl au (by have:=hx.short;show _<2^64;omega)
 |some c=>
  exact Qs hx.i64 hx.short a b x [] rfl au (by have:=hx.short;show _<2^64;omega)
abbrev Au:=List (List Ex)×wq×zj×wq
structure uU(a:Au)(k:Nat):Prop where
 lits:a.1.length=k
 next:a.2.1.length=k
 dT:k<=5000
 row:∀l∈a.1,l.length<=5000/\∀e∈l,e.sz<1000000
 init:a.2.2.1.length<=5000/\∀q∈a.2.2.1,0<=q/\q<k
 nxt:∀l∈a.2.1,l.length<=5000/\∀q∈l,0<=q/\q<k
def aaE(a:Au)(q:Int):List Ex:=(a.1[q.toNat]?).getD []
def vL(a:Au)(q:Int):zj:=(a.2.1[q.toNat]?).getD []
def ob(a:Au)(q:Int)(v:zj):Bool:=(aaE a q).all λe=>ev v e==1
theorem Wx(s:List Ex)(v:zj)(d:s.length<=5000)(b:∀e∈s,e.sz<1000000):∀(r pre:List Ex),s=pre++r->∀M,r.length<M->
  ∃i:Int,aj (dH s v) M (pre.length:Int)=some i/\decide (0<=i)= !(r.all λe=>ev v e==1)
 |[],pre,h,M,hM=>by
  obtain ⟨m,rfl⟩:∃m,M=m+1:=⟨M-1,by omega⟩;rw [ao];simp only [dH,Sy.uS h];exact ⟨_,rfl,rfl⟩
 |e::r,pre,h,M,hM=>by
  obtain ⟨m,rfl⟩:∃m,M=m+1:=⟨M-1,by omega⟩;rw [ao];have a:pre.length+r.length+1=s.length:=by rw [h];simp;omega
  have c:=b e (by rw [h];simp);obtain ⟨i,g,f⟩:=Wx s v d b r (pre++[e]) (by rw [h];simp) m (by simp at hM;omega);simp [dH,Sy.lL h,ah,A5,Wd e (by omega) v,Pa.bR (show pre.length<4611686018427387904 by omega)];grind
theorem UQ{α:Type}{l:List α}(hl:l.length=k)(h:0<=q/\q<k):∃x,idx l q=some x/\l[q.toNat]? =some x/\x∈l:=by simp_all [idx]
theorem adk{a:Au}(ha:uU a k){q:Int}(b:0<=q/\q<k)(v:zj):Fp a q v=some (ob a q v):=by obtain ⟨s,j,h,e⟩:=UQ ha.lits b;obtain ⟨d,c⟩:=ha.row s e;obtain ⟨i,g,f⟩:=Wx s v d c s [] rfl au (by show _<2^64;omega);unfold Fp fW gV ob aaE;grind
def dN(a:Au)(v:zj)(qs:zj):wq:=(qs.filter λq=>ob a q v).map λq=>v++[q]
theorem GM{a:Au}{qs:zj}:(dN a v qs).length<=qs.length:=by grind [dN,List.length_map,List.length_filter_le]
theorem S2{a:Au}{v qs:zj}{q:Int}:dN a v (q::qs)=if ob a q v then (v++[q])::dN a v qs else dN a v qs:=by grind [dN]
theorem alO(a:vF v)(hl:v.length<1000000)(hk:k<=5000)(b:0<=q/\q<k):Row (v++[q]):=
 ⟨λn hn=>by
  rcases List.mem_append.1 hn with h|h
  .exact a n h
  grind,by simp;omega⟩
theorem JL{l a b:wq}:di l (a++b)=di (di l a) b:=by simp [di]
theorem aeG{a:Au}(ha:uU a k){v:zj}(g:vF v)(hl:v.length<1000000){q:Int}(i:0<=q/\q<k){l:wq}{at_:Option (List (aE×Bool))}(j:l.length<100000000)(h:uQ l at_){R:Type}(d go:wq->Option (List (aE×Bool))->Option R):
  ∃c,(bif ob a q v then ((bu v).bind λe=>aN (aH (List.length e+List.length ([q]:zj)) 8)<|(tT (e++([q]:zj)) l at_).bind λb=>ai (!true) λf=>bif f then d b.1 b.2 else go b.1 b.2) else go l at_)=
   go (if ob a q v then iz l (v++[q]) else l) c/\uQ (if ob a q v then iz l (v++[q]) else l) c:=by
 cases o:ob a q v
 .grind
 .obtain ⟨c,n,m⟩:=add_eq (alO g hl ha.dT i) (by omega) h;refine ⟨c,?_,m⟩;rw [ca,Qq v (by omega),ah,Sy.aP (Sy.dw (by simp;omega) (by simp;omega)),n,ah];rfl
theorem Xo{a:Au}{k:Nat}(ha:uU a k){v:zj}(e:vF v)(hl:v.length<1000000)(qs:zj)(c:qs.length<=5000)(f:∀q∈qs,0<=q/\q<k):∀(r pre:zj),qs=pre++r->∀(l:wq) (at_:Option (List (aE×Bool))) (M:Nat),uQ l at_->l.length<=pre.length->r.length<M->
  aj (tE (qs,a.1,a.2.1,a.2.2.1,a.2.2.2,v)) M ((pre.length:Int),l,at_)=some (di l (dN a v r))
 |[],pre,h,l,at_,M,hs,hll,hM=>by
  obtain ⟨m,rfl⟩:∃m,M=m+1:=⟨M-1,by omega⟩;rw [ao];simp only [tE,Sy.uS h];rfl
 |q::r,pre,h,l,at_,M,hs,hll,hM=>by
  obtain ⟨m,rfl⟩:∃m,M=m+1:=⟨M-1,by omega⟩;rw [ao];have g:pre.length+r.length+1=qs.length:=by rw [h];simp;omega
  have b:=f q (by rw [h];simp);simp only [tE,Sy.uM h,Sy.lL h,ah];rw [show (a.1,a.2.1,a.2.2.1,a.2.2.2)=a from rfl,adk ha b,ah,Pa.bR (by omega)];obtain ⟨d,n,j⟩:=aeG ha e hl b (by omega) hs (λl _=>some l) (λl o=>aj (tE (qs,a.1,a.2.1,a.2.2.1,a.2.2.2,v)) m (((pre.length+1:Nat)),l,o));rw [n,S2];have i:(if ob a q v then iz l (v++[q]) else l).length<=pre.length+1:=by grind [Ed]
  have ih:=Xo ha e hl qs c f r (pre++[q]) (by rw [h];simp) _ d m j (by simp;omega) (by simp at hM;omega);rw [show ((pre++[q]).length)=((pre.length+1:Nat)) by simp] at ih;rw [ih];cases ob a q v <;> rfl
theorem apy{m:Sy.bw}(hm:SafeS m.2.1 m.2.2.2.2)(hi:sW m.2.1 m.2.2.1){a:Au}{k:Nat}(ha:uU a k):Bx m a=some (di [] (dN a m.2.2.1 a.2.2.1)):=by unfold Bx BQ;rw [ah];have b:=hi.len;have c:=hm.dT;exact Xo ha (hi.i64 hm) (by omega) a.2.2.1 ha.init.1 ha.init.2 a.2.2.1 [] rfl [] none au WQ (cH _) (by have:=ha.init.1;show _<2^64;omega)
theorem ada{a:Au}{k:Nat}(ha:uU a k){v:zj}(g:vF v)(hl:v.length<1000000)(t:Int)(b:wq×(Option (List (aE×Bool)))×Int->Option (wq×Int))(qs:zj)(e:qs.length<=5000)(i:∀q∈qs,0<=q/\q<k):
  ∀(r pre:zj),qs=pre++r->∀(l:wq) (at_:Option (List (aE×Bool))) (M:Nat),uQ l at_->l.length<=10000000+pre.length->r.length<M->
  ∃c,aj (tB t b (qs,a.1,a.2.1,a.2.2.1,a.2.2.2,v)) M ((pre.length:Int),l,at_)=b (di l (dN a v r),c,IntKind.i64.wrap (t+1))/\uQ (di l (dN a v r)) c
 |[],pre,h,l,at_,M,hs,hll,hM=>by
  obtain ⟨m,rfl⟩:∃m,M=m+1:=⟨M-1,by omega⟩;rw [ao];simp only [tB,Sy.uS h];exact ⟨at_,rfl,hs⟩
 |q::r,pre,h,l,at_,M,hs,hll,hM=>by
  obtain ⟨m,rfl⟩:∃m,M=m+1:=⟨M-1,by omega⟩;rw [ao];have j:pre.length+r.length+1=qs.length:=by rw [h];simp;omega
  have d:=i q (by rw [h];simp);simp only [tB,Sy.uM h,Sy.lL h,ah];rw [show (a.1,a.2.1,a.2.2.1,a.2.2.2)=a from rfl,adk ha d,ah,Pa.bR (by omega)];obtain ⟨c,s,p⟩:=aeG ha g hl d (by omega) hs (λl f=>b (l,f,IntKind.i64.wrap (t+1))) (λl f=>aj (tB t b (qs,a.1,a.2.1,a.2.2.1,a.2.2.2,v)) m (((pre.length+1:Nat)),l,f));rw [s,S2];have n:(if ob a q v then iz l (v++[q]) else l).length<=10000000+(pre.length+1):=by grind [Ed]
  have ih:=ada ha g hl t b qs e i r (pre++[q]) (by rw [h];simp) _ c m p (by simp;omega) (by simp at hM;omega);rw [show ((pre++[q]).length)=((pre.length+1:Nat)) by simp] at ih;cases o:ob a q v <;> rw [o] at ih <;> exact ih
def vX(a:Au)(qs:zj)(ws:wq):wq:=ws.flatMap λw=>dN a w qs
theorem L4{a:Au}{qs:zj}(h:qs.length<=5000):∀ws:wq,(vX a qs ws).length<=5000*ws.length
 |[]=>by simp [vX]
 |w::ws=>by have:=L4 (a:=a) h ws;grind [GM,vX,List.length_append,List.length_cons]
theorem BS{a:Au}{k:Nat}(ha:uU a k){r11:zj×Int}{b:wq×Int}(i:0<=r11.2/\r11.2<k)(g:∀w∈b.1,vF w/\w.length<1000000)(hn:b.1.length<=1000):
  ∀(r pre:wq),b.1=pre++r->∀(l:wq) (at_:Option (List (aE×Bool))) (M:Nat),uQ l at_->l.length<=5000*pre.length->r.length<M->
   aj (tZ a r11 b) M (l,at_,(pre.length:Int))=some (di l (vX a (vL a r11.2) r),0)
 |[],pre,h,l,at_,M,hs,hll,hM=>by
  obtain ⟨m,rfl⟩:∃m,M=m+1:=⟨M-1,by omega⟩;rw [ao];simp only [tZ,Sy.uS h];rfl
 |w::r,pre,h,l,at_,M,hs,hll,hM=>by
  obtain ⟨m,rfl⟩:∃m,M=m+1:=⟨M-1,by omega⟩;rw [ao];have j:pre.length+r.length+1=b.1.length:=by rw [h];simp;omega
  obtain ⟨qs,t,u,s⟩:=UQ ha.next i;have c:=ha.nxt qs s;have p:vL a r11.2=qs:=by grind [vL]
  obtain ⟨e,d⟩:=g w (by rw [h];simp);simp [tZ,Sy.lL h,ah,t,BQ];obtain ⟨f,n,q⟩:=ada ha e d (pre.length) (aj (tZ a r11 b) m) qs c.1 c.2 qs [] rfl l at_ au hs (by omega) (by show _<2^64;omega);rw [show ((([]:zj).length):Int)=0 from rfl] at n;rw [n,Pa.bR (by omega)];have hd:=rG (dN a w qs) l;have o:=GM (a:=a) (v:=w) (qs:=qs);have ih:=BS ha i g hn r (pre++[w]) (by rw [h];simp) _ f m q (by simp;omega) (by simp at hM;omega);grind [vX,JL]
def Jp(m:Sy.bw)(a:Au)(v:zj)(q:Int):wq×Int:=
 if (fL m.2.1 m.2.2.2.2 v).2=0 then (di [] (vX a (vL a q) (fL m.2.1 m.2.2.2.2 v).1),0) else ([],(fL m.2.1 m.2.2.2.2 v).2)
theorem aep{n:Nat}:kE 0 (n:Int) (n:Int) (n+1)=true:=by grind [kE]
theorem abf(b:v.length<1000000):xK (v++[q])=some (v,q):=by
 unfold xK;have a:IntKind.i64.wrap ((List.length (v++[q]))-1)=(v.length):=by grind [bG]
 rw [a,show (v++[q]).length=v.length+1 by simp,Sy.aP (by rw [aep];simp)];have c:idx (v++[q]) (v.length)=some q:=by unfold idx;grind
 simp_all [aV]
theorem amO{m:Sy.bw}(hm:SafeS m.2.1 m.2.2.2.2){v:zj}(b:sW m.2.1 v){a:Au}{k:Nat}(ha:uU a k){q:Int}(f:0<=q/\q<k):xg m a (v++[q])=some (Jp m a v q):=by
 have g:=b.len;have h:=hm.dT;have d:=No (S:=m.2.1) (cmds:=m.2.2.2.2) v;have i:=hm.cmds;unfold xg Jp;rw [abf (by omega),ah,aou hm b,ah];by_cases c:(fL m.2.1 m.2.2.2.2 v).2=0
 .rw [du c,show ((fL m.2.1 m.2.2.2.2 v).2 != 0)=false by simpa using c,b7];have:=BS ha (r11:=(v,q)) f (λw e=>by have hi:=Qc b w e;have:=hi.len;exact ⟨hi.i64 hm,by omega⟩) (by omega) (fL m.2.1 m.2.2.2.2 v).1 [] rfl [] none au WQ (n6 _) (by show _<2^64;omega)
  exact this
 grind
def St(m:Sy.bw)(k:Nat)(x:zj):Prop:= ∃v q,x=v++[q]/\sW m.2.1 v/\0<=q/\q<(k:Int)
def cC(m:Sy.bw)(a:Au)(x:zj):wq×Int:=Jp m a x.dropLast (x.getLastD 0)
theorem KO(m:Sy.bw)(a:Au)(v:zj)(q:Int):cC m a (v++[q])=Jp m a v q:=by unfold cC;grind
theorem akE{m:Sy.bw}(hm:SafeS m.2.1 m.2.2.2.2){a:Au}{k:Nat}(ha:uU a k){x:zj}(hx:St m k x):xg m a x=some (cC m a x):=by obtain ⟨v,q,rfl,b,d,c⟩:=hx;grind [KO,amO]
theorem GC{a:Au}{qs y:zj}(h:y∈dN a v qs):∃q,q∈qs/\ob a q v=true/\y=v++[q]:=by unfold dN at h;grind
theorem Wl{a:Au}{k:Nat}(ha:uU a k){q:Int}(b:0<=q/\q<k):(vL a q).length<=5000/\∀p∈vL a q,0<=p/\p<(k:Int):=by obtain ⟨qs,e,d,c⟩:=UQ ha.next b;unfold vL;rw [d];exact ha.nxt qs c
theorem abq{m:Sy.bw}{a:Au}(ha:uU a k){x:zj}(hx:St m k x):∀y∈(cC m a x).1,St m k y:=by
 obtain ⟨v,q,rfl,e,g,f⟩:=hx;rw [KO];intro y b;unfold Jp at b;split at b
 .rcases mR.1 b with h|h
  .cases h
  .obtain ⟨w,d,c⟩:=List.mem_flatMap.1 h;obtain ⟨p,hp,_,rfl⟩:=GC c;have:=(Wl ha ⟨g,f⟩).2 p hp;exact ⟨w,p,rfl,Qc e w d,this.1,this.2⟩
 .cases b
theorem WR{m:Sy.bw}(hm:SafeS m.2.1 m.2.2.2.2){a:Au}{k:Nat}(ha:uU a k){x:zj}(hx:St m k x):(cC m a x).1.length<=2000000:=by
 obtain ⟨v,q,rfl,d,c,b⟩:=hx;rw [KO];unfold Jp;split
 .have h:=rG (vX a (vL a q) (fL m.2.1 m.2.2.2.2 v).1) [];have g:=L4 (a:=a) (Wl ha ⟨c,b⟩).1 (fL m.2.1 m.2.2.2.2 v).1;have f:=No (S:=m.2.1) (cmds:=m.2.2.2.2) v;have e:=hm.cmds;grind
 .simp
end Pd
namespace Ns
abbrev V:=zj
abbrev lM:=List (V×List V)
abbrev bw:=Sy.bw
abbrev Au:=Pd.Au
abbrev St:=So.St
abbrev FT:=Int×w5×Int×Int×wq×zj×zj×(List (Int×wq×zj))×Int×wq×zj×zj×(List (Int×wq×zj))×zj×Int×(List (w5×Int))×Int×Int×zj×Int×(List (w5×Int))×Int×Int×zj×Int×(List (w5×Int))×Int×Int×zj×Int×Int×Int×zj×zj×zj
abbrev fl(t:St):FT:=(t.1,t.2.1,t.2.2.1,t.2.2.2.1.1.1,t.2.2.2.1.1.2.1,t.2.2.2.1.1.2.2,t.2.2.2.1.2,t.2.2.2.2.1.1,t.2.2.2.2.1.2.1.1,t.2.2.2.2.1.2.1.2.1,t.2.2.2.2.1.2.1.2.2,t.2.2.2.2.1.2.2,t.2.2.2.2.2.1.1,t.2.2.2.2.2.1.2,t.2.2.2.2.2.2.1.1.1,t.2.2.2.2.2.2.1.1.2.1,t.2.2.2.2.2.2.1.1.2.2.1,t.2.2.2.2.2.2.1.1.2.2.2.1,t.2.2.2.2.2.2.1.1.2.2.2.2,t.2.2.2.2.2.2.1.2.1.1,t.2.2.2.2.2.2.1.2.1.2.1,t.2.2.2.2.2.2.1.2.1.2.2.1,t.2.2.2.2.2.2.1.2.1.2.2.2.1,t.2.2.2.2.2.2.1.2.1.2.2.2.2,t.2.2.2.2.2.2.1.2.2.1,t.2.2.2.2.2.2.1.2.2.2.1,t.2.2.2.2.2.2.1.2.2.2.2.1,t.2.2.2.2.2.2.1.2.2.2.2.2.1,t.2.2.2.2.2.2.1.2.2.2.2.2.2,t.2.2.2.2.2.2.2.1,t.2.2.2.2.2.2.2.2.1,t.2.2.2.2.2.2.2.2.2.1,t.2.2.2.2.2.2.2.2.2.2.1,t.2.2.2.2.2.2.2.2.2.2.2.1,t.2.2.2.2.2.2.2.2.2.2.2.2)
abbrev Er:=(Int×V) ⊕ (List V×List V)
section
variable {β : Type} (x : V) (s : lM) (m : bw) (a : Au) (t : St) (k : Int)
abbrev I9(f:Int->w5->Int->Int->wq->zj->zj->List (Int×wq×zj)->Int->wq->zj->zj->List (Int×wq×zj)->zj->Int->List (w5×Int)->Int->Int->zj->Int->List (w5×Int)->Int->Int->zj->Int->List (w5×Int)->Int->Int->zj->Int->Int->Int->zj->zj->zj->β):β:=f t.1 t.2.1 t.2.2.1 t.2.2.2.1.1.1 t.2.2.2.1.1.2.1 t.2.2.2.1.1.2.2 t.2.2.2.1.2 t.2.2.2.2.1.1 t.2.2.2.2.1.2.1.1 t.2.2.2.2.1.2.1.2.1 t.2.2.2.2.1.2.1.2.2 t.2.2.2.2.1.2.2 t.2.2.2.2.2.1.1 t.2.2.2.2.2.1.2 t.2.2.2.2.2.2.1.1.1 t.2.2.2.2.2.2.1.1.2.1 t.2.2.2.2.2.2.1.1.2.2.1 t.2.2.2.2.2.2.1.1.2.2.2.1 t.2.2.2.2.2.2.1.1.2.2.2.2 t.2.2.2.2.2.2.1.2.1.1 t.2.2.2.2.2.2.1.2.1.2.1 t.2.2.2.2.2.2.1.2.1.2.2.1 t.2.2.2.2.2.2.1.2.1.2.2.2.1 t.2.2.2.2.2.2.1.2.1.2.2.2.2 t.2.2.2.2.2.2.1.2.2.1 t.2.2.2.2.2.2.1.2.2.2.1 t.2.2.2.2.2.2.1.2.2.2.2.1 t.2.2.2.2.2.2.1.2.2.2.2.2.1 t.2.2.2.2.2.2.1.2.2.2.2.2.2 t.2.2.2.2.2.2.2.1 t.2.2.2.2.2.2.2.2.1 t.2.2.2.2.2.2.2.2.2.1 t.2.2.2.2.2.2.2.2.2.2.1 t.2.2.2.2.2.2.2.2.2.2.2.1 t.2.2.2.2.2.2.2.2.2.2.2.2
abbrev sU(f:List aE->w5->zj->List aE->List (Int×Ex×List (Int×Ex))->List (List Ex)->wq->zj->wq->β):β:=f m.1 m.2.1 m.2.2.1 m.2.2.2.1 m.2.2.2.2 a.1 a.2.1 a.2.2.1 a.2.2.2
end
noncomputable section
variable (x : V) (s : lM) (m : bw) (a : Au) (t : St) (k : Int)
abbrev Ib:=I9 t (sU m a (jJ x)) k
abbrev UP:=I9 t (sU m a (pH x)) k
abbrev wP:=I9 t (sU m a (fH s x)) k
abbrev Nb:=I9 t (sU m a (nC x)) k
abbrev K4:=I9 t (sU m a (mg s)) k
abbrev ajz:=I9 t (sU m a (wv x)) k
abbrev Vt:=I9 t (sU m a pK) k
abbrev pU:=sU m a kD k
abbrev Bw:=sU m a ny k
abbrev Kw:=sU m a mw k
end
def F0(t:St)(x:V):Option (Except (Int×V) (Bool×St)):=(dD t x).bind λr=>bif (r.2.2 != 0) then some (.error (r.2.2,[])) else some (.ok (r.2.1,r.1))
def Lb(t:St)(x:V):Option (Except (Int×V) (Bool×St)):=Dq (F0 t x) λr=>(dR r.2 x 1).bind λg=>bif g.1 then some (.ok (false,r.2)) else (gA r.2 x 1).bind λs=>some (.ok (true,s.1))
abbrev PM{E A B:Type}(f:A->B)(x:Option (Except E A)):Option (Except E B):=x.map λr=>match r with
 | .error e=> .error e
 | .ok v=> .ok (f v)
theorem Ql(x:V)(m:bw)(a:Au)(t:St)(most:Int):Ib x m a t most=PM (λr:Bool×St=>(r.1,r.2.1,r.2.2.1,r.2.2.2.1,r.2.2.2.2.1.1.1,r.2.2.2.2.1.1.2.1,r.2.2.2.2.1.1.2.2,r.2.2.2.2.1.2,r.2.2.2.2.2.1.1,r.2.2.2.2.2.1.2.1.1,r.2.2.2.2.2.1.2.1.2.1,r.2.2.2.2.2.1.2.1.2.2,r.2.2.2.2.2.1.2.2,r.2.2.2.2.2.2.1.1,r.2.2.2.2.2.2.1.2,r.2.2.2.2.2.2.2.1.1.1,r.2.2.2.2.2.2.2.1.1.2.1,r.2.2.2.2.2.2.2.1.1.2.2.1,r.2.2.2.2.2.2.2.1.1.2.2.2.1,r.2.2.2.2.2.2.2.1.1.2.2.2.2,r.2.2.2.2.2.2.2.1.2.1.1,r.2.2.2.2.2.2.2.1.2.1.2.1,r.2.2.2.2.2.2.2.1.2.1.2.2.1,r.2.2.2.2.2.2.2.1.2.1.2.2.2.1,r.2.2.2.2.2.2.2.1.2.1.2.2.2.2,r.2.2.2.2.2.2.2.1.2.2.1,r.2.2.2.2.2.2.2.1.2.2.2.1,r.2.2.2.2.2.2.2.1.2.2.2.2.1,r.2.2.2.2.2.2.2.1.2.2.2.2.2.1,r.2.2.2.2.2.2.2.1.2.2.2.2.2.2,r.2.2.2.2.2.2.2.2.1,r.2.2.2.2.2.2.2.2.2.1,r.2.2.2.2.2.2.2.2.2.2.1,r.2.2.2.2.2.2.2.2.2.2.2.1,r.2.2.2.2.2.2.2.2.2.2.2.2.1,r.2.2.2.2.2.2.2.2.2.2.2.2.2)) (F0 t x):=by
 unfold Ib I9 sU jJ F0;cases dD t x with
 |none=>rfl
 |some r=>
  obtain ⟨t',b,e⟩:=r;simp;cases e != 0 <;> rfl
theorem aj8(x:V)(m:bw)(a:Au)(t:St)(most:Int):UP x m a t most=PM (λr:Bool×St=>(r.1,r.2.1,r.2.2.1,r.2.2.2.1,r.2.2.2.2.1.1.1,r.2.2.2.2.1.1.2.1,r.2.2.2.2.1.1.2.2,r.2.2.2.2.1.2,r.2.2.2.2.2.1.1,r.2.2.2.2.2.1.2.1.1,r.2.2.2.2.2.1.2.1.2.1,r.2.2.2.2.2.1.2.1.2.2,r.2.2.2.2.2.1.2.2,r.2.2.2.2.2.2.1.1,r.2.2.2.2.2.2.1.2,r.2.2.2.2.2.2.2.1.1.1,r.2.2.2.2.2.2.2.1.1.2.1,r.2.2.2.2.2.2.2.1.1.2.2.1,r.2.2.2.2.2.2.2.1.1.2.2.2.1,r.2.2.2.2.2.2.2.1.1.2.2.2.2,r.2.2.2.2.2.2.2.1.2.1.1,r.2.2.2.2.2.2.2.1.2.1.2.1,r.2.2.2.2.2.2.2.1.2.1.2.2.1,r.2.2.2.2.2.2.2.1.2.1.2.2.2.1,r.2.2.2.2.2.2.2.1.2.1.2.2.2.2,r.2.2.2.2.2.2.2.1.2.2.1,r.2.2.2.2.2.2.2.1.2.2.2.1,r.2.2.2.2.2.2.2.1.2.2.2.2.1,r.2.2.2.2.2.2.2.1.2.2.2.2.2.1,r.2.2.2.2.2.2.2.1.2.2.2.2.2.2,r.2.2.2.2.2.2.2.2.1,r.2.2.2.2.2.2.2.2.2.1,r.2.2.2.2.2.2.2.2.2.2.1,r.2.2.2.2.2.2.2.2.2.2.2.1,r.2.2.2.2.2.2.2.2.2.2.2.2.1,r.2.2.2.2.2.2.2.2.2.2.2.2.2)) (Lb t x):=by
 unfold UP I9 sU pH Lb;show Dq (Ib x m a t most) _=_;rw [Ql];cases F0 t x with
 |none=>rfl
 |some r=>
  cases r with
  |error e=>rfl
  |ok r=>
   obtain ⟨b,t'⟩:=r;show (dR t' x 1).bind _=PM _ ((dR t' x 1).bind _);cases dR t' x 1 with
   |none=>rfl
   |some g=>
    simp;cases g.1 with
    |true=>rfl
    |false=>
     cases gA t' x 1 <;> rfl
def wT(m:bw)(a:Au)(most:Int)(n:Nat)(x:V):Except (Int×V) (List V):=
 if most<=(n:Int) then .error (8,[]) else if (Pd.cC m a x).2=0 then .ok (Pd.cC m a x).1 else .error ((Pd.cC m a x).2,x.dropLast)
theorem N9{m:bw}(hm:Sp.SafeS m.2.1 m.2.2.2.2){a:Au}{k:Nat}(ha:Pd.uU a k){x:V}(hx:Pd.St m k x)(s:lM)(h:s.length<100000000)(t:St)(most:Int):
  wP x s m a t most=some (match wT m a most s.length x with
   | .error e=> .error e
   | .ok l=> .ok (s++[(x,l)])):=by
 unfold wP I9 sU fH wT;simp [So.aM];by_cases c:most<=(s.length)
 .grind
 .rw [dk c,cy c,b7];unfold vQ;rw [show xg (m.1,m.2.1,m.2.2.1,m.2.2.2.1,m.2.2.2.2) (a.1,a.2.1,a.2.2.1,a.2.2.2) x=some (Pd.cC m a x) from Pd.akE hm ha hx];show (ai _ _)=_;simp only [So.aM];by_cases b:(Pd.cC m a x).2=0
  .grind [vR,Pd.cC,Sy.aP,Sy.dw]
  .rw [dk b,show ((Pd.cC m a x).2 != 0)=true by simpa using b,ca];obtain ⟨v,q,rfl,f,i⟩:=hx;have d:v.length<1000000:=by have c:=f.len;have b:=hm.dT;omega
   have g:IntKind.i64.wrap ((List.length (v++[q]))-1)=(v.length):=by grind [bG]
   rw [g,show (v++[q]).length=v.length+1 by simp,Sy.aP (by rw [Pd.aep];simp)];simp [aV]
end Ns
namespace Ns
def wk(nw:St->V->Option (Except (Int×V) (Bool×St)))(se:V->lM->Option Er)(dn:St->lM->Option (Except Er St))(pu:Nat->V->Except (Int×V) (List V)):Nat->St->lM->Option (Except Er St)
 |0,_,_=>none
 |_+1,t,[]=>some (.ok t)
 |n+1,t,(x,[])::s=>(dn t ((x,[])::s)).bind λr=>match r with
  | .error e=>some (.error e)
  | .ok t'=>wk nw se dn pu n t' s
 |n+1,t,(x,y::ys)::s=>match se y ((x,ys)::s) with
  |some e=>some (.error e)
  |none=>(nw t y).bind λr=>match r with
   | .error e=>some (.error (.inl e))
   | .ok (false,t')=>wk nw se dn pu n t' ((x,ys)::s)
   | .ok (true,t')=>match pu (s.length+1) y with
    | .error e=>some (.error (.inl e))
    | .ok l=>wk nw se dn pu n t' ((y,l)::(x,ys)::s)
theorem PE(s:lM)(a:s.length<100000000):∀(r pre:lM),s=pre++r->∀M,r.length<M->aj (uA s) M (pre.map (·.1),(pre.length:Int))=some (s.map (·.1))
 |[],pre,h,M,hM=>by
  obtain ⟨m,rfl⟩:∃m,M=m+1:=⟨M-1,by omega⟩;simp_all [ao,uA,cy]
 |f::r,pre,h,M,hM=>by
  obtain ⟨m,rfl⟩:∃m,M=m+1:=⟨M-1,by omega⟩;have hl:pre.length+r.length+1=s.length:=by rw [h];simp;omega
  have ih:=PE s a r (pre++[f]) (by rw [h];simp) m (by simp at hM;omega);rw [ao];unfold uA;dsimp only;rw [cx (by omega),ca,Sy.lL h,So.ah,Sy.aP (Sy.dw (by simp;omega) (by simp;omega)),Pa.bR (by omega)];have c:pre.map (·.1)++[f.1]=(pre++[f]).map (·.1):=by simp
  have b:((pre.length+1:Nat))=((pre++[f]).length):=by simp
  rw [c,b];exact ih
theorem aiw(s:lM)(a:s.length<100000000):Bh s=some (s.map (·.1)):=PE s a s [] rfl au (by show s.length<2^64;omega)
theorem Sf(a b:V)(hl:a.length=b.length)(ha:a.length<100000000):∀(r pre s ps:V),a=pre++r->b=ps++s->ps.length=pre.length->∀M,r.length<M->aj (gN a b) M (pre.length:Int)=some (decide (r=s))
 |[],pre,s,ps,h,h',hp,M,hM=>by
  obtain ⟨m,rfl⟩:∃m,M=m+1:=⟨M-1,by omega⟩;simp_all [ao,gN,cy]
 |x::r,pre,s,ps,h,h',hp,M,hM=>by
  obtain ⟨m,rfl⟩:∃m,M=m+1:=⟨M-1,by omega⟩;have d:pre.length+r.length+1=a.length:=by rw [h];simp;omega
  match s,h' with
  |[],h'=>
   grind
  |y::s,h'=>
   have ih:=Sf a b hl ha r (pre++[x]) s (ps++[y]) (by rw [h];simp) (by rw [h'];simp) (by simp [hp]) m (by simp at hM;omega);rw [show ((pre++[x]).length)=((pre.length+1:Nat)) by simp] at ih;rw [ao];generalize aj (gN a b) m=k at ih ⊢;unfold gN;rw [cx (by omega),ca,Sy.lL h,So.ah,<-hp,Sy.lL h',So.ah,hp,Pa.bR (by omega)];by_cases c:x=y
   .subst c;simp only [bne_self_eq_false,b7,ih,o5,true_and]
   .rw [show (x != y)=true by simpa using c,ca,cy (by simp [c])]
theorem KA(a b:V)(ha:a.length<100000000):l8 a b=some (decide (a=b)):=by
 unfold l8;by_cases h:a.length=b.length
 .rw [show ((List.length a:Int) != (List.length b))=false by rw [h];simp,b7];exact Sf a b h ha a [] b [] rfl rfl rfl au (by show a.length<2^64;omega)
 .rw [show ((List.length a:Int) != (List.length b))=true by simp;omega,ca,cy (λe=>h (by rw [e]))]
theorem CR(l:V)(q:Int)(hl:l.length<100000000):∀(r pre:V),l=pre++r->∀M,r.length<M->∃j,aj (gO l q) M (pre.length:Int)=some j/\(0<=j↔q∈r)
 |[],pre,h,M,hM=>by
  obtain ⟨m,rfl⟩:∃m,M=m+1:=⟨M-1,by omega⟩;rw [ao];unfold gO;simp_all
 |x::r,pre,h,M,hM=>by
  obtain ⟨m,rfl⟩:∃m,M=m+1:=⟨M-1,by omega⟩;have a:pre.length+r.length+1=l.length:=by rw [h];simp;omega
  obtain ⟨j,b,c⟩:=CR l q hl r (pre++[x]) (by rw [h];simp) m (by simp at hM;omega);rw [ao];generalize aj (gO l q) m=k at b ⊢;unfold gO;rw [cx (by omega),ca,Sy.lL h,So.ah,Pa.bR (by omega)];grind
def arv(a:Au):V:=(a.2.2.2[0]?).getD []
def meet(a:Au)(x:V):Bool:=decide (x.getLastD 0∈arv a)
theorem aks{a:Au}{A:V}{r:List V}(h:a.2.2.2=A::r)(c:A.length<100000000){v:V}{q:Int}(b:v.length<1000000):x7 a (v++[q])=some (meet a (v++[q])):=by unfold x7;rw [Pd.abf b,So.ah,h,show idx (A::r) 0=some A from rfl,So.ah];unfold nM rT;obtain ⟨j,e,d⟩:=CR A q c A [] rfl au (by show A.length<2^64;omega);grind [meet,arv]
theorem back_eq(s:lM)(y seed:V)(o:lM)(a:y.length<100000000)(c:s.length<100000000)(d:o.length<100000000)(b:o≠[]):
  jY s y seed o=some (if y=seed then .error (o.dropLast.map (·.1),s.map (·.1)) else .ok ()):=by
 unfold jY;rw [KA y seed a,So.ah];by_cases h:y=seed
 .have hl:1<=o.length:=by grind
  have e:IntKind.i64.wrap ((List.length o)-1)=((o.length-1:Nat)):=by grind [bG]
  grind [aV,List.dropLast_eq_take,Sy.aP,cZ,List.length,aiw,So.ah]
 grind
abbrev stS(t:St)(s:lM):=(t.1,t.2.1,t.2.2.1,t.2.2.2.1.1.1,t.2.2.2.1.1.2.1,t.2.2.2.1.1.2.2,t.2.2.2.1.2,t.2.2.2.2.1.1,t.2.2.2.2.1.2.1.1,t.2.2.2.2.1.2.1.2.1,t.2.2.2.2.1.2.1.2.2,t.2.2.2.2.1.2.2,t.2.2.2.2.2.1.1,t.2.2.2.2.2.1.2,t.2.2.2.2.2.2.1.1.1,t.2.2.2.2.2.2.1.1.2.1,t.2.2.2.2.2.2.1.1.2.2.1,t.2.2.2.2.2.2.1.1.2.2.2.1,t.2.2.2.2.2.2.1.1.2.2.2.2,t.2.2.2.2.2.2.1.2.1.1,t.2.2.2.2.2.2.1.2.1.2.1,t.2.2.2.2.2.2.1.2.1.2.2.1,t.2.2.2.2.2.2.1.2.1.2.2.2.1,t.2.2.2.2.2.2.1.2.1.2.2.2.2,t.2.2.2.2.2.2.1.2.2.1,t.2.2.2.2.2.2.1.2.2.2.1,t.2.2.2.2.2.2.1.2.2.2.2.1,t.2.2.2.2.2.2.1.2.2.2.2.2.1,t.2.2.2.2.2.2.1.2.2.2.2.2.2,t.2.2.2.2.2.2.2.1,t.2.2.2.2.2.2.2.2.1,t.2.2.2.2.2.2.2.2.2.1,t.2.2.2.2.2.2.2.2.2.2.1,t.2.2.2.2.2.2.2.2.2.2.2.1,t.2.2.2.2.2.2.2.2.2.2.2.2,s)
def adL(m:bw)(k:Nat)(s:lM):Prop:= ∀f∈s,∀y∈f.2,Pd.St m k y
def seI(seed:V)(o:lM)(y:V)(s:lM):Option Er:=if y=seed then some (.inr (o.dropLast.map (·.1),s.reverse.map (·.1))) else none
abbrev wkI(m:bw)(a:Au)(most:Int)(seed:V)(o:lM):=wk Lb (seI seed o) (λt _=>some (.ok t)) (wT m a most)
theorem Ks{m:bw}{a:Au}(ha:Pd.uU a k){most:Int}{n:Nat}{x:V}(hx:Pd.St m k x){l:List V}(h:wT m a most n x= .ok l):∀y∈l,Pd.St m k y:=by grind [wT,Pd.abq]
theorem ado{m:bw}{a:Au}{most:Int}{n:Nat}{x:V}{l:List V}(h:wT m a most n x= .ok l):(n:Int)<most:=by grind [wT]
theorem mH(s:lM)(f:V×List V):(f::s).reverse=s.reverse++[f]:=List.reverse_cons
theorem Ii(s:lM)(f:V×List V)(a:s.length<100000000):IntKind.i64.wrap ((List.length (s.reverse++[f]):Int)-1)=(s.reverse.length:Int):=by grind [bG]
theorem Kg{m:bw}(hm:Sp.SafeS m.2.1 m.2.2.2.2){a:Au}{k:Nat}(ha:Pd.uU a k){most:Int}(c:most<=1048576)(seed:V){o:lM}(B:o.length<100000000)(h:o≠[]):
  ∀(n:Nat) (t:St) (s:lM),s.length<=1048576->adL m k s->aj (pU m a most seed o) n (stS t s.reverse)=PM fl (wkI m a most seed o n t s)
 |0,_,_,_,_=>rfl
 |n+1,t,[],hs,hn=>by
  rw [ao];generalize aj _ n=d;rfl
 |n+1,t,(x,[])::s,hs,hn=>by
  have ih:=Kg hm ha c seed B h n t s (by simp at hs;omega) (λf i=>hn f (cp _ i));rw [ao];generalize aj (pU m a most seed o) n=d at ih ⊢;unfold pU sU kD;dsimp only;simp at hs;rw [mH,cx (by simp),ca,Ii _ _ (by omega),Sy.lL (pre:=s.reverse) (r:=[]) rfl,So.ah];simp only [qq,Int.ofNat_zero];rw [show ((0:Int)==0)=true from rfl,ca];show (some ()).bind _=_;rw [So.ah,Sy.aP (show cZ 0 (s.reverse.length:Int) (List.length (s.reverse++[((x,[]):V×List V)]))=true by unfold cZ;simp;omega),show aV (s.reverse++[((x,[]):V×List V)]) 0 (s.reverse.length:Int)=s.reverse by unfold aV;simp];exact ih
 |n+1,t,(x,y::ys)::s,hs,hn=>by
  have D:Pd.St m k y:=hn _ (c8 ..) y (c8 ..);have w:adL m k ((x,ys)::s):=λf i=>by
   rcases List.mem_cons.1 i with rfl|i
   .exact λz E=>hn _ (c8 ..) z (cp _ E)
   .exact hn f (cp _ i)
  have p:=λt'=>Kg hm ha c seed B h n t' ((x,ys)::s) (by simpa using hs) w;have j:=λt' l (hl:wT m a most (s.length+1) y= .ok l)=>Kg hm ha c seed B h n t' ((y,l)::(x,ys)::s) (by have:=ado hl;simp;omega) (λf i=>by
   rcases List.mem_cons.1 i with rfl|i
   .exact Ks ha D hl
   .exact w f i)
  rw [ao];generalize aj (pU m a most seed o) n=d at p j ⊢;unfold pU sU kD;dsimp only;simp at hs;have u:List.set (s.reverse++[((x,y::ys):V×List V)]) (Int.toNat (s.reverse.length)) (x,ys)=s.reverse++[(x,ys)]:=by simp
  have C:y.length<100000000:=by obtain ⟨v,q,rfl,F,_⟩:=D;have:=F.len;have:=hm.dT;simp;omega
  rw [mH,cx (by simp),ca,Ii _ _ (by omega),Sy.lL rfl,So.ah];simp only [show (((y::ys).length:Int)==0)=false by simp;omega,b7,show idx (y::ys) 0=some y from rfl,So.ah];rw [Sy.aP (by unfold cZ;simp;omega)];have A:aV (y::ys) 1 ((List.length (y::ys)))=ys:=by unfold aV;simp
  simp only [A,u];rw [back_eq _ y seed o C (by simp;omega) B h];unfold wkI wk;simp only [seI];by_cases g:y=seed
  .rw [du g,du g];show some _=some _;rw [mH]
  .rw [dk g,dk g];show gD (UP y m a t most) _ _=_;rw [aj8];cases Lb t y with
   |none=>rfl
   |some r=>
    cases r with
    |error e=>rfl
    |ok r=>
     obtain ⟨b,t'⟩:=r;cases b with
     |false=>
      have:=p t';rw [mH] at this;exact this
     |true=>
      show gD (wP y (s.reverse++[(x,ys)]) m a t' most) _ _=_;rw [N9 hm ha D _ (by simp;omega),show (s.reverse++[((x,ys))]).length=s.length+1 by simp];cases hp:wT m a most (s.length+1) y with
      |error e=>rfl
      |ok l=>
       have:=j t' l hp;rw [mH,mH] at this;exact this
end Ns
namespace Ns
def allI(m:bw)(a:Au)(most:Int)(x:V)(o:lM)(F:Nat)(t:St):Option (Except Er St):=match wT m a most 0 x with
 | .error e=>some (.error (.inl e))
 | .ok l=>wkI m a most x o F t [(x,l)]
def inn(m:bw)(a:Au)(most:Int)(F:Nat)(t:St)(s:lM):Option (Except Er St):=match s with
 |[]=>none
 |(x,l)::r=>bif meet a x then allI m a most x ((x,l)::r).reverse F t else some (.ok t)
def okS(m:bw)(k:Nat)(s:lM):Prop:= ∀f∈s,Pd.St m k f.1/\∀y∈f.2,Pd.St m k y
structure ZQ(a:Au):Prop where
 acc:∃A r,a.2.2.2=A::r/\A.length<100000000
theorem aiH{m:bw}(hm:Sp.SafeS m.2.1 m.2.2.2.2){a:Au}{k:Nat}(ha:Pd.uU a k){most:Int}(b:most<=1048576){x:V}(hx:Pd.St m k x){o:lM}(g:o.length<100000000)(c:o≠[])(t:St):
  Nb x m a t most x o=PM fl (allI m a most x o au t):=by
 unfold Nb I9 sU nC allI;show gD (wP x [] m a t most) _ _=_;rw [N9 hm ha hx [] (by simp)];cases hp:wT m a most ([]).length x with
 |error e=>rfl
 |ok l=>
  have:=Kg hm ha b x g c au t [(x,l)] (by simp) (λf d=>by
   rcases List.mem_cons.1 d with rfl|d
   .exact Ks ha hx hp
   .cases d)
  unfold pU sU at this;rw [<-this];rfl
theorem ak5{m:bw}(hm:Sp.SafeS m.2.1 m.2.2.2.2){a:Au}{k:Nat}(ha:Pd.uU a k)(h:ZQ a){most:Int}(b:most<=1048576){x:V}(hx:Pd.St m k x)(l:List V)(r:lM)(o:r.length<10000000)(t:St):
  K4 ((x,l)::r).reverse m a t most=PM fl (inn m a most au t ((x,l)::r)):=by
 unfold K4 I9 sU mg inn;rw [mH,Ii _ _ (by omega),Sy.lL rfl,So.ah];obtain ⟨A,q,n,j⟩:=h.acc;obtain ⟨v,p,c,f,hp⟩:=hx;have g:v.length<1000000:=by have n:=f.len;have j:=hm.dT;omega
 have i:x7 (a.1,a.2.1,a.2.2.1,a.2.2.2) x=some (meet a x):=by grind [aks]
 rw [i,So.ah];dsimp only;cases meet a x with
 |false=>rfl
 |true=>
  show gD (Nb x m a t most x (r.reverse++[(x,l)])) _ _=_;have d:Pd.St m k x:=⟨v,p,c,f,hp⟩;rw [aiH hm ha b d (by simp;omega) (by simp)];rw [ca,mH];generalize allI m a most x (r.reverse++[(x,l)]) au t=w;cases w with
  |none=>rfl
  |some w=>
   cases w with
   |error e=>cases e <;> rfl
   |ok t'=>rfl
abbrev Y0(m:bw)(a:Au)(most:Int):=wk F0 (λ_ _=>none) (inn m a most au) (wT m a most)
theorem JR{m:bw}(hm:Sp.SafeS m.2.1 m.2.2.2.2){a:Au}{k:Nat}(ha:Pd.uU a k)(d:ZQ a){most:Int}(c:most<=1048576):
  ∀(n:Nat) (t:St) (s:lM),s.length<=1048576->okS m k s->aj (Bw m a most) n (stS t s.reverse)=PM fl (Y0 m a most n t s)
 |0,_,_,_,_=>rfl
 |n+1,t,[],hs,hn=>by
  rw [ao];generalize aj _ n=g;rfl
 |n+1,t,(x,[])::s,hs,hn=>by
  have ih:=λt'=>JR hm ha d c n t' s (by simp at hs;omega) (λf d=>hn f (cp _ d));rw [ao];generalize aj (Bw m a most) n=g at ih ⊢;unfold Bw sU ny;dsimp only;simp at hs;have j:=ak5 hm ha d c (hn _ (c8 ..)).1 [] s (by omega) t;rw [mH] at j ⊢;rw [cx (by simp),ca,Ii _ _ (by omega),Sy.lL (pre:=s.reverse) (r:=[]) rfl,So.ah];simp only [qq,Int.ofNat_zero];rw [show ((0:Int)==0)=true from rfl,ca];show gD (K4 (s.reverse++[(x,[])]) m a t most) _ _=_;rw [j];unfold Y0 wk;dsimp only;cases inn m a most au t ((x,[])::s) with
  |none=>rfl
  |some w=>
   cases w with
   |error e=>cases e <;> rfl
   |ok t'=>
    show aN _ _=_;rw [Sy.aP (show cZ 0 (s.reverse.length:Int) (List.length (s.reverse++[((x,[]):V×List V)]))=true by unfold cZ;simp;omega),show aV (s.reverse++[((x,[]):V×List V)]) 0 (s.reverse.length:Int)=s.reverse by unfold aV;simp];exact ih t'
 |n+1,t,(x,y::ys)::s,hs,hn=>by
  have v:=hn _ (c8 ..);have u:Pd.St m k y:=v.2 y (c8 ..);have i:okS m k ((x,ys)::s):=λf d=>by
   rcases List.mem_cons.1 d with rfl|d
   .exact ⟨v.1,λz A=>v.2 z (cp _ A)⟩
   .exact hn f (cp _ d)
  have q:=λt'=>JR hm ha d c n t' ((x,ys)::s) (by simpa using hs) i;have p:=λt' l (hl:wT m a most (s.length+1) y= .ok l)=>JR hm ha d c n t' ((y,l)::(x,ys)::s) (by have:=ado hl;simp;omega) (λf d=>by
   rcases List.mem_cons.1 d with rfl|d
   .exact ⟨u,Ks ha u hl⟩
   .exact i f d)
  rw [ao];unfold Bw sU ny;dsimp only;simp at hs;have h:List.set (s.reverse++[((x,y::ys))]) (Int.toNat (s.reverse.length)) (x,ys)=s.reverse++[(x,ys)]:=by simp
  rw [mH,cx (by simp),ca,Ii _ _ (by omega),Sy.lL rfl,So.ah];simp only [show idx (y::ys) 0=some y from rfl,So.ah];rw [Sy.aP (by unfold cZ;simp;omega)];have o:aV (y::ys) 1 ((List.length (y::ys)))=ys:=by unfold aV;simp
  simp only [o,h];unfold Y0 wk;show gD (Ib y m a t most) _ _=_;rw [Ql];cases F0 t y with
  |none=>rfl
  |some r=>
   cases r with
   |error e=>rfl
   |ok r=>
    obtain ⟨b,t'⟩:=r;cases b with
    |false=>
     have:=q t';rw [mH] at this;exact this
    |true=>
     show gD (wP y (s.reverse++[(x,ys)]) m a t' most) _ _=_;rw [N9 hm ha u _ (by simp;omega),show (s.reverse++[((x,ys))]).length=s.length+1 by simp];cases hp:wT m a most (s.length+1) y with
     |error e=>rfl
     |ok l=>
      have:=p t' l hp;rw [mH,mH] at this;exact this
def ol(m:bw)(a:Au)(most:Int):List V->St->Option (Except Er St)
 |[],t=>some (.ok t)
 |x::r,t=>(F0 t x).bind λq=>match q with
  | .error e=>some (.error (.inl e))
  | .ok (false,t')=>ol m a most r t'
  | .ok (true,t')=>match wT m a most 0 x with
   | .error e=>some (.error (.inl e))
   | .ok l=>(Y0 m a most au t' [(x,l)]).bind λq=>match q with
    | .error e=>some (.error e)
    | .ok t''=>ol m a most r t''
theorem ajt{m:bw}(hm:Sp.SafeS m.2.1 m.2.2.2.2){a:Au}{k:Nat}(ha:Pd.uU a k)(c:ZQ a){most:Int}(b:most<=1048576){x:V}(hx:Pd.St m k x)(t:St):
  ajz x m a t most=PM fl (match wT m a most 0 x with
   | .error e=>some (.error (.inl e))
   | .ok l=>Y0 m a most au t [(x,l)]):=by
 show gD (wP x [] m a t most) _ _=_;rw [N9 hm ha hx [] (by simp)];cases hp:wT m a most ([]).length x with
 |error e=>rfl
 |ok l=>
  have:=JR hm ha c b au t [(x,l)] (by simp) (λf c=>by
   rcases List.mem_cons.1 c with rfl|c
   .grind [Ks]
   .cases c)
  unfold Bw sU at this;rw [<-this];rfl
theorem RC{m:bw}(hm:Sp.SafeS m.2.1 m.2.2.2.2){a:Au}{k:Nat}(ha:Pd.uU a k)(j:ZQ a){most:Int}(c:most<=1048576)(L:List V)(o:L.length<100000000)(d:∀x∈L,Pd.St m k x):
  ∀(r pre:List V),L=pre++r->∀(t:St) (M:Nat),r.length<M->aj (Kw m a most L) M (t.1,t.2.1,t.2.2.1,t.2.2.2.1.1.1,t.2.2.2.1.1.2.1,t.2.2.2.1.1.2.2,t.2.2.2.1.2,t.2.2.2.2.1.1,t.2.2.2.2.1.2.1.1,t.2.2.2.2.1.2.1.2.1,t.2.2.2.2.1.2.1.2.2,t.2.2.2.2.1.2.2,t.2.2.2.2.2.1.1,t.2.2.2.2.2.1.2,t.2.2.2.2.2.2.1.1.1,t.2.2.2.2.2.2.1.1.2.1,t.2.2.2.2.2.2.1.1.2.2.1,t.2.2.2.2.2.2.1.1.2.2.2.1,t.2.2.2.2.2.2.1.1.2.2.2.2,t.2.2.2.2.2.2.1.2.1.1,t.2.2.2.2.2.2.1.2.1.2.1,t.2.2.2.2.2.2.1.2.1.2.2.1,t.2.2.2.2.2.2.1.2.1.2.2.2.1,t.2.2.2.2.2.2.1.2.1.2.2.2.2,t.2.2.2.2.2.2.1.2.2.1,t.2.2.2.2.2.2.1.2.2.2.1,t.2.2.2.2.2.2.1.2.2.2.2.1,t.2.2.2.2.2.2.1.2.2.2.2.2.1,t.2.2.2.2.2.2.1.2.2.2.2.2.2,t.2.2.2.2.2.2.2.1,t.2.2.2.2.2.2.2.2.1,t.2.2.2.2.2.2.2.2.2.1,t.2.2.2.2.2.2.2.2.2.2.1,t.2.2.2.2.2.2.2.2.2.2.2.1,t.2.2.2.2.2.2.2.2.2.2.2.2,(pre.length:Int))=PM fl (ol m a most r t)
 |[],pre,h,t,M,hM=>by
  obtain ⟨n,rfl⟩:∃n,M=n+1:=⟨M-1,by omega⟩;have e  :=by simpa using h
  rw [ao];generalize aj _ n=g;unfold Kw sU mw;dsimp only;rw [cy (by rw [e];omega),b7];rfl
 |x::r,pre,h,t,M,hM=>by
  obtain ⟨n,rfl⟩:∃n,M=n+1:=⟨M-1,by omega⟩;have i:pre.length+r.length+1=L.length:=by rw [h];simp;omega
  have hx:=d x (by rw [h];simp);have ih:=λt'=>RC hm ha j c L o d r (pre++[x]) (by rw [h];simp) t' n (by simp at hM;omega);rw [show ((pre++[x]).length)=((pre.length+1:Nat)) by simp] at ih;rw [ao];unfold Kw sU mw;dsimp only;rw [cx (by omega),ca,Sy.lL h,So.ah,Pa.bR (by omega)];unfold ol;show gD (Ib x m a t most) _ _=_;rw [Ql];cases F0 t x with
  |none=>rfl
  |some q=>
   cases q with
   |error e=>rfl
   |ok q=>
    obtain ⟨b,t'⟩:=q;cases b with
    |false=>exact ih t'
    |true=>
     show gD (ajz x m a t' most) _ _=_;rw [ajt hm ha j c hx];simp;cases wT m a most 0 x with
     |error e=>rfl
     |ok l=>
      dsimp only;cases Y0 m a most au t' [(x,l)] with
      |none=>rfl
      |some w=>
       cases w with
       |error e=>cases e <;> rfl
       |ok f=>exact ih f
def vJ(m:bw)(a:Au):List V:=Sp.di [] (Pd.dN a m.2.2.1 a.2.2.1)
theorem ajS{m:bw}(hm:Sp.SafeS m.2.1 m.2.2.2.2)(hi:Sp.sW m.2.1 m.2.2.1){a:Au}{k:Nat}(ha:Pd.uU a k)(d:ZQ a){most:Int}(b:most<=1048576)(e:(vJ m a).length<100000000)(c:∀x∈vJ m a,Pd.St m k x)(t:St):
  Vt m a t most=PM fl (ol m a most (vJ m a) t):=by
 unfold Vt I9 sU pK;rw [show Bx (m.1,m.2.1,m.2.2.1,m.2.2.2.1,m.2.2.2.2) (a.1,a.2.1,a.2.2.1,a.2.2.2)=some (vJ m a) from Pd.apy hm hi ha,So.ah];exact RC hm ha d b (vJ m a) e c (vJ m a) [] rfl t au (by show _<2^64;omega)
def Cr(w:Option (Except Er St)):Option (Bool×(List V×List V)×Int×V):=w.map λr=>match r with
 | .ok _=>(false,([],[]),0,[])
 | .error (.inl e)=>(false,([],[]),e.1,e.2)
 | .error (.inr p)=>(true,p,0,[])
theorem an3{m:bw}(hm:Sp.SafeS m.2.1 m.2.2.2.2)(hi:Sp.sW m.2.1 m.2.2.1){a:Au}{k:Nat}(ha:Pd.uU a k)(h:ZQ a)(i:(vJ m a).length<100000000)(b:∀x∈vJ m a,Pd.St m k x)(o:So.Op){s:w5}(g:vC m a=some (s,0)){t:St}{c:Int}(hN:gh s o=some (t,c)):
  jP m a o=if c=0/\1<=o.2.2.1/\o.2.2.1<=1048576 then Cr (ol m a o.2.2.1 (vJ m a) t) else some (false,([],[]),1,[]):=by
 unfold jP;rw [g,So.ah];simp only [So.aM];rw [show ((0:Int) != 0)=false from rfl,b7,hN,So.ah];by_cases f:c=0
 .by_cases d:1<=o.2.2.1/\o.2.2.1<=1048576
  .rw [du ⟨f,d⟩,f,cy (by omega),cy (by omega)];show gD (Vt m a t o.2.2.1) _ _=_;rw [ajS hm hi ha h d.2 i b];cases ol m a o.2.2.1 (vJ m a) t with
   |none=>rfl
   |some w=>
    cases w with
    |error e=>cases e <;> rfl
    |ok t'=>rfl
  grind
 grind
end Ns
namespace Ns
def mu(Us K:List V):Nat:=(Us.filter λx=> !decide (x∈K)).length
theorem afD{Us K a:List V}(h:∀x∈K,x∈a):mu Us a<=mu Us K:=by
 unfold mu
 induction Us with
 |nil=>simp
 |cons y Us ih=>
  grind
theorem ase{Us K a:List V}(h:∀x∈K,x∈a){x:V}(hx:x∈Us)(c:x∉K)(b:x∈a):mu Us a<mu Us K:=by
 induction Us with
 |nil=>cases hx
 |cons y Us ih=>
  unfold mu at ih ⊢;by_cases e:y=x
  .subst e;have:=afD (Us:=Us) h;unfold mu at this;simp [c,b];omega
  grind
theorem aqf{Us K:List V}:mu Us K<=Us.length:=qS _ _
def wt(s:lM):Nat:=(s.map λf=>1+f.2.length).sum
structure CJ(Us:List V)(s:lM):Prop where
 st:∀f∈s,f.1∈Us
 nx:∀f∈s,∀y∈f.2,y∈Us
 nd:(s.map (·.1)).Nodup
theorem CJ.dT{Us:List V}{s:lM}(h:CJ Us s):s.length<=Us.length:=by
 have:=Df.HX h.nd (λx hx=>by obtain ⟨f,a,rfl⟩:=List.mem_map.1 hx;exact h.st f a)
 simpa using this
section
variable {nw : St -> V -> Option (Except (Int × V) (Bool × St))} {se : V -> lM -> Option Er} {dn : St -> lM -> Option (Except Er St)} {pu : Nat -> V -> Except (Int × V) (List V)} {Us : List V} {N : Nat} {Inv : List V -> St -> Prop} {Bd : Er -> Prop} {bot : Option V}
def anA(Us:List V)(Inv:List V->St->Prop)(Bd:Er->Prop)(nw:St->V->Option (Except (Int×V) (Bool×St))):Prop:=
 ∀K t x,Inv K t->x∈Us->(∃e,nw t x=some (.error e)/\Bd (.inl e))\/(∃K' t',nw t x=some (.ok (false,t'))/\Inv K' t'/\∀z∈K,z∈K')\/(∃K' t',nw t x=some (.ok (true,t'))/\Inv K' t'/\(∀z∈K,z∈K')/\x∉K/\x∈K')
def Ux(Inv:List V->St->Prop)(Bd:Er->Prop)(K:List V)(w:Option (Except Er St)):Prop:=
 (∃e,w=some (.error e)/\Bd e)\/(∃K' t',w=some (.ok t')/\Inv K' t'/\∀z∈K,z∈K')
def ajn(Us:List V)(N:Nat)(Bd:Er->Prop)(pu:Nat->V->Except (Int×V) (List V)):Prop:=
 ∀n y,y∈Us->n<Us.length->(∃e,pu n y= .error e/\Bd (.inl e))\/(∃l,pu n y= .ok l/\(∀z∈l,z∈Us)/\l.length<=N)
theorem M3(o:anA Us Inv Bd nw)(k:∀y s e,y∈Us->CJ Us s->s≠[]->se y s=some e->Bd e)(d:∀y s,se y s=none->some y≠bot)
  (p:∀K t s,Inv K t->CJ Us s->s≠[]->Ux Inv Bd K (dn t s)) (m:ajn Us N Bd pu):
  ∀(n:Nat) (t:St) (s:lM) (K:List V),Inv K t->CJ Us s->(∀x∈s.map (·.1),x∈K\/some x=bot)->mu Us K*(N+2)+wt s<n->Ux Inv Bd K (wk nw se dn pu n t s)
 |0,_,_,_,_,_,_,h=>by omega
 |n+1,t,[],K,hi,_,_,_=> .inr ⟨K,t,rfl,hi,λ_ h=>h⟩
 |n+1,t,(x,[])::s,K,hi,hg,hk,hn=>by
  have D:CJ Us s:=⟨λf a=>hg.st f (cp _ a),λf a=>hg.nx f (cp _ a),by have:=hg.nd;simp at this;simpa using this.2⟩;unfold wk;rcases p K t _ hi hg (by simp) with ⟨e,r,q⟩|⟨u,t',r,q,i⟩
  .rw [r];exact .inl ⟨e,rfl,q⟩
  .rw [r];have hm:=afD (Us:=Us) i;have g:mu Us u*(N+2)+wt s<n:=by have:=hU (N+2) hm;simp [wt] at hn ⊢; omega
   rcases M3 o k d p m n t' s u q D (λy j=>(hk y (by simp at j ⊢; exact .inr j)).imp (i y) id) g with ⟨e,r1,r2⟩|⟨C,t2,r1,r2,v⟩
   .exact .inl ⟨e,r1,r2⟩
   .exact .inr ⟨C,t2,r1,r2,λz c=>v z (i z c)⟩
 |n+1,t,(x,y::ys)::s,K,hi,hg,hk,hn=>by
  have j  :=hg.nx _ (c8 ..) y (c8 ..);have b:CJ Us ((x,ys)::s):=⟨λf a=>by
    rcases List.mem_cons.1 a with rfl|a
    .exact hg.st (x,y::ys) (c8 ..)
    .exact hg.st f (cp _ a),λf a=>by
    rcases List.mem_cons.1 a with rfl|a
    .exact λz c=>hg.nx (x,y::ys) (c8 ..) z (cp _ c)
    .exact hg.nx f (cp _ a),hg.nd⟩
  unfold wk;cases E:se y ((x,ys)::s) with
  |some e=>exact .inl ⟨e,rfl,k y _ e j b (by simp) E⟩
  |none=>
   rcases o K t y hi j with ⟨e,r,q⟩|⟨u,t',r,q,i⟩|⟨u,t',r,q,i,F,G⟩
   .rw [r];exact .inl ⟨_,rfl,q⟩
   .rw [r];have hm:=afD (Us:=Us) i;have g:mu Us u*(N+2)+wt ((x,ys)::s)<n:=by have:=hU (N+2) hm;simp [wt] at hn ⊢; omega
    rcases M3 o k d p m n t' _ u q b (λz c=>(hk z (by simpa using c)).imp (i z) id) g with ⟨e,r1,r2⟩|⟨C,t2,r1,r2,v⟩
    .exact .inl ⟨e,r1,r2⟩
    .exact .inr ⟨C,t2,r1,r2,λz c=>v z (i z c)⟩
   .rw [r];have w:y∉((x,ys)::s).map (·.1):=λB=>by
     rcases hk y (by simpa using B) with B|B
     .exact F B
     .exact d y _ E B
    have A  :=by
     have:=Df.HX (List.nodup_cons.2 ⟨w,b.nd⟩) (λz c=>by
      rcases List.mem_cons.1 c with rfl|c
      .exact j
      .obtain ⟨f,a,rfl⟩:=List.mem_map.1 c;exact b.st f a)
     simp at this;omega
    rcases m (s.length+1) y j A with ⟨e,p1,p2⟩|⟨l,p1,p2,H⟩
    .simp [p1];exact .inl ⟨_,rfl,p2⟩
    .simp [p1];have hm:=ase i j F G;have g:mu Us u*(N+2)+wt ((y,l)::(x,ys)::s)<n:=by
      have:mu Us u*(N+2)+(N+2)<=mu Us K*(N+2):=by rw [<-qR];exact hU _ hm
      simp [wt] at hn ⊢; omega
     rcases M3 o k d p m n t' ((y,l)::(x,ys)::s) u q ⟨λf a=>by
       rcases List.mem_cons.1 a with rfl|a
       .exact j
       .exact b.st f a,λf a=>by
       rcases List.mem_cons.1 a with rfl|a
       .exact p2
       .exact b.nx f a,List.nodup_cons.2 ⟨w,b.nd⟩⟩ (λz c=>by
       grind) g with ⟨e,r1,r2⟩|⟨C,t2,r1,r2,v⟩
     .exact .inl ⟨e,r1,r2⟩
     .exact .inr ⟨C,t2,r1,r2,λz c=>v z (i z c)⟩
end
end Ns
variable {α : Type}
namespace Sy
open Pa
def Er{α:Type}(x:Except iy α):Prop:= ∀e,x= .error e->e.1≠0
theorem Er.ok{a:α}:Er (.ok a:Except iy α):=λe h=>by cases h
theorem Er.lit{e:iy}(h:e.1≠0):Er (.error e:Except iy α):=λe' a=>by cases a;exact h
theorem Er.bif{c:Bool}{a b:Except iy α}(ha:c=true->Er a)(hb:c=false->Er b):Er (bif c then a else b):=by cases c;exact hb rfl;exact ha rfl
theorem Er.of{x:Except iy α}(h:Er x){e:iy}(a:x= .error e){β:Type}:Er (.error e:Except iy β):= .lit (h e a)
theorem alg{names:List aE}{b:List Tok}:Er (GN names b):=λe h=>by
 unfold GN at h;split at h
 next hx=>have a:=Classical.choose_spec hx;rw [h] at a;rcases a.err e rfl with h|h|h <;> omega
 .cases h;decide
theorem Eg{x:aE}{a:List Tok}:Er (cd x a):=by
 unfold cd;split
 .exact .lit (by decide)
 .exact .bif (λ_=> .ok) (λ_=> .lit (show (2:Int)≠0 by decide))
theorem abb{full:Bool}{names a:List aE}{b:List Tok}:Er (fP full names a b):=by
 unfold fP;split
 .exact .lit (by decide)
 .exact .bif (λ_=> .lit (show (2:Int)≠0 by decide)) λ_=> .bif (λ_=> .lit (show (3:Int)≠0 by decide)) λ_=> .bif (λ_=> .lit (show (9:Int)≠0 by decide)) λ_=> .ok
theorem YT{a:Bool}{b:List Tok}:Er (te a b):=by
 unfold te;split
 .exact .lit (by decide)
 .exact .bif (λ_=> .lit (show (2:Int)≠0 by decide)) λ_=> .ok
theorem Vj{a:List Tok}:Er (gz a):= .bif (λ_=>YT) λ_=>YT
theorem anQ{m:bw}{a:List Tok}:Er (rK m a):=by
 unfold rK;split
 next h=>exact abb.of h
 .split
  next h=>exact Vj.of h
  .split
   next h=>exact Vj.of h
   .split
    next h=>exact Vj.of h
    .split
     next h=>exact Eg.of h
     .exact .bif (λ_=> .lit (show (5:Int)≠0 by decide)) λ_=> .ok
theorem ZY{a:Int}{names:List aE}{b:List Tok}:Er (eI a names b):=by
 unfold eI;split
 next h=>exact alg.of h
 .exact .bif (λh=> .lit (by simpa using h)) λ_=> .bif (λ_=> .lit (show (4:Int)≠0 by decide)) λ_=> .ok
theorem Zg{names:List aE}:∀(f:Nat) (acc:List (Int×Ex)) (a:List Tok),Er (fN names f acc a)
 |0,_,_=> .lit (show (2:Int)≠0 by decide)
 |f+1,acc,a=>by
  unfold fN;split
  .exact .lit (by decide)
  .refine .bif (λ_=> .lit (show (2:Int)≠0 by decide)) λ_=> .bif (λ_=> .lit (show (3:Int)≠0 by decide)) λ_=>?_;split
   next h=>exact Eg.of h
   .split
    next h=>exact ZY.of h
    .exact .bif (λ_=>Zg f _ _) λ_=> .ok
theorem apg{m:bw}{a:List Tok}:Er (nO m a):=by
 unfold nO;refine .bif (λ_=> .lit (show (9:Int)≠0 by decide)) λ_=>?_;split
 next h=>exact ZY.of h
 .split
  next h=>exact Eg.of h
  .split
   next h=>exact (Zg _ _ _).of h
   .split
    next h=>exact Eg.of h
    .exact .ok
theorem ZE:∀(f:Nat) (m:bw) (a:List Tok),Er (lW f m a)
 |0,_,_=> .lit (show (2:Int)≠0 by decide)
 |f+1,m,a=>by
  unfold lW;refine .bif (λ_=> .ok) λ_=>?_;split
  next h=>exact apg.of h
  .exact ZE f _ _
theorem akX{m:bw}{a:List Tok}:Er (wa m a):=by
 unfold wa;split
 next h=>exact abb.of h
 .split
  next h=>exact Eg.of h
  .exact ZE _ _ _
theorem M4:∀(f:Nat) (m:bw) (a:List Tok),Er (pZ f m a)
 |0,_,_=> .lit (show (2:Int)≠0 by decide)
 |f+1,m,a=>by
  unfold pZ;split
  .exact .lit (by decide)
  .refine .bif (λ_=> .bif (λ_=> .lit (show (2:Int)≠0 by decide)) λ_=> .ok) λ_=> .bif (λ_=>?_) λ_=> .bif (λ_=>?_) λ_=> .lit (show (2:Int)≠0 by decide)
   .split
    next h=>exact anQ.of h
    .exact M4 f _ _
   .split
    next h=>exact akX.of h
    .exact M4 f _ _
theorem alS{text:aE}{e:iy}(h:QY text= .error e):e.1≠0:=by
 unfold QY at h;split at h
 .cases h;decide
 .split at h
  .exact M4 _ _ _ e h
  next hl=>cases h;exact aaq _ _ _ _ hl
end Sy
namespace Sp
theorem abm(a b:zj)(hl:a.length=b.length)(ha:a.length<1000000000):∀(r pre s:zj),a=pre++r->b=pre++s->∀M,r.length<M->aj (dQ a b) M (pre.length:Int)=some (r==s)
 |[],pre,s,h,h2,M,hM=>by
  obtain ⟨k,rfl⟩:∃k,M=k+1:=⟨M-1,by simp at hM;omega⟩;rw [ao];simp only [dQ,Sy.uS h,b7];have:s=[]:=er (by rw [h,h2] at hl;simpa using hl.symm);subst this;rfl
 |x::r,pre,[],h,h2,M,hM=>by rw [h,h2] at hl;simp at hl
 |x::r,pre,y::s,h,h2,M,hM=>by
  obtain ⟨k,rfl⟩:∃k,M=k+1:=⟨M-1,by omega⟩;rw [ao];have c:pre.length+r.length+1=a.length:=by rw [h];simp;omega
  simp only [dQ,Sy.uM h,ca,Sy.lL h,Sy.lL h2,ah,Pa.bR (show pre.length<4611686018427387904 by omega)];by_cases e:x=y
  .subst e;have ih:=abm a b hl ha r (pre++[x]) s (by rw [h];simp) (by rw [h2];simp) k (by simp at hM;omega);rw [show ((pre++[x]).length:Int)=((pre.length+1:Nat):Int) by simp] at ih;rw [show (x != x)=false by simp,b7,ih];simp
  .rw [show (x != y)=true by simpa using e,ca];simp [e]
theorem ah0(a b:zj)(ha:a.length<1000000000):gR a b=some (a==b):=by
 unfold gR;by_cases hl:a.length=b.length
 .rw [show ((List.length a:Int) != (List.length b:Int))=false by rw [hl];simp,b7];exact abm a b hl ha a [] b rfl rfl au (by show _<2^64;omega)
 .rw [show ((List.length a:Int) != (List.length b:Int))=true by simp;omega,ca,beq_eq_false_iff_ne.2 (λe=>hl (by rw [e]))]
def IJ(v:zj):Nat->wq->Int
 |_,[]=> -1
 |k,x::r=>if x=v then (k:Int) else IJ v (k+1) r
theorem On{v:zj}:∀{l:wq} {k:Nat},IJ v k l<0↔v∉l
 |[],k=>by simp [IJ]
 |x::r,k=>by
  unfold IJ;by_cases e:x=v
  .rw [du e];constructor
   .intro h;omega
   .intro h;exact absurd (by rw [e];simp) h
  .rw [dk e,On (l:=r)];simp only [qa,not_or];exact ⟨λh=>⟨λa=>e a.symm,h⟩,λh=>h.2⟩
def um(S:w5)(v:zj):Bool:=decide (v.length=S.length)&&fits S v
theorem n5{S:w5}:um S v=true↔sW S v:=by unfold um;rw [ar,eW];exact ⟨λh=>⟨h.1,h.2⟩,λh=>⟨h.len,h.fit⟩⟩
structure Gl(S:w5)(C:List Sy.aT):Prop extends SafeS S C where
 rguard:∀c∈C,fp (S.length:Int) c.2.1=true/\(rt c.2.1).1=2
 rsets:∀c∈C,∀s∈c.2.2,fp (S.length:Int) s.2=true/\(rt s.2).1=1
theorem ape{m:Sy.bw}(h:Sy.Wf m):Gl m.2.1 m.2.2.2.2:=by
 have d:=h.schema;have g:=h.some_;have f:=h.names;have e:=h.cmds;refine { pos:=by omega,dT:=by omega,field:=h.fields,cmds:=by omega,guard:=λc a=>?_,sets:=λc a=>⟨(h.cmd c a).len,λs b=>?_⟩,rguard:=λc a=>?_,rsets:=λc a s b=>?_ }
 .have:=(h.cmd c a).sz;omega
 .have k:=(h.cmd c a).sets s b;have:=k.var;have:=k.sz;refine ⟨by omega,by omega,by omega⟩
 .have k:=h.cmd c a;rw [d];exact ⟨k.may,k.typ.2⟩
 .have k:=(h.cmd c a).sets s b;rw [d];exact ⟨k.may,k.typ.2⟩
theorem adJ:∀{S:w5} {v:zj},(∀(i:Nat) (f:Int×Int) (n:Int),S[i]? =some f->v[i]? =some n->f.1<=n/\n<=f.2)->fits S v=true
 |[],[],_=>rfl
 |[],_::_,_=>rfl
 |_::_,[],_=>rfl
 |s::S,x::v,h=>by have c:=h 0 s x rfl rfl;simp only [fits,ar,eW];exact ⟨c,adJ λi f n b a=>h (i+1) f n (by simpa using b) (by simpa using a)⟩
theorem apx{m:Sy.bw}(h:Sy.Wf m):sW m.2.1 m.2.2.1:=⟨by rw [h.init,h.schema],adJ h.first⟩
theorem akH(text:aE):∃q,mX text=some q/\(q.2=true->Sy.Wf q.1):=by
 unfold mX;by_cases h:(600:Int)<(text.length:Int)
 .rw [cx h,ca];exact ⟨_,rfl,λh=>by cases h⟩
 .rw [cy h,b7,Sy.ak7,ah];refine ⟨_,rfl,λh=>?_⟩;cases a:Sy.QY text with
  |ok m=>
   exact Sy.ah5 a
  |error e=>
   rw [a] at h;exact absurd (by simpa [Sy.QD] using h) (Sy.alS a)
end Sp
namespace Sp
theorem Sd(l:wq)(v:zj)(hl:l.length<1000000000)(a:∀w∈l,w.length<1000000000):∀(r pre:wq),l=pre++r->∀M,r.length<M->aj (jd l v) M (pre.length:Int)=some (IJ v pre.length r)
 |[],pre,h,M,hM=>by
  obtain ⟨k,rfl⟩:∃k,M=k+1:=⟨M-1,by simp at hM;omega⟩;rw [ao];simp only [jd,Sy.uS h,b7,IJ]
 |x::r,pre,h,M,hM=>by
  obtain ⟨k,rfl⟩:∃k,M=k+1:=⟨M-1,by omega⟩;rw [ao];have b:pre.length+r.length+1=l.length:=by rw [h];simp;omega
  have ih:=Sd l v hl a r (pre++[x]) (by rw [h];simp) k (by simp at hM;omega);rw [show ((pre++[x]).length:Int)=((pre.length+1:Nat):Int) by simp,show (pre++[x]).length=pre.length+1 by simp] at ih;simp only [jd,Sy.uM h,ca,Sy.lL h,ah,Pa.bR (show pre.length<4611686018427387904 by omega)];rw [ah0 x v (a x (by rw [h];simp)),ah,IJ];by_cases e:x=v
  .rw [du e,show (x==v)=true by simpa using e,ca]
  .rw [dk e,show (x==v)=false by simpa using e,b7];exact ih
theorem wD(l:wq)(v:zj)(hl:l.length<1000000000)(a:∀w∈l,w.length<1000000000):dm l v=some (IJ v 0 l):=
 Sd l v hl a l [] rfl au (by show _<2^64;omega)
end Sp
theorem ali(op n C:Int)(l:List Ex)(v:zj)(a b:Int)(c:15<=op->(a=0\/a=1)/\(b=0\/b=1)):ld (.mk op n C l) v a b=some (Py op n v a b):=by
 have d:(op=1\/op=2\/op=3\/op=4\/op=5\/op=6\/op=7\/op=8\/op=9\/op=10\/op=11\/op=12\/op=13\/op=15\/op=16\/op=17\/op=18\/op=19)\/(op<1\/op=14\/19<op):=by omega
 rcases d with d|d
 .rcases d with rfl|rfl|rfl|rfl|rfl|rfl|rfl|rfl|rfl|rfl|rfl|rfl|rfl|rfl|rfl|rfl|rfl|rfl
  .rfl
  .show (bif (decide (0<=n)&&decide (n<(List.length v:Int))) then (idx v n).bind (λz=>some z) else some 0)=some (bif decide (n<0)||decide ((List.length v:Int)<=n) then 0 else v.getD n.toNat 0);by_cases e:0<=n
   .by_cases r:n<(List.length v:Int)
    .rw [cx e,cx r,cy (by omega),cy (by omega)];have:idx v n=some (v.getD n.toNat 0):=by unfold idx;rw [du e,b9 (by omega)];simp [List.getD,b9 (show n.toNat<v.length by omega)]
     rw [this];rfl
    .rw [cx e,cy r,cy (by omega),cx (by omega)];rfl
   .rw [cy e,cx (show n<0 by omega)];rfl
  .rfl
  .rfl
  .rfl
  .rfl
  .show (bd (a==b)).bind (λz=>some z)=some (tr ((a==b) != false));cases (a==b) <;> rfl
  .show (bd (!(a==b))).bind (λz=>some z)=some (tr ((a==b) != true));cases (a==b) <;> rfl
  .show (bd (decide (a<b))).bind (λz=>some z)=some (tr (decide (a<b) != false));cases decide (a<b) <;> rfl
  .show (bd (decide (a<=b))).bind (λz=>some z)=some (tr (decide (a<=b) != false));cases decide (a<=b) <;> rfl
  .show (bd (decide (b<a))).bind (λz=>some z)=some (tr (decide (a<=b) != true));by_cases h:a<=b
   .rw [cx h,cy (by omega)];rfl
   .rw [cy h,cx (by omega)];rfl
  .show (bd (decide (b<=a))).bind (λz=>some z)=some (tr (decide (a<b) != true));by_cases h:a<b
   .rw [cx h,cy (by omega)];rfl
   .rw [cy h,cx (by omega)];rfl
  .rfl
  .obtain ⟨ha,hb⟩:=c (by omega);rcases ha with rfl|rfl <;> rfl
  .obtain ⟨ha,hb⟩:=c (by omega);rcases ha with rfl|rfl <;> rcases hb with rfl|rfl <;> rfl
  .obtain ⟨ha,hb⟩:=c (by omega);rcases ha with rfl|rfl <;> rcases hb with rfl|rfl <;> rfl
  .obtain ⟨ha,hb⟩:=c (by omega);rcases ha with rfl|rfl <;> rcases hb with rfl|rfl <;> rfl
  .show (bd (a==b)).bind (λz=>some z)=some (tr ((a==b) != false));cases (a==b) <;> rfl
 .have B:(op==1)=false:=beq_eq_false_iff_ne.2 (by omega);have A:(op==2)=false:=beq_eq_false_iff_ne.2 (by omega);have y:(op==3)=false:=beq_eq_false_iff_ne.2 (by omega);have x:(op==4)=false:=beq_eq_false_iff_ne.2 (by omega);have w:(op==5)=false:=beq_eq_false_iff_ne.2 (by omega);have u:(op==6)=false:=beq_eq_false_iff_ne.2 (by omega);have t:(op==7)=false:=beq_eq_false_iff_ne.2 (by omega);have b8:(op==8)=false:=beq_eq_false_iff_ne.2 (by omega);have s:(op==9)=false:=beq_eq_false_iff_ne.2 (by omega);have q:(op==10)=false:=beq_eq_false_iff_ne.2 (by omega);have p:(op==11)=false:=beq_eq_false_iff_ne.2 (by omega);have o:(op==12)=false:=beq_eq_false_iff_ne.2 (by omega);have m:(op==13)=false:=beq_eq_false_iff_ne.2 (by omega);have k:(op==15)=false:=beq_eq_false_iff_ne.2 (by omega);have j:(op==16)=false:=beq_eq_false_iff_ne.2 (by omega);have i:(op==17)=false:=beq_eq_false_iff_ne.2 (by omega);have g:(op==18)=false:=beq_eq_false_iff_ne.2 (by omega);have f:(op==19)=false:=beq_eq_false_iff_ne.2 (by omega);simp only [ld,Ex.op,Py,B,A,y,x,w,u,t,b8,s,q,p,o,m,k,j,i,g,f,b7]
theorem apj(k:Ex×zj->zb)(e:Ex)(v:zj)(hk:∀x∈e.l,k (x,v)=some (ev v x))(b:15<=e.op->(Cv v e.l=0\/Cv v e.l=1)/\(Fk v e.l=0\/Fk v e.l=1)):
  mf k e v=some (ev v e):=by
 obtain ⟨op,n,a,l⟩:=e;rw [ae6];have key:=ali op n a l v (Cv v l) (Fk v l) b;rw [show Py (Ex.mk op n a l).op (Ex.mk op n a l).n v (Cv v (Ex.mk op n a l).l) (Fk v (Ex.mk op n a l).l)=Py op n v (Cv v l) (Fk v l) from rfl,<-key]
 match l,hk with
 |[],_=>simp only [Cv,Fk];rfl
 |[x],hk=>
  have hx:=hk x (by simp [Ex.l]);simp only [Cv,Fk];show (k (x,v)).bind _=_;rw [hx];rfl
 |x::y::r,hk=>
  have hx:=hk x (by simp [Ex.l]);have c:=hk y (by simp [Ex.l]);simp only [Cv,Fk];have d0:decide ((0:Int)<(List.length (x::y::r):Int))=true:=cx (by simp only [eb];omega);have d1:decide ((1:Int)<(List.length (x::y::r):Int))=true:=cx (by simp only [eb];omega);show (bif decide ((0:Int)<(List.length (x::y::r):Int)) then _ else _)=_;rw [d0];show (k (x,v)).bind _=_;rw [hx];show (bif decide ((1:Int)<(List.length (x::y::r):Int)) then _ else _)=_;rw [d1];show (k (y,v)).bind _=_;rw [c];rfl
theorem agU{a:Int}(v:zj):∀(N:Nat) (e:Ex),e.sz<=N->fp a e=true->((rt e).1=1\/(rt e).1=2)->aj (λk (s:Ex×zj)=>mf k s.1 s.2) N (e,v)=some (ev v e):=by
 intro N
 induction N with
 |zero=>intro e h;have:=oD e;omega
 |succ N ih=>
  intro e h hm ht;rw [ao];refine apj _ e v (λx hx=>ih x (by have:=my hx;omega) ((MS hm).2.2.2.2 x hx) (ach hm ht x hx)) (λb=>apT v (λx hx=>?_));rw [rt_eq] at ht;have c:(s9 e.op e.at_ (e.l.length:Int) e.l 0 0 0).1=2:=by
   rcases ht with h|h
   .have:=UU _ _ _ _ _ _ _ h;omega
   .exact h
  exact aqJ v x.sz x (cH _) (Ot _ _ _ b (Oq _ _ _ _ _ _ _ c).2 _ _ _ _ (by omega) c x hx).1
theorem Qj{a:Int}(v:zj)(e:Ex)(h:e.sz<1152921504606846)(hm:fp a e=true)(ht:(rt e).1=1\/(rt e).1=2):eS e v=some (ev v e):=agU v au e (by show e.sz<=2^64;omega) hm ht
namespace Sp
theorem WH(m:Sy.bw)(w:zj)(hn:w.length=m.2.1.length)(d:w.length<1000):∀(r pre:zj) (rs ps:w5),w=pre++r->m.2.1=ps++rs->ps.length=pre.length->rs.length=r.length->
  ∀M,r.length<M->aj (iW m w) M (pre.length:Int)=some (bif fits rs r then (w,0) else ([],6))
 |[],pre,rs,ps,h,hS,hl,hr,M,hM=>by
  obtain ⟨m,rfl⟩:∃m,M=m+1:=⟨M-1,by simp at hM;omega⟩;rw [ao];simp only [iW,Sy.uS h,b7];have:rs=[]:=er hr;subst this;rfl
 |x::r,pre,[],ps,h,hS,hl,hr,M,hM=>by simp at hr
 |x::r,pre,s::rs,ps,h,hS,hl,hr,M,hM=>by
  obtain ⟨k,rfl⟩:∃k,M=k+1:=⟨M-1,by omega⟩;rw [ao];have e:idx m.2.1 (pre.length:Int)=some s:=by rw [<-hl];exact Sy.lL hS
  have a:pre.length+r.length+1=w.length:=by rw [h];simp;omega
  have ih:=WH m w hn d r (pre++[x]) rs (ps++[s]) (by rw [h];simp) (by rw [hS];simp) (by simp;omega) (by simpa using hr) k (by simp at hM;omega);rw [show ((pre++[x]).length:Int)=((pre.length+1:Nat):Int) by simp] at ih;simp only [iW,Sy.uM h,ca,Sy.lL h,ah,e,Pa.bR (show pre.length<4611686018427387904 by omega),ih,fits,aM,apc];by_cases c:x<s.1
  .rw [cx c,Bool.true_or,ca,cy (show ¬s.1<=x by omega)];rfl
  .rw [cy c,cx (show s.1<=x by omega)];simp only [j6,ca,mE,iQ];by_cases b:s.2<x
   .rw [cx b,cy (show ¬x<=s.2 by omega)];rfl
   .rw [cy b,cx (show x<=s.2 by omega)];rfl
theorem Sj(m:Sy.bw)(v:zj)(hm:Gl m.2.1 m.2.2.2.2)(hn:v.length=m.2.1.length)(k:Int)(e:Sy.aT)(hk:idx m.2.2.2.2 k=some e)(a:e∈m.2.2.2.2):
  ∀(r pre:List (Int×Ex)),e.2.2=pre++r->∀(w:zj) (M:Nat),w.length=v.length->r.length<M->
   aj (lg m v k) M (w,(pre.length:Int))=some (fin m.2.1 (r.foldl (NT v) w))
 |[],pre,h,w,M,hw,hM=>by
  obtain ⟨n,rfl⟩:∃n,M=n+1:=⟨M-1,by simp at hM;omega⟩;rw [ao];have i:v.length<1000:=by have:=hm.dT;omega
  simp only [lg,hk,ah,Sy.uS h,b7,List.foldl_nil,fin];exact WH m w (by omega) (by omega) w [] m.2.1 [] rfl rfl rfl (by omega) au (by show _<2^64;omega)
 |s::r,pre,h,w,M,hw,hM=>by
  obtain ⟨n,rfl⟩:∃n,M=n+1:=⟨M-1,by omega⟩;rw [ao];have b:s∈e.2.2:=by rw [h];simp
  obtain ⟨g,o,l⟩:=(hm.sets e a).2 s b;obtain ⟨f,d⟩:=hm.rsets e a s b;have j:=(hm.sets e a).1;have c:pre.length+r.length+1=e.2.2.length:=by rw [h];simp;omega
  obtain ⟨x,hx,_⟩:=sw w s.1 g (by omega);have ih:=Sj m v hm hn k e hk a r (pre++[s]) (by rw [h];simp) (NT v w s) n (by rw [P8,hw]) (by simp at hM;omega);rw [show ((pre++[s]).length:Int)=((pre.length+1:Nat):Int) by simp] at ih;simp only [lg,hk,ah,Sy.uM h,ca,Sy.lL h];rw [Qj v s.2 (by omega) f (.inl d)];simp only [ah,hx,Pa.bR (show pre.length<4611686018427387904 by omega)];exact ih
theorem alW{m:Sy.bw}(hm:Gl m.2.1 m.2.2.2.2)(hn:v.length=m.2.1.length)(k:Int):og m v k=some (NY m.2.1 m.2.2.2.2 v k):=by
 have e:v.length<1000:=by have:=hm.dT;omega
 unfold og;simp only [aM];unfold NY;by_cases hk:k<0\/(m.2.2.2.2.length:Int)<=k
 .rw [du hk];rw [show (decide (k<0)||decide ((List.length m.2.2.2.2:Int)<=k))=true by rw [e9,eW,eW];exact hk,ca]
 .rw [dk hk];rw [show (decide (k<0)||decide ((List.length m.2.2.2.2:Int)<=k))=false by rw [qe];intro h;rw [e9,eW,eW] at h;exact hk h,b7];obtain ⟨c,d,b⟩:=sw m.2.2.2.2 k (by omega) (by omega);rw [Sy.aP (Sy.dw (by simp;omega) (by simp;omega)),oY];have a:c∈m.2.2.2.2:=fe b;have:=Sj m v hm hn k c d a c.2.2 [] rfl v au rfl (by have:=(hm.sets c a).1;show _<2^64;omega);rw [show (0:Int)=((([]:List (Int×Ex)).length:Nat):Int) from rfl,this];unfold fq;rw [b];rfl
theorem aaY(m:Sy.bw)(v:zj)(hm:Gl m.2.1 m.2.2.2.2):∀(r pre:List Sy.aT),m.2.2.2.2=pre++r->∀(out:zj) (M:Nat),out.length<=pre.length->r.length<M->
  aj (jH m v) M (out,(pre.length:Int))=some (out++ni v pre.length r)
 |[],pre,h,out,M,b,hM=>by
  obtain ⟨k,rfl⟩:∃k,M=k+1:=⟨M-1,by simp at hM;omega⟩;rw [ao];simp only [jH,Sy.uS h,b7,ni,j5]
 |c::r,pre,h,out,M,b,hM=>by
  obtain ⟨k,rfl⟩:∃k,M=k+1:=⟨M-1,by omega⟩;rw [ao];have d:pre.length+r.length+1=m.2.2.2.2.length:=by rw [h];simp;omega
  have i:=hm.cmds;have g:=hm.guard c (by rw [h];simp);obtain ⟨f,e⟩:=hm.rguard c (by rw [h];simp);simp only [jH,Sy.uM h,ca,Sy.lL h,ah];rw [Qj v c.2.1 (by omega) f (.inr e),ah];have ih:=λout b=>aaY m v hm r (pre++[c]) (by rw [h];simp) out k b (by simp at hM;omega);rw [show ((pre++[c]).length:Int)=((pre.length+1:Nat):Int) by simp,show (pre++[c]).length=pre.length+1 by simp] at ih;simp only [Pa.bR (show pre.length<4611686018427387904 by omega),ni];by_cases a:ev v c.2.1=1
  .rw [du a,show (ev v c.2.1==1)=true by simpa using a,ca,Sy.aP (Sy.dw (by simp;omega) (by simp;omega)),ih _ (by simp;omega),cb];rfl
  .rw [dk a,show (ev v c.2.1==1)=false by simpa using a,b7,ih _ (by omega)]
theorem apR{m:Sy.bw}(hm:Gl m.2.1 m.2.2.2.2):pO m v=some (ni v 0 m.2.2.2.2):=
 aaY m v hm m.2.2.2.2 [] rfl [] au (cH _) (by have:=hm.cmds;show _<2^64;omega)
theorem Dx{l:wq}:(IJ v 0 l<0->iz l v=l++[v])/\(¬IJ v 0 l<0->iz l v=l):=by
 unfold iz;constructor
 .intro h;rw [On] at h;rw [dk (by simpa using h)]
 .intro h;rw [On] at h;rw [du (by simpa using h)]
theorem S7(m:Sy.bw)(v:zj)(hm:Gl m.2.1 m.2.2.2.2)(hn:v.length=m.2.1.length)(L:zj)(n:∀i∈L,0<=i/\i<m.2.2.2.2.length)(g:L.length<=300):
  ∀(r pre:zj),L=pre++r->∀(l:wq) (M:Nat),(∀w∈l,sW m.2.1 w)->l.length<=pre.length->r.length<M->
   aj (lf m v L) M (l,(pre.length:Int))=some (bif (r.map (fq m.2.2.2.2 v)).all (fits m.2.1) then (di l (r.map (fq m.2.2.2.2 v)),0) else ([],6))
 |[],pre,h,l,M,hs,hl,hM=>by
  obtain ⟨k,rfl⟩:∃k,M=k+1:=⟨M-1,by simp at hM;omega⟩;rw [ao];simp only [lf,Sy.uS h,b7];rfl
 |i::r,pre,h,l,M,hs,hl,hM=>by
  obtain ⟨k,rfl⟩:∃k,M=k+1:=⟨M-1,by omega⟩;rw [ao];have j:pre.length+r.length+1=L.length:=by rw [h];simp;omega
  obtain ⟨e,d⟩:=n i (by rw [h];simp);simp only [lf,Sy.uM h,ca,Sy.lL h,ah];rw [alW hm hn i];unfold NY;rw [dk (by omega),ah];unfold fin;rw [eT,qm];obtain ⟨c,_,q⟩:=sw m.2.2.2.2 i e d;have f:(fq m.2.2.2.2 v i).length=m.2.1.length:=by unfold fq;rw [q,<-hn];exact L6 v c
  cases p:fits m.2.1 (fq m.2.2.2.2 v i)
  .rfl
  .have b:sW m.2.1 (fq m.2.2.2.2 v i):=⟨f,p⟩;simp only [ca,iQ];rw [show ((0:Int) != 0)=false from rfl,b7,wD l _ (by omega) (λw a=>(hs w a).short hm.toSafeS),ah];have o:=Ed l (fq m.2.2.2.2 v i);have ih:=S7 m v hm hn L n g r (pre++[i]) (by rw [h];simp) (iz l (fq m.2.2.2.2 v i)) k (λw a=>by
    rcases aat.1 a with h|h
    .exact hs w h
    .rw [h];exact b) (by simp;omega) (by simp at hM;omega)
   rw [show ((pre++[i]).length:Int)=((pre.length+1:Nat):Int) by simp] at ih;simp only [Pa.bR (show pre.length<4611686018427387904 by omega),List.foldl_cons,di] at ih ⊢;by_cases hp:IJ (fq m.2.2.2.2 v i) 0 l<0
   .rw [cx hp,ca,Sy.aP (Sy.dw (by simp;omega) (by simp;omega)),<-Dx.1 hp];exact ih
   .rw [cy hp,b7];rw [Dx.2 hp] at ih ⊢;exact ih
theorem am4{m:Sy.bw}(hm:Gl m.2.1 m.2.2.2.2)(g:sW m.2.1 v):oz m v=some (fL m.2.1 m.2.2.2.2 v):=by
 have b:=Iu v m.2.2.2.2 0;have d:(ni v 0 m.2.2.2.2).length<=300:=by rw [Iu];have:=qS (λc:Sy.aT=>decide (ev v c.2.1=1)) m.2.2.2.2;have:=hm.cmds;unfold ZX;omega
 have a:(ni v 0 m.2.2.2.2).map (fq m.2.2.2.2 v)=goes v m.2.2.2.2:=VP v m.2.2.2.2 m.2.2.2.2 [] rfl;have j:=S7 m v hm g.len (ni v 0 m.2.2.2.2) (λi hi=>aiE hi) d (ni v 0 m.2.2.2.2) [] rfl [] au (λw k=>by cases k) (cH _) (by show _<2^64;omega);rw [a,show ((([]:zj).length:Nat):Int)=0 from rfl] at j;unfold oz;rw [apR hm,ah,j,oY,Sy.aP (Sy.dw (by have:=g.short hm.toSafeS;simp;omega) (by have:=g.short hm.toSafeS;simp;omega))];unfold fL SJ;by_cases f:goes v m.2.2.2.2=[]
 .have h:(ni v 0 m.2.2.2.2).length=0:=by rw [b];unfold goes at f;have:=congrArg List.length f;simpa using this
  rw [du f,show ((List.length (ni v 0 m.2.2.2.2):Int)==0)=true by rw [h];rfl,ca]
 .have h:(ni v 0 m.2.2.2.2).length≠0:=by rw [b];intro e;apply f;unfold goes;rw [er e];rfl
  rw [dk f,show ((List.length (ni v 0 m.2.2.2.2):Int)==0)=false by simp;simpa using h,b7]
end Sp
mutual
def ht:Ex->Nat
 | .mk _ _ _ l=>Zy l+1
def Zy:List Ex->Nat
 |[]=>0
 |x::r=>max (ht x) (Zy r)
end
theorem asm(e:Ex):ht e=Zy e.l+1:=by cases e;simp only [ht,Ex.l]
theorem SY(k:Ex×Int->zb)(e:Ex)(most:Int)(hm: -1000<=most/\most<=1000)(hk:∀x∈e.l,∀m:Int,-1001<=m->m<=1000->∃d:Int,k (x,m)=some d/\1<=d/\d<=x.sz/\(d<m->(ht x:Int)<=d))(hl:e.sz<4611686018427387904):
  ∀(r pre:List Ex),e.l=pre++r->∀(M:Nat) (d:Int),1<=d->d<=e.sz->r.length<M->∃v:Int,aj (bV k e most) M (d,(pre.length:Int))=some v/\d<=v/\v<=e.sz/\(v<most->(Zy r:Int)+1<=v)
 |[],pre,h,M,d,h1,h2,hM=>by
  obtain ⟨m,rfl⟩:∃m,M=m+1:=⟨M-1,by simp at hM;omega⟩;rw [ao];simp only [bV,vk h,aM,oi,b7];exact ⟨_,rfl,pF _,h2,λ_=>by simp only [Zy];omega⟩
 |x::r,pre,h,M,d,h1,h2,hM=>by
  obtain ⟨m,rfl⟩:∃m,M=m+1:=⟨M-1,by omega⟩;rw [ao];have u:IntKind.i64.wrap (most-1)=most-1:=bG (by omega);have a:x∈e.l:=by rw [h];simp
  have q:=my a;obtain ⟨g,hx,t,s,b⟩:=hk x a (most-1) (by omega) (by omega);have w:=yt e;have c:pre.length<4611686018427387904:=by have n:=congrArg List.length h;simp at n;omega
  have ih:=λd=>SY k e most hm hk hl r (pre++[x]) (by rw [h];simp) m d;rw [show ((pre++[x]).length:Int)=((pre.length+1:Nat):Int) by simp] at ih;simp only [bV,kL h,aM,iQ];cases j:decide (1<most)
  .simp only [b7];refine ⟨_,rfl,pF _,h2,λf=>?_⟩;simp only [qi] at j;omega
  .have i:IntKind.i64.wrap (1+g)=1+g:=bG (by omega);simp only [ca,n7 h,ah,u,hx,mG c,i];cases hd:decide (d<1+g)
   .simp only [b7];simp only [qi] at hd;obtain ⟨v,o,p,e3,e4⟩:=ih d h1 h2 (by simp at hM;omega);refine ⟨v,o,p,e3,λf=>?_⟩;have:=e4 f;have:=b (by omega);simp only [Zy];omega
   .simp only [ca];simp only [eW] at hd;obtain ⟨v,o,p,e3,e4⟩:=ih (1+g) (by omega) (by omega) (by simp at hM;omega);refine ⟨v,o,by omega,e3,λf=>?_⟩;have:=e4 f;have:=b (by omega);simp only [Zy];omega
theorem alN:∀(N:Nat) (e:Ex) (most:Int),e.sz<=N->e.sz<4611686018427387904-> -1000<=most->most<=1000->∃d:Int,aj (λk (s:Ex×Int)=>jx k s.1 s.2) N (e,most)=some d/\1<=d/\d<=e.sz/\(d<most->(ht e:Int)<=d):=by
 intro N
 induction N with
 |zero=>intro e _ h;have:=oD e;omega
 |succ N ih=>
  intro e most h hb i g;rw [ao];show ∃d:Int,aj (bV _ e most) au (1,0)=some d/\_;have hl:=yt e;have hp:=oD e;by_cases hm:most= -1000
  .-- none is asked
   refine ⟨1,?_,pF _,by omega,by omega⟩;rw [show au=18446744073709551615+1 from rfl,ao];simp only [bV,aM,hm,show decide ((1:Int)< -1000)=false from rfl,qP,b7]
  obtain ⟨v,n,j,e3,e4⟩:=SY (aj (λk (s:Ex×Int)=>jx k s.1 s.2) N) e most ⟨i,g⟩ (λx hx m f a=>by
   by_cases c:m< -1000
   .obtain rfl:m= -1001:=by omega
    refine ⟨1,?_,pF _,by have:=oD x;omega,by omega⟩;obtain ⟨K,rfl⟩:∃K,N=K+1:=⟨N-1,by have:=my hx;have:=oD x;omega⟩;rw [ao];show aj (bV _ x (-1001)) au (1,0)=some 1;rw [show au=18446744073709551615+1 from rfl,ao];simp only [bV,aM,show decide ((1:Int)< -1001)=false from rfl,qP,b7]
   .exact ih x m (by have:=my hx;omega) (by have:=my hx;omega) (by omega) a) hb e.l [] rfl au 1 (pF _) (by omega) (by show e.l.length<2^64;omega)
  exact ⟨v,n,j,e3,λb=>by rw [asm];have:=e4 b;omega⟩
theorem aku(e:Ex)(h:e.sz<4611686018427387904){most:Int}(b: -1000<=most)(a:most<=1000):∃d:Int,kM e most=some d/\1<=d/\d<=e.sz/\(d<most->(ht e:Int)<=d):=alN au e most (by show e.sz<=2^64;omega) h b a
theorem Ug(k:Ex×Int->zb)(e:Ex)(most:Int)(hk:∀x∈e.l,∃d:Int,k (x,most)=some d/\1<=d/\d<=x.sz/\(d<most->d=x.sz))(hl:e.sz<4611686018427387904):
  ∀(r pre:List Ex),e.l=pre++r->∀(M:Nat) (d:Int),1<=d->d+xk r<=e.sz->r.length<M->∃v:Int,aj (cU k e most) M (d,(pre.length:Int))=some v/\d<=v/\v<=d+xk r/\(v<most->v=d+xk r)
 |[],pre,h,M,d,h1,h2,hM=>by
  obtain ⟨m,rfl⟩:∃m,M=m+1:=⟨M-1,by simp at hM;omega⟩;rw [ao];simp only [cU,vk h,aM,oi,b7];exact ⟨_,rfl,pF _,by simp only [xk];omega,λ_=>by simp only [xk];omega⟩
 |x::r,pre,h,M,d,h1,h2,hM=>by
  obtain ⟨m,rfl⟩:∃m,M=m+1:=⟨M-1,by omega⟩;rw [ao];obtain ⟨i,hx,o,n,b⟩:=hk x (by rw [h];simp);have p:=yt e;have a:pre.length<4611686018427387904:=by have g:=congrArg List.length h;simp at g;omega
  have ih:=λd=>Ug k e most hk hl r (pre++[x]) (by rw [h];simp) m d;rw [show ((pre++[x]).length:Int)=((pre.length+1:Nat):Int) by simp] at ih;simp only [xk] at h2 ⊢;simp only [cU,kL h,aM,iQ];cases f:decide (d<most)
  .simp only [b7];refine ⟨_,rfl,pF _,by omega,λj=>?_⟩;simp only [qi] at f;omega
  .have c:IntKind.i64.wrap (d+i)=d+i:=bG (by omega);simp only [ca,n7 h,ah,hx,mG a,c];obtain ⟨v,q,s,e3,e4⟩:=ih (d+i) (by omega) (by omega) (by simp at hM;omega);refine ⟨v,q,by omega,by omega,λj=>?_⟩;have:=e4 j;have:=b (by omega);omega
theorem akh:∀(N:Nat) (e:Ex) (most:Int),e.sz<=N->e.sz<4611686018427387904->∃d:Int,aj (λk (s:Ex×Int)=>jo k s.1 s.2) N (e,most)=some d/\1<=d/\d<=e.sz/\(d<most->d=e.sz):=by
 intro N
 induction N with
 |zero=>intro e _ h;have:=oD e;omega
 |succ N ih=>
  intro e most h hb;rw [ao];show ∃d:Int,aj (cU _ e most) au (1,0)=some d/\_;have hl:=yt e;have f:=Ex.aeY e;obtain ⟨v,c,b,e3,e4⟩:=Ug (aj (λk (s:Ex×Int)=>jo k s.1 s.2) N) e most (λx hx=>ih x most (by have:=my hx;omega) (by have:=my hx;omega)) hb e.l [] rfl au 1 (pF _) (by omega) (by show e.l.length<2^64;omega);exact ⟨v,c,b,by omega,λa=>by have:=e4 a;omega⟩
theorem akz(e:Ex)(h:e.sz<4611686018427387904)(most:Int):∃d:Int,kP e most=some d/\1<=d/\d<=e.sz/\(d<most->d=e.sz):=akh au e most (by show e.sz<=2^64;omega) h
theorem ahW{e:Ex}(h:e.sz<4611686018427387904)(a:cB e=some true):ht e<=44/\e.sz<=299:=by
 obtain ⟨d,d1,d2,g,b⟩:=aku e h (most:=45) (by omega) (by omega);obtain ⟨m,m1,f,c,m4⟩:=akz e h 300;unfold cB at a;rw [d1,m1] at a;have:(decide (d<45)&&decide (m<300))=true:=by injection a
 simp only [ar,eW] at this;have:=b this.1;have:=m4 (by omega);omega
theorem ab1(k:Ex×Int->x3)(e:Ex)(a:Int)(hk:∀x∈e.l,k (x,a)=some (fp a x))(hl:e.l.length<4611686018427387904):
  ∀(r pre:List Ex),e.l=pre++r->∀(M:Nat),r.length<M->aj (jD k e a (e.l.length:Int)) M (pre.length:Int)=some (vr a r)
 |[],pre,h,M,hM=>by
  obtain ⟨m,rfl⟩:∃m,M=m+1:=⟨M-1,by simp at hM;omega⟩;rw [ao];simp only [jD,vk h,b7,vr]
 |x::r,pre,h,M,hM=>by
  obtain ⟨m,rfl⟩:∃m,M=m+1:=⟨M-1,by omega⟩;rw [ao];have hx:=hk x (by rw [h];simp);have b:pre.length<4611686018427387904:=by rw [h] at hl;simp at hl;omega
  have ih:=ab1 k e a hk hl r (pre++[x]) (by rw [h];simp) m (by simp at hM;omega);rw [show ((pre++[x]).length:Int)=((pre.length+1:Nat):Int) by simp] at ih;simp only [jD,kL h,ca,n7 h,ah,hx,mG b,vr];cases fp a x
  .rfl
  .simp only [qf,b7,iQ];exact ih
theorem aq9(k:Ex×Int->x3)(e:Ex)(a b:Int)(hk:∀x∈e.l,k (x,a)=some (fp a x))(hl:e.l.length<4611686018427387904):
  lT k e a b=some (vj e.op e.n (e.l.length:Int) b a&&vr a e.l):=by
 have c:((e.l.length:Int) != b)=false->aj (jD k e a b) au 0=some (vr a e.l):=λd=>by
  have d:(e.l.length:Int)=b:=by simpa using d
  rw [<-d];exact ab1 k e a hk hl e.l [] rfl au (by show e.l.length<2^64;omega)
 unfold lT vj;simp only [aM];generalize decide (e.op<1)=c1;generalize decide (24<e.op)=g;generalize ((e.l.length:Int) != b)=c3 at*;generalize ((e.op==1)&&(decide (e.n<0)||decide (1073741824<e.n))||(e.op==2)&&(decide (e.n<0)||decide (a<=e.n))||decide (2<e.op)&&e.n != 0)=f;cases c1 <;> cases g <;> cases c3 <;> cases f <;> first|exact c rfl|rfl
theorem arW(k:Ex×Int->x3)(e:Ex)(a:Int):ig k e a=lT k e a (oH e.op):=by
 unfold ig rY yo oH;generalize (e.op==1)=c1;generalize (e.op==2)=j;generalize (e.op==13)=i;generalize (e.op==14)=h;generalize (e.op==6)=g;generalize (e.op==15)=f;generalize (e.op==20)=d;generalize (e.op==21)=c;generalize (e.op==22)=b;cases c1
 .cases j
  .cases i
   .cases h
    .cases g
     .cases f
      .cases d
       .cases c
        .cases b <;> rfl
        .rfl
       .rfl
      .rfl
     .rfl
    .rfl
   .rfl
  .rfl
 .rfl
theorem akj:∀(N:Nat) (e:Ex) (a:Int),e.sz<=N->e.sz<4611686018427387904->aj (λk (s:Ex×Int)=>ig k s.1 s.2) N (e,a)=some (fp a e):=by
 intro N
 induction N with
 |zero=>intro e _ h;have:=oD e;omega
 |succ N ih=>
  intro e a h hb;rw [ao];show ig _ e a=_;have hl:=yt e;rw [arW,aq9 _ e a _ (λx hx=>ih x a (by have:=my hx;omega) (by have:=my hx;omega)) (by omega),V1]
theorem ap0(e:Ex)(h:e.sz<4611686018427387904)(a:Int):pC e a=some (fp a e):=akj au e a (by show e.sz<=2^64;omega) h
namespace Ns
theorem pE{σ ρ:Type}{F:(σ->Option ρ)->σ->Option ρ}(f:Nat->σ)(P:Nat->Prop)(R:Option ρ->Prop)(n:Nat)(hn:n<9223372036854775807)
  (e:∀i,i<n->(∀j,j<i->P j)->∀k,R (F k (f i))\/(P i/\F k (f i)=k (f (i+1)))) (h:(∀j,j<n->P j)->∀k,R (F k (f n))):R (aj F au (f 0)):=by
 have key:∀(d i m:Nat),i+d=n->d<m->(∀j,j<i->P j)->R (aj F m (f i)):=λd=>by
  induction d with
  |zero=>
   intro i m c b a;obtain ⟨m,rfl⟩:∃q,m=q+1:=⟨m-1,by omega⟩;grind [ao]
  |succ d ih=>
   intro i m c b a;obtain ⟨m,rfl⟩:∃q,m=q+1:=⟨m-1,by omega⟩;rw [ao];grind
 exact key n 0 au (by omega) (by show n<2^64;omega) (λj g=>by omega)
theorem bP{α:Type}{l:List α}{i:Nat}(h:i<l.length):idx l (i:Int)=some l[i]:=by simp_all [idx]
def Ay(Q:Prop)(x:x3):Prop:= ∃b,x=some b/\(b=true->Q)
theorem tU{Q:Prop}:Ay Q (some false):=⟨false,rfl,λh=>by cases h⟩
theorem Nz{l:V}(hl:l.length<=1048576)(n:Int):Ay (∀q∈l,0<=q/\q<n) (eY l n):=by
 refine pE (λi=>(i:Int)) (λi=>∀q,l[i]? =some q->0<=q/\q<n) _ l.length (by omega) (λi hi _ k=>?_) (λh k=>?_)
 .unfold nV;simp [So.aM];rw [cx (by omega),ca,bP hi,So.ah];by_cases a:l[i]<0
  .refine .inl ?_;rw [cx a];exact tU
  .rw [cy a];show Ay _ ((some l[i]).bind _)\/_/\(some l[i]).bind _=_;grind [So.ah,decide_eq_true,tU,List.getElem?_eq_getElem,decide_eq_false,Pa.bR]
 .unfold nV;rw [cy (by omega),b7];exact ⟨true,rfl,λ_ q b=>by grind [List.mem_iff_getElem?,List.getElem?_eq_some_iff]⟩
structure S3(a:Au):Prop where
 l0:a.1.length<=1048576
 l1:∀l∈a.1,l.length<=1048576/\∀e∈l,e.sz<=1048576
 n0:a.2.1.length<=1048576
 n1:∀l∈a.2.1,l.length<=1048576
 i0:a.2.2.1.length<=1048576
 c0:a.2.2.2.length<=1048576
 c1:∀l∈a.2.2.2,l.length<=1048576
theorem apN(e:Ex)(h:e.sz<=1048576):lO e=some ((rt e).2.1==0&&(rt e).1==2):=by unfold lO;rw [show dO e=some (rt e) from Sn au e (by show e.sz<=2^64;omega) (by omega),So.ah];rfl
theorem amJ{a:Au}(hb:S3 a):Ay ((∀q∈a.2.2.1,0<=q/\q<(a.1.length:Int))/\a.2.1.length=a.1.length/\(∀l∈a.2.1,∀q∈l,0<=q/\q<(a.1.length:Int))/\(∀l∈a.1,∀e∈l,(rt e).1=2)) (nF a):=by
 unfold nF;obtain ⟨b,s,r⟩:=Nz hb.i0 (a.1.length);rw [s,So.ah];simp [So.aM];cases b with
 |false=>exact tU
 |true=>
  by_cases hl:a.2.1.length=a.1.length
  .rw [show ((a.2.1.length:Int) != (a.1.length))=false by rw [hl];simp];show Ay _ (aj (kF a) au 0);refine pE (λi=>(i:Int)) (λi=>(∀l,a.2.1[i]? =some l->∀q∈l,0<=q/\q<(a.1.length))/\∀l,a.1[i]? =some l->∀e∈l,(rt e).1=2) _ a.1.length (by have:=hb.l0;omega) (λi hi _ k=>?_) (λh k=>?_)
   .have d:i<a.2.1.length:=by omega
    unfold kF;rw [cx (by omega),ca,bP d,So.ah];obtain ⟨u,n,p⟩:=Nz (hb.n1 _ (de d)) (a.1.length);rw [n,So.ah];cases u with
    |false=>exact .inl tU
    |true=>
     have hx:=hb.l1 _ (de hi);refine pE (F:=kA a (i) k) (λj=>(j)) (λj=>∀e,a.1[i][j]? =some e->(rt e).1=2) (λx=>Ay _ x\/_/\x=k ((i+1:Nat))) a.1[i].length (by omega) (λj c _ g=>?_) (λh g=>?_)
     .unfold kA;rw [bP hi,So.ah,cx (by omega),ca,So.ah,bP c,So.ah,apN _ (hx.2 _ (de c)),So.ah];cases o:((rt a.1[i][j]).2.1==0&&(rt a.1[i][j]).1==2) with
      |false=>exact .inl (.inl tU)
      |true=>
       refine .inr ⟨λe f=>?_,?_⟩
       .rw [b9 c] at f;cases f;simp at o;exact o.2
       .rw [Pa.bR (by omega)];rfl
     .unfold kA;rw [bP hi,So.ah,cy (by omega),b7,Pa.bR (by have:=hb.l0;omega)];refine .inr ⟨⟨λl hl=>?_,λl hl=>?_⟩,rfl⟩
      .rw [b9 d] at hl;cases hl;exact p rfl
      .rw [b9 hi] at hl;cases hl;exact λe f=>by
        obtain ⟨j,c⟩:=List.mem_iff_getElem?.1 f;exact h j (List.getElem?_eq_some_iff.1 c).1 e c
   .unfold kF;rw [cy (by omega),b7];refine pE (F:=iw a) (λj=>(j)) (λ_=>True) _ a.2.2.2.length (by have:=hb.c0;omega) (λj c _ g=>?_) (λ_ g=>?_)
    .unfold iw;rw [cx (by omega),ca,bP c,So.ah];obtain ⟨t,n,p⟩:=Nz (hb.c1 _ (de c)) (a.1.length);rw [n,So.ah];cases t with
     |false=>exact .inl tU
     |true=>exact .inr ⟨trivial,by have:=hb.c0;rw [Pa.bR (by omega)];rfl⟩
    .unfold iw;rw [cy (by omega),b7];refine ⟨true,rfl,λ_=>⟨r rfl,hl,λl m=>?_,λl m=>?_⟩⟩
     .grind [List.mem_iff_getElem?,List.getElem?_eq_some_iff]
     grind [List.mem_iff_getElem?,List.getElem?_eq_some_iff]
  .rw [show ((a.2.1.length:Int) != (a.1.length))=true by simp;omega,Bool.or_true];exact tU
end Ns
theorem Xi(k:Ex×Int->zb)(e:Ex)(most:Int)(hk:∀x∈e.l,∀m,∃d,k (x,m)=some d)(hl:e.l.length<4611686018427387904):
  ∀(r pre:List Ex),e.l=pre++r->∀(M:Nat) (d:Int),r.length<M->∃v,aj (bV k e most) M (d,(pre.length:Int))=some v
 |[],pre,h,M,d,hM=>by
  obtain ⟨m,rfl⟩:∃m,M=m+1:=⟨M-1,by simp at hM;omega⟩;rw [ao];simp only [bV,vk h,aM,oi,b7];exact ⟨_,rfl⟩
 |x::r,pre,h,M,d,hM=>by
  obtain ⟨m,rfl⟩:∃m,M=m+1:=⟨M-1,by omega⟩;rw [ao];obtain ⟨b,hx⟩:=hk x (by rw [h];simp) (IntKind.i64.wrap (most-1));have a:pre.length<4611686018427387904:=by rw [h] at hl;simp at hl;omega
  have ih:=λd=>Xi k e most hk hl r (pre++[x]) (by rw [h];simp) m d (by simp at hM;omega);rw [show ((pre++[x]).length:Int)=((pre.length+1:Nat):Int) by simp] at ih;simp only [bV,kL h,aM,iQ];cases decide (1<most)
  .simp only [b7];exact ⟨_,rfl⟩
  .simp only [ca,n7 h,ah,hx,mG a];cases decide (d<IntKind.i64.wrap (1+b))
   .simp only [b7];exact ih _
   .simp only [ca];exact ih _
theorem aic:∀(N:Nat) (e:Ex) (most:Int),e.sz<=N->e.sz<4611686018427387904->∃d,aj (λk (s:Ex×Int)=>jx k s.1 s.2) N (e,most)=some d:=by
 intro N
 induction N with
 |zero=>intro e _ h;have:=oD e;omega
 |succ N ih=>
  intro e most h hb;rw [ao];show ∃d,aj (bV _ e most) au (1,0)=some d;have hl:=yt e;exact Xi _ e most (λx hx m=>ih x m (by have:=my hx;omega) (by have:=my hx;omega)) (by omega) e.l [] rfl au 1 (by show e.l.length<2^64;omega)
theorem W4(k:Ex×Int->zb)(e:Ex)(most:Int)(hk:∀x∈e.l,∀m,∃d,k (x,m)=some d)(hl:e.l.length<4611686018427387904):
  ∀(r pre:List Ex),e.l=pre++r->∀(M:Nat) (d:Int),r.length<M->∃v,aj (cU k e most) M (d,(pre.length:Int))=some v
 |[],pre,h,M,d,hM=>by
  obtain ⟨m,rfl⟩:∃m,M=m+1:=⟨M-1,by simp at hM;omega⟩;rw [ao];simp only [cU,vk h,aM,oi,b7];exact ⟨_,rfl⟩
 |x::r,pre,h,M,d,hM=>by
  obtain ⟨m,rfl⟩:∃m,M=m+1:=⟨M-1,by omega⟩;rw [ao];obtain ⟨b,hx⟩:=hk x (by rw [h];simp) most;have a:pre.length<4611686018427387904:=by rw [h] at hl;simp at hl;omega
  have ih:=λd=>W4 k e most hk hl r (pre++[x]) (by rw [h];simp) m d (by simp at hM;omega);rw [show ((pre++[x]).length:Int)=((pre.length+1:Nat):Int) by simp] at ih;simp only [cU,kL h,aM,iQ];cases decide (d<most)
  .simp only [b7];exact ⟨_,rfl⟩
  .simp only [ca,n7 h,ah,hx,mG a];exact ih _
theorem ai1:∀(N:Nat) (e:Ex) (most:Int),e.sz<=N->e.sz<4611686018427387904->∃d,aj (λk (s:Ex×Int)=>jo k s.1 s.2) N (e,most)=some d:=by
 intro N
 induction N with
 |zero=>intro e _ h;have:=oD e;omega
 |succ N ih=>
  intro e most h hb;rw [ao];show ∃d,aj (cU _ e most) au (1,0)=some d;have hl:=yt e;exact W4 _ e most (λx hx m=>ih x m (by have:=my hx;omega) (by have:=my hx;omega)) (by omega) e.l [] rfl au 1 (by show e.l.length<2^64;omega)
theorem alx(e:Ex)(h:e.sz<4611686018427387904):∃b,cB e=some b:=by obtain ⟨d,hd⟩:=aic au e 45 (by show e.sz<=2^64;omega) h;obtain ⟨m,hm⟩:=ai1 au e 300 (by show e.sz<=2^64;omega) h;refine ⟨decide (d<45)&&decide (m<300),?_⟩;unfold cB kM kP;rw [hd,hm];rfl
namespace Ns
def dK{α:Type}:List (List α)->Nat
 |[]=>0
 |x::l=>x.length+dK l
theorem rB{α:Type}:∀{l:List (List α)} {i:Nat} (h:i<l.length),dK (l.take (i+1))=dK (l.take i)+l[i].length
 |x::l,0,_=>by simp [dK]
 |x::l,i+1,h=>by have:=rB (by simpa using h);grind [dK]
theorem Js{α:Type}{x:List α}:∀{l:List (List α)},x∈l->x.length<=dK l
 |y::l,h=>by
  unfold dK;rcases List.mem_cons.1 h with rfl|h
  .omega
  .have:=Js h;omega
theorem arC{a:Au}(hb:S3 a){n:Nat}(hn:n<=100000000):Ay (n<4000/\dK a.1<4000/\(∀l∈a.1,∀e∈l,cB e=some true)/\a.1.length<=40) (aj (ji a 40) au ((n:Int),0)):=by
 have c:=hb.l0;refine pE (F:=ji a 40) (λi:Nat=>(((n+dK (a.1.take i):Nat)),(i))) (λi=>n+dK (a.1.take i)<4000/\∀l,a.1[i]? =some l->∀e∈l,cB e=some true) _ a.1.length (by omega) (λi hi _ k=>?_) (λh k=>?_)
 .unfold ji;simp [So.aM];rw [cx (by omega)];by_cases g:n+dK (a.1.take i)<4000
  .rw [cx (by omega),Bool.and_true,ca,bP hi,So.ah];have hx:=hb.l1 _ (de hi);refine pE (F:=lZ a ((n+dK (a.1.take i):Nat)) (i) k a.1[i]) (λj=>(j)) (λj=>∀e,a.1[i][j]? =some e->cB e=some true) (λx=>Ay _ x\/_/\x=k (((n+dK (a.1.take (i+1)):Nat)),((i+1:Nat)))) a.1[i].length (by omega) (λj d _ b=>?_) (λh b=>?_)
   .unfold lZ;rw [bP hi,So.ah,cx (by omega),ca,So.ah,bP d,So.ah];grind [alx,List.getElem_mem,So.ah,tU,List.getElem?_eq_getElem,Pa.bR]
   .unfold lZ;rw [bP hi,So.ah,cy (by omega),b7,Pa.bR (by omega),rB hi];grind [List.getElem?_eq_getElem,List.mem_iff_getElem?,List.getElem?_eq_some_iff,bG]
  grind [decide_eq_false,dK,tU]
 .unfold ji;simp only [So.aM];rw [cy (by omega),oi,b7,qw];refine ⟨_,rfl,λf=>?_⟩;grind [List.mem_iff_getElem?,List.getElem?_eq_some_iff]
theorem aqm{a:Au}(hb:S3 a):Ay (dK a.2.1<4000/\dK a.2.2.2<4000/\a.2.2.1.length<4000/\dK a.1<4000/\(∀l∈a.1,∀e∈l,cB e=some true)/\a.1.length<=40) (pJ a 40):=by
 unfold pJ;have o:=hb.i0;have p:=hb.c0;have m:=hb.n0;rw [bG (by omega)];have s:((a.2.2.1.length:Int)+(a.2.2.2.length:Int),(0:Int))=(λi:Nat=>(((a.2.2.1.length+a.2.2.2.length+dK (a.2.1.take i):Nat):Int),(i:Int))) 0:=by simp [dK]
 rw [s];have two:∀n:Nat,n<=10000000->Ay (n<4000/\dK a.2.2.2<4000/\dK a.1<4000/\(∀l∈a.1,∀e∈l,cB e=some true)/\a.1.length<=40) (aj (jy a 40) au ((n:Int),0)):=λn hn=>by
  have r:((n:Int),(0:Int))=(λi:Nat=>(((n+dK (a.2.2.2.take i):Nat):Int),(i:Int))) 0:=by simp [dK]
  rw [r];refine pE (F:=jy a 40) (λi:Nat=>(((n+dK (a.2.2.2.take i):Nat):Int),(i:Int))) (λi=>n+dK (a.2.2.2.take i)<4000) _ a.2.2.2.length (by omega) (λi hi hp k=>?_) (λhp k=>?_)
  .have f:n+dK (a.2.2.2.take i)<=20000000:=by
    cases i with
    |zero=>simp [dK];omega
    |succ i=>
     have:=hp i (by omega);have d:=hb.c1 _ (de (l:=a.2.2.2) (n:=i) (by omega));rw [rB (by omega)];omega
   unfold jy;simp only [So.aM];rw [cx (show (i:Int)<(a.2.2.2.length:Int) by omega)];by_cases h:n+dK (a.2.2.2.take i)<4000
   .rw [cx (show ((n+dK (a.2.2.2.take i):Nat):Int)<4000 by omega),Bool.and_true,ca,bP hi,So.ah,Pa.bR (by omega)];have d:=hb.c1 _ (de hi);refine .inr ⟨h,?_⟩;rw [rB hi,bG (by omega)];congr 2;omega
   .rw [cy (show ¬((n+dK (a.2.2.2.take i):Nat):Int)<4000 by omega),qP,b7];obtain ⟨b,g,d⟩:=arC hb (n:=n+dK (a.2.2.2.take i)) (by omega);exact .inl ⟨b,g,λc=>absurd (d c).1 h⟩
  .have f:n+dK a.2.2.2<=20000000:=by
    cases j:a.2.2.2.length with
    |zero=>rw [List.length_eq_zero_iff.1 j];simp [dK];omega
    |succ i=>
     have:=hp i (by omega);have d:=hb.c1 _ (de (l:=a.2.2.2) (n:=i) (by omega));have q:=rB (l:=a.2.2.2) (i:=i) (by omega);rw [<-j,qw] at q;omega
   unfold jy;simp only [So.aM];rw [cy (show ¬(a.2.2.2.length:Int)<(a.2.2.2.length:Int) by omega),oi,b7,qw];obtain ⟨b,g,d⟩:=arC hb (n:=n+dK a.2.2.2) (by omega);exact ⟨b,g,λc=>⟨by have:=(d c).1;omega,by have:=(d c).1;omega,(d c).2⟩⟩
 refine pE (F:=mn a 40) (λi:Nat=>(((a.2.2.1.length+a.2.2.2.length+dK (a.2.1.take i):Nat)),(i))) (λi=>a.2.2.1.length+a.2.2.2.length+dK (a.2.1.take i)<4000) _ a.2.1.length (by omega) (λi hi hp k=>?_) (λhp k=>?_)
 .have f:a.2.2.1.length+a.2.2.2.length+dK (a.2.1.take i)<=4000000:=by
   cases i with
   |zero=>simp [dK];omega
   |succ i=>
    have:=hp i (by omega);have d:=hb.n1 _ (de (n:=i) (by omega));rw [rB (by omega)];omega
  unfold mn;simp [So.aM];rw [cx (by omega)];by_cases h:a.2.2.1.length+a.2.2.2.length+dK (a.2.1.take i)<4000
  .rw [cx (by omega),Bool.and_true,ca,bP hi,So.ah,Pa.bR (by omega)];have d:=hb.n1 _ (de hi);refine .inr ⟨h,?_⟩;rw [rB hi,bG (by omega)];congr 2;omega
  .rw [cy (by omega),qP,b7];obtain ⟨b,g,d⟩:=two _ (by omega:a.2.2.1.length+a.2.2.2.length+dK (a.2.1.take i)<=10000000);exact .inl ⟨b,g,λc=>absurd (d c).1 h⟩
 .have f:a.2.2.1.length+a.2.2.2.length+dK a.2.1<=4000000:=by
   cases j:a.2.1.length with
   |zero=>grind
   |succ i=>
    have d:=hb.n1 _ (de (n:=i) (by omega));grind [rB,List.take_length]
  unfold mn;simp only [So.aM];rw [cy (by omega),oi,b7,qw];obtain ⟨b,g,d⟩:=two _ (by omega:a.2.2.1.length+a.2.2.2.length+dK a.2.1<=10000000);exact ⟨b,g,λc=>⟨by grind,(d c).2.1,by grind,(d c).2.2⟩⟩
theorem amV{a:Au}(hb:S3 a)(b:Int):Ay (∀l∈a.1,∀e∈l,fp b e=true) (vu a b):=by
 have d:=hb.l0;refine pE (F:=lU a b) (λi=>(i)) (λi=>∀l,a.1[i]? =some l->∀e∈l,fp b e=true) _ a.1.length (by omega) (λi hi _ k=>?_) (λh k=>?_)
 .unfold lU;rw [cx (by omega),ca];have hx:=hb.l1 _ (de hi);refine pE (F:=lV a b (i) k) (λj=>(j)) (λj=>∀e,a.1[i][j]? =some e->fp b e=true) (λx=>Ay _ x\/_/\x=k ((i+1:Nat))) a.1[i].length (by omega) (λj f _ c=>?_) (λh c=>?_)
  .unfold lV;rw [bP hi,So.ah,cx (by omega),ca,So.ah,bP f,So.ah,ap0 _ (by grind),So.ah];grind [fp,tU,List.getElem?_eq_getElem,Pa.bR]
  .unfold lV;rw [bP hi,So.ah,cy (by omega),b7,Pa.bR (by omega)];grind [List.getElem?_eq_getElem,List.mem_iff_getElem?,List.getElem?_eq_some_iff]
 .unfold lU;rw [cy (by omega),b7];exact ⟨true,rfl,λ_ l hl=>by grind [List.mem_iff_getElem?,List.getElem?_eq_some_iff]⟩
theorem ajX{m:bw}(hS:m.2.1.length<=1048576)(e:∀f∈m.2.1,0<=f.2-f.1/\f.2-f.1<=100000000/\ -2000000000<=f.1/\f.2<=2000000000):∃b,pj m 200=some b:=by
 have key:∀(d i M:Nat) (n:Int),i+d=m.2.1.length->d<M->0<=n->n<=100000000000->∃b,aj (fM m 200) M (n,(i))=some b:=λd=>by
  induction d with
  |zero=>
   intro i M n j h c g;obtain ⟨M,rfl⟩:∃q,M=q+1:=⟨M-1,by omega⟩;rw [ao];unfold fM;simp only [So.aM];rw [cy (by omega),oi,b7];exact ⟨_,rfl⟩
  |succ d ih=>
   intro i M n j h c g;obtain ⟨M,rfl⟩:∃q,M=q+1:=⟨M-1,by omega⟩;have hi:i<m.2.1.length:=by omega
   have o:=e _ (de hi);have a:=λn=>ih (i+1) M n (by omega) (by omega);rw [ao];generalize aj (fM m 200) M=k at a ⊢;unfold fM;simp only [So.aM];rw [cx (by omega),iQ];by_cases hn:n<=200
   .rw [cx hn,ca,bP hi,So.ah,So.ah,Pa.bR (by omega)];have l:IntKind.i64.wrap (IntKind.i64.wrap (m.2.1[i].2-m.2.1[i].1)+1)=m.2.1[i].2-m.2.1[i].1+1:=by grind [bG]
    have r:0<=n*(m.2.1[i].2-m.2.1[i].1+1):=Int.mul_nonneg c (by omega);have p:n*(m.2.1[i].2-m.2.1[i].1+1)<=200*100000001:=Int.mul_le_mul hn (by omega) (by omega) (by omega);rw [l,bG (by omega)];grind
   grind
 exact key m.2.1.length 0 au 1 (by omega) (by show m.2.1.length<2^64;omega) (by omega) (by omega)
end Ns
namespace Ns
open Sp
structure o8(m:bw)(a:Au):Prop where
 hm:Gl m.2.1 m.2.2.2.2
 hi:sW m.2.1 m.2.2.1
 ha:Pd.uU a a.1.length
 lit:∀l∈a.1,∀e∈l,fp (m.1.length:Int) e=true/\(rt e).1=2/\e.sz<1000000
 dT:ZQ a
variable {m : bw} {a : Au}
theorem ark(h:o8 m a){q:Int}(g:0<=q/\q<(a.1.length:Int))(v:V):tN a q v=some (Pd.ob a q v):=by
 obtain ⟨i,rfl⟩:∃i:Nat,q=(i):=⟨q.toNat,by omega⟩;have hi:i<a.1.length:=by omega
 have hl:=(h.ha.row _ (de hi)).1;have c:Pd.ob a (i) v=a.1[i].all λe=>ev v e==1:=by grind [Pd.ob,Pd.aaE]
 rw [c];refine pE (F:=la a (i) v) (λj=>(j)) (λj=>∀e,a.1[i][j]? =some e->ev v e=1) (λx=>x=some (a.1[i].all λe=>ev v e==1)) a.1[i].length (by omega) (λj b _ k=>?_) (λl k=>?_)
 .unfold la;obtain ⟨f,d,o⟩:=h.lit _ (de hi) _ (de b);rw [bP hi,So.ah,cx (by omega),ca,So.ah,bP b,So.ah,Qj v _ (by omega) f (.inr d),So.ah];by_cases n:ev v a.1[i][j]=1
  .grind [List.getElem?_eq_getElem,Pa.bR]
  grind
 .unfold la;rw [bP hi,So.ah,cy (by omega),b7];grind [List.all_eq_true,List.mem_iff_getElem?,List.getElem?_eq_some_iff]
theorem aiI(v:V)(p q:zj):Pd.dN a v (p++q)=Pd.dN a v p++Pd.dN a v q:=by simp [Pd.dN]
theorem N4{A R:Type}{d:A}{x:Option A}{f:A->Option R}:bC true d x f=x.bind f:=rfl
theorem apz{A R:Type}{d:A}{x:Option A}{b:A->Bool}{p q:Option R}:(bC false d x λr=>ai (b r) λc=>ai (false&&c) λe=>bif e then p else q)=q:=rfl
theorem anj(h:o8 m a){v:V}(p:v.length<1000000){qs:zj}(n:∀q∈qs,0<=q/\q<(a.1.length:Int))(j:qs.length<=5000){l:List V}(hl:l.length<=20000000)(g:∀w∈l,w.length<2000000):
  mz l a v qs=some (di l (Pd.dN a v qs)):=by
 have c:∀i,(di l (Pd.dN a v (qs.take i))).length<=l.length+i:=λi=>by grind [rG,Pd.dN,Pd.GM]
 have e:∀i,∀w∈di l (Pd.dN a v (qs.take i)),w.length<2000000:=λi w b=>by
  rcases mR.1 b with d|d
  .exact g w d
  .obtain ⟨q,_,_,rfl⟩:=Pd.GC d;simp;omega
 refine pE (F:=j3 a v qs) (λi=>(di l (Pd.dN a v (qs.take i)),(i))) (λ_=>True) (λx=>x=some (di l (Pd.dN a v qs))) qs.length (by omega) (λi hi _ k=> .inr ⟨trivial,?_⟩) (λ_ k=>?_)
 .unfold j3;dsimp only;have d:=c i;rw [cx (by omega),ca,bP hi,So.ah,Sy.aP (Sy.dw (by simp;omega) (by simp;omega)),Sy.aP (Sy.dw (by simp;omega) (by simp;omega)),So.ah,ark h (n _ (de hi)),So.ah,oY,Pa.bR (by omega)];rw [show qs.take (i+1)=qs.take i++[qs[i]] from ql hi,aiI,Pd.JL];cases f:Pd.ob a qs[i] v with
  |false=>
   have:Pd.dN a v [qs[i]]=[]:=by simp [Pd.dN,f]
   rw [this,show di (di l (Pd.dN a v (qs.take i))) []=di l (Pd.dN a v (qs.take i)) from rfl];rw [apz]
  |true=>
   have o:Pd.dN a v [qs[i]]=[v++[qs[i]]]:=by simp [Pd.dN,f]
   rw [o];rw [N4,wD _ _ (by omega) (λw b=>by grind),So.ah];simp only [So.aM,iQ];have hd:di (di l (Pd.dN a v (qs.take i))) [v++[qs[i]]]=iz (di l (Pd.dN a v (qs.take i))) (v++[qs[i]]):=rfl;rw [hd];by_cases hp:IJ (v++[qs[i]]) 0 (di l (Pd.dN a v (qs.take i)))<0
   .rw [cx hp,ca,Dx.1 hp,Sy.aP (Sy.dw (by simp;omega) (by simp;omega))]
   .rw [cy hp,b7,Dx.2 hp]
 simp_all [j3,b7]
theorem SC(h:o8 m a){v:V}(b:sW m.2.1 v):v.length<1000000:=by have d:=b.len;have c:=h.hm.dT;omega
theorem aqM(h:o8 m a):kO m a=some (vJ m a):=by unfold kO;have:=h.ha.init;rw [anj h (SC h h.hi) this.2 this.1 (by simp) (λw b=>by cases b)];rfl
theorem RV(h:o8 m a){x:V}(hx:Pd.St m a.1.length x):x.length<1000001:=by obtain ⟨v,q,rfl,b,_⟩:=hx;grind [SC]
theorem aqr(h:o8 m a){x:V}(hx:Pd.St m a.1.length x):kN m a x=some (Pd.cC m a x):=by
 obtain ⟨v,q,rfl,g,A⟩:=hx;rw [Pd.KO];have s:=SC h g;unfold kN Pd.Jp;have r:IntKind.i64.wrap ((List.length (v++[q]))-1)=(v.length):=by grind [bG]
 have y:aV (v++[q]) 0 (v.length)=v:=by unfold aV;simp
 rw [r,Sy.aP (by grind [cZ]),y,am4 h.hm g,So.ah];have o:=No (S:=m.2.1) (cmds:=m.2.2.2.2) v;have t:=h.hm.cmds;by_cases n:(fL m.2.1 m.2.2.2.2 v).2=0
 .rw [du n,show ((fL m.2.1 m.2.2.2.2 v).2 != 0)=false by simp [n],b7];obtain ⟨i,rfl⟩:∃i:Nat,q=(i):=⟨q.toNat,by omega⟩;have hi:i<a.2.1.length:=by have:=h.ha.next;omega
  have l:Pd.vL a (i)=a.2.1[i]:=by grind [Pd.vL]
  have c:=h.ha.nxt _ (de hi);have f:∀w∈(fL m.2.1 m.2.2.2.2 v).1,w.length<1000000:=λw b=>SC h (Qc g w b);have d:∀j,j<=(fL m.2.1 m.2.2.2.2 v).1.length->(di [] (Pd.vX a a.2.1[i] ((fL m.2.1 m.2.2.2.2 v).1.take j))).length<=5000*j:=λj e=>by grind [rG,Pd.vX,fL,Pd.L4,min]
  rw [l];refine pE (F:=kU a (v++[(i:Int)]) (fL m.2.1 m.2.2.2.2 v)) (λj=>(di [] (Pd.vX a a.2.1[i] ((fL m.2.1 m.2.2.2.2 v).1.take j)),(j))) (λ_=>True) (λx=>x=some (di [] (Pd.vX a a.2.1[i] (fL m.2.1 m.2.2.2.2 v).1),0)) (fL m.2.1 m.2.2.2.2 v).1.length (by omega) (λj e _ k=> .inr ⟨trivial,?_⟩) (λ_ k=>?_)
  .unfold kU;dsimp only;have e3:idx (v++[(i:Int)]) (v.length)=some (i:Int):=by grind [bP]
   rw [cx (by omega),ca,bP e,So.ah,r,e3,So.ah,bP hi,So.ah];have B:=d j (by omega);rw [anj h (f _ (de e)) c.2 c.1 (by omega) (λw b=>?_),So.ah,Pa.bR (by omega),show (fL m.2.1 m.2.2.2.2 v).1.take (j+1)=(fL m.2.1 m.2.2.2.2 v).1.take j++[(fL m.2.1 m.2.2.2.2 v).1[j]] from ql e]
   .grind [Pd.vX,Pd.JL]
   .rcases mR.1 b with b|b
    .cases b
    .obtain ⟨u,z,b⟩:=List.mem_flatMap.1 b;obtain ⟨p,_,_,rfl⟩:=Pd.GC b;grind
  simp_all [kU,b7]
 grind
end Ns
namespace Ns
open Sp
variable {m : bw} {a : Au}
structure asQ(m:bw)(a:Au)(Us:List V):Prop where
 st:∀x∈Us,Pd.St m a.1.length x
 vJ:∀x∈vJ m a,x∈Us
 code:∀x∈Us,(Pd.cC m a x).2=0
 next:∀x∈Us,∀y∈(Pd.cC m a x).1,y∈Us
theorem aiQ(h:o8 m a):∀x∈vJ m a,Pd.St m a.1.length x:=λx hx=>by
 rcases mR.1 hx with hx|hx
 .cases hx
 .obtain ⟨q,b,_,rfl⟩:=Pd.GC hx;exact ⟨_,q,rfl,h.hi,h.ha.init.2 q b⟩
theorem adj(h:o8 m a):(vJ m a).length<=5000:=by have d:=rG (Pd.dN a m.2.2.1 a.2.2.1) [];have c:=Pd.GM (a:=a) (v:=m.2.2.1) (qs:=a.2.2.1);have b:=h.ha.init.1;grind [vJ]
def aeq(m:bw)(a:Au)(most:Nat)(x:Option (List V×Int)):Prop:= ∃r,x=some r/\(r.2=0->r.1.length<=most/\asQ m a r.1)
theorem apl(h:o8 m a){most:Nat}(u:most<=1000):aeq m a most (nE m a (most:Int)):=by
 unfold nE;rw [aqM h,So.ah];have key:∀(d i M:Nat) (l:List V),i+d=most+1->d<M->l.length<=10000000->i<=l.length->(∀x∈l,Pd.St m a.1.length x)->(∀x∈vJ m a,x∈l)->(∀x∈l.take i,(Pd.cC m a x).2=0/\∀y∈(Pd.cC m a x).1,y∈l)->
   aeq m a most (aj (ik m a (most:Int)) M (l,(i:Int))):=λd=>by
  induction d with
  |zero=>
   intro i M l J I H G f z g;obtain ⟨M,rfl⟩:∃q,M=q+1:=⟨M-1,by omega⟩;rw [ao];generalize aj _ M=k;unfold ik;dsimp only;rw [cx (show (most:Int)<(l.length:Int) by omega)];refine ⟨([],7),?_,λp=>by cases p⟩;cases decide ((i:Int)<(l.length:Int)) <;> rfl
  |succ d ih=>
   intro i M l J I H G f z g;obtain ⟨M,rfl⟩:∃q,M=q+1:=⟨M-1,by omega⟩;have n:=λl=>ih (i+1) M l (by omega) (by omega);rw [ao];generalize aj (ik m a (most:Int)) M=k at n ⊢;unfold ik;dsimp only;by_cases C:most<l.length
   .rw [cx (show (most:Int)<(l.length:Int) by omega)];refine ⟨([],7),?_,λp=>by cases p⟩;cases decide ((i:Int)<(l.length)) <;> rfl
   .rw [cy (show ¬(most:Int)<(l.length) by omega)];by_cases hi:i<l.length
    .rw [cx (by omega),ca,b7,bP hi,So.ah,aqr h (f _ (de hi)),So.ah];by_cases r:(Pd.cC m a l[i]).2=0
     .rw [show ((Pd.cC m a l[i]).2 != 0)=false by simp [r],b7];have B:=Pd.WR h.hm.toSafeS h.ha (f _ (de hi));have c:=Pd.abq h.ha (f _ (de hi));have v:aj (ir (i) k (Pd.cC m a l[i])) au (l,0)=k (di l (Pd.cC m a l[i]).1,((i+1:Nat))):=by
       refine pE (F:=ir (i) k (Pd.cC m a l[i])) (λj=>(di l ((Pd.cC m a l[i]).1.take j),(j))) (λ_=>True) (λx=>x=k (di l (Pd.cC m a l[i]).1,((i+1:Nat)))) (Pd.cC m a l[i]).1.length (by omega) (λj A _ D=> .inr ⟨trivial,?_⟩) (λ_ D=>?_)
       .have e:=rG ((Pd.cC m a l[i]).1.take j) l;simp at e;unfold ir;dsimp only;rw [cx (by omega),ca,bP A,So.ah,wD _ _ (by omega) (λw o=>by
         rcases mR.1 o with o|o
         .have:=RV h (f w o);omega
         .have:=RV h (c w (qV o));omega),So.ah,Pa.bR (by omega),So.ah]
        rw [show (Pd.cC m a l[i]).1.take (j+1)=(Pd.cC m a l[i]).1.take j++[(Pd.cC m a l[i]).1[j]] from ql A,Pd.JL];rw [show di (di l ((Pd.cC m a l[i]).1.take j)) [(Pd.cC m a l[i]).1[j]]=iz (di l ((Pd.cC m a l[i]).1.take j)) (Pd.cC m a l[i]).1[j] from rfl];by_cases hp:IJ (Pd.cC m a l[i]).1[j] 0 (di l ((Pd.cC m a l[i]).1.take j))<0
        .rw [cx hp,ca,Dx.1 hp,Sy.aP (Sy.dw (by simp;omega) (by simp;omega))]
        .rw [cy hp,b7,Dx.2 hp]
       .unfold ir;dsimp only;rw [cy (by omega),b7,qw,Pa.bR (by omega)]
      rw [v];have b:∀x∈l,x∈di l (Pd.cC m a l[i]).1:=λx hx=>mR.2 (.inl hx);have e:=rG (Pd.cC m a l[i]).1 l;refine n _ (by omega) ?_ (λx hx=>?_) (λx hx=>b x (z x hx)) (λx hx=>?_)
      .have:=(Qb (Pd.cC m a l[i]).1 l).length_le;omega
      .rcases mR.1 hx with hx|hx
       .exact f x hx
       .exact c x hx
      .have t:(di l (Pd.cC m a l[i]).1).take (i+1)=l.take i++[l[i]]:=by obtain ⟨q,E⟩:=Qb (Pd.cC m a l[i]).1 l;rw [<-E,List.take_append_of_le_length (by omega),ql hi]
       rw [t] at hx;rcases List.mem_append.1 hx with hx|hx
       .exact ⟨(g x hx).1,λy s=>b y ((g x hx).2 y s)⟩
       .rw [List.mem_singleton.1 hx];exact ⟨r,λy s=>mR.2 (.inr s)⟩
     .rw [show ((Pd.cC m a l[i]).2 != 0)=true by simpa using r,ca];exact ⟨_,rfl,λp=>absurd p r⟩
    .rw [cy (by omega),b7,b7];rw [fb (by omega)] at g;exact ⟨_,rfl,λ_=>⟨by grind,f,z,λx hx=>(g x hx).1,λx hx=>(g x hx).2⟩⟩
 have hl:=adj h;exact key (most+1) 0 au (vJ m a) (by omega) (by show most+1<2^64;omega) (by omega) (by omega) (aiQ h) (λ_ h=>h) (λx hx=>by simp at hx)
def Cu(S:List So.Fd)(cap:Int)(Us W G:List V)(t:St):Prop:=
 (∃(L:List V) (g:So.Gf),So.OkS t S cap L g/\L.Nodup/\(∀x∈L,x∈Us)/\(∀x∈W,x∈L)/\∀x∈G,g true x=true)\/
 (∃(M K:Nat) (seed:Int) (p0 p1 p2:Nat->Bool),So.OkL t S M K seed p0 p1 p2/\(∀x∈W,So.agl S x seed K M p0=true)/\∀x∈G,(So.Xn S x seed K M).all p2=true)
structure Oy(S:List So.Fd)(Us:List V):Prop where
 right:So.kZ S
 mem:∀x∈Us,So.In S x/\x.length<100000000
theorem Ri{p:Nat->Bool}{l:zk}(q:zk)(h:l.all p=true):l.all (So.w9 p q)=true:=by simp_all [So.w9]
theorem Vi(p:Nat->Bool)(l:zk):l.all (So.w9 p l)=true:=by simp_all [So.w9,List.contains_iff_mem]
theorem ahw{S:List So.Fd}{Us:List V}(hS:Oy S Us){cap:Int}{Bd:Er->Prop}(h:cap<(Us.length:Int)->Bd (.inl (7,[])))(W G:List V)(t:St)(x:V)(ht:Cu S cap Us W G t)(hx:x∈Us):
  (∃e,F0 t x=some (.error e)/\Bd (.inl e))\/(∃t',F0 t x=some (.ok (false,t'))/\Cu S cap Us (x::W) G t')\/(∃t',F0 t x=some (.ok (true,t'))/\Cu S cap Us (x::W) G t'/\x∉W):=by
 obtain ⟨f,hl⟩:=hS.mem x hx;have l:=So.rR.2 f;unfold F0;rcases ht with ⟨L,g,i,n,p,d,c⟩|⟨M,K,seed,p0,p1,p2,i,d,c⟩
 .obtain ⟨t',j,a,_⟩:=So.aqd hS.right i x hl;rw [j,So.ah];unfold So.UO at a ⊢;rw [du l] at a ⊢;unfold So.yB at a ⊢;by_cases hm:x∈L
  .rw [du hm] at a ⊢;exact .inr (.inl ⟨t',rfl,.inl ⟨L,g,a,n,p,λz b=>by
    grind,c⟩⟩)
  .rw [dk hm] at a ⊢;by_cases o:cap<=(L.length)
   .have:=Df.HX (List.nodup_cons.2 ⟨hm,n⟩) (m:=Us) (λz b=>by grind)
    grind
   .rw [dk o] at a ⊢;refine .inr (.inr ⟨t',rfl,.inl ⟨_,g,a,?_,λz b=>?_,λz b=>?_,c⟩,λk=>hm (d x k)⟩)
    .grind
    .grind
    grind
 .obtain ⟨t',j,a⟩:=So.anW (So.kZ.fds hS.right) i x hl;rw [j,So.ah];rw [du l] at a ⊢;cases hm:So.agl S x seed K M p0 with
  |true=>
   refine .inr (.inl ⟨t',rfl,.inr ⟨M,K,seed,_,p1,p2,a,λz b=>?_,c⟩⟩);rcases List.mem_cons.1 b with rfl|b
   .exact Vi _ _
   .exact Ri _ (d z b)
  |false=>
   refine .inr (.inr ⟨t',rfl,.inr ⟨M,K,seed,_,p1,p2,a,λz b=>?_,c⟩,λk=>by grind⟩);rcases List.mem_cons.1 b with rfl|b
   .exact Vi _ _
   .exact Ri _ (d z b)
theorem ap9{S:List So.Fd}{Us:List V}(hS:Oy S Us){cap:Int}{Bd:Er->Prop}(f:cap<(Us.length:Int)->Bd (.inl (7,[])))(W G:List V)(t:St)(x:V)(ht:Cu S cap Us W G t)(hx:x∈Us):
  (∃e,Lb t x=some (.error e)/\Bd (.inl e))\/(∃t',Lb t x=some (.ok (false,t'))/\Cu S cap Us W G t')\/(∃t',Lb t x=some (.ok (true,t'))/\Cu S cap Us W (x::G) t'/\x∉G):=by
 obtain ⟨l,hl⟩:=hS.mem x hx;have s:=So.rR.2 l;have key:∀{t':St} {b:Bool},F0 t x=some (.ok (b,t'))->Cu S cap Us (x::W) G t'->(∃t'',Lb t x=some (.ok (false,t''))/\Cu S cap Us W G t'')\/(∃t'',Lb t x=some (.ok (true,t''))/\Cu S cap Us W (x::G) t''/\x∉G):=λ{t' b} r q=>by
  unfold Lb;rw [r];show ((∃t'',(dR t' x 1).bind _=_/\_))\/(∃t'',(dR t' x 1).bind _=_/\_);rcases q with ⟨L,g,d,h,p,i,k⟩|⟨M,K,seed,p0,p1,p2,d,i,k⟩
  .have a:So.Gc S L x 1=0:=by unfold So.Gc So.gJ;rw [du s,dk (by omega),du (i x (c8 ..))]
   rw [So.arG hS.right d x hl 1,So.ah];obtain ⟨t2,n,j,_⟩:=So.are hS.right d x hl 1;unfold So.ajV;unfold So.amT at j;rw [du a] at j ⊢;cases m:g ((1:Int)==1) x with
   |true=>exact .inl ⟨t',rfl,.inl ⟨L,g,d,h,p,λz c=>i z (cp _ c),k⟩⟩
   |false=>
    rw [b7,n,So.ah];refine .inr ⟨t2,rfl,.inl ⟨L,_,j,h,p,λz c=>i z (cp _ c),λz c=>?_⟩,λo=>by have:=k x o;rw [show ((1:Int)==1)=true from rfl,this] at m;cases m⟩;unfold So.mA;rcases List.mem_cons.1 c with rfl|c
    .simp
    .rw [k z c,Bool.true_or]
  .have a:So.CX S x seed K M p0 1=0:=by simp_all [So.CX,So.Ar,So.agl,So.Xn]
   rw [So.apm (So.kZ.fds hS.right) d x hl 1,So.ah];obtain ⟨t2,n,j⟩:=So.an8 (So.kZ.fds hS.right) d x hl 1;rw [du a,du rfl];rw [dk (by omega),du ⟨a,rfl⟩] at j;cases m:(So.Xn S x seed K M).all p2 with
   |true=>exact .inl ⟨t',rfl,.inr ⟨M,K,seed,p0,p1,p2,d,λz c=>i z (cp _ c),k⟩⟩
   |false=>
    rw [b7,n,So.ah];refine .inr ⟨t2,rfl,.inr ⟨M,K,seed,p0,p1,_,j,λz c=>i z (cp _ c),λz c=>?_⟩,λo=>by grind⟩;rcases List.mem_cons.1 c with rfl|c
    .exact Vi _ _
    grind [Ri]
 rcases ahw hS f W G t x ht hx with ⟨e,d,h⟩|⟨t',d,h⟩|⟨t',d,h,_⟩
 .refine .inl ⟨e,?_,h⟩;unfold Lb;rw [d];rfl
 .exact .inr (key d h)
 grind
end Ns
namespace Ns
open Sp
variable {m : bw} {a : Au} {Us : List V} {Bd : Er -> Prop} {cap most : Int}
structure Ends(m:bw)(a:Au)(Us:List V)(cap most:Int)(Bd:Er->Prop):Prop where
 st:∀x∈Us,Pd.St m a.1.length x
 next:∀x∈Us,(Pd.cC m a x).2=0->∀y∈(Pd.cC m a x).1,y∈Us
 full:cap<(Us.length:Int)->Bd (.inl (7,[]))
 stack:most<(Us.length:Int)->Bd (.inl (8,[]))
 code:∀x∈Us,(Pd.cC m a x).2≠0->Bd (.inl ((Pd.cC m a x).2,x.dropLast))
 found:∀p:List V×List V,(∀x∈p.1,x∈Us)->(∀x∈p.2,x∈Us)->p.2≠[]->p.1.length<=Us.length->p.2.length<=Us.length->Bd (.inr p)
theorem Dw(h:o8 m a)(b:Ends m a Us cap most Bd):ajn Us 2000000 Bd (wT m a most):=λn y d hn=>by
 unfold wT;by_cases e:most<=(n)
 .rw [du e];exact .inl ⟨_,rfl,b.stack (by omega)⟩
 .rw [dk e];by_cases c:(Pd.cC m a y).2=0
  .rw [du c];exact .inr ⟨_,rfl,b.next y d c,Pd.WR h.hm.toSafeS h.ha (b.st y d)⟩
  .rw [dk c];exact .inl ⟨_,rfl,b.code y d c⟩
theorem ZB{x:V}(hx:x∈Us){l:List V}(hl:∀z∈l,z∈Us):CJ Us [(x,l)]:=
 ⟨λf a=>by grind,λf a=>by grind,by simp⟩
theorem aet{K:List V}{x:V}{l:List V}(a:Us.length<=1000000)(hl:l.length<=2000000):mu Us K*(2000000+2)+wt [(x,l)]<au:=by have b:=aqf (Us:=Us) (K:=K);show _<2^64;simp [wt,eT,List.map_nil,List.sum_cons,List.sum_nil];omega
theorem ahn(h:o8 m a){S:List So.Fd}(hS:Oy S Us)(j:Ends m a Us cap most Bd)(D:Us.length<=1000000){W:List V}{t:St}(ht:Cu S cap Us W [] t){s:lM}(k:CJ Us s)(n:s≠[]):
  Ux (λK t=>Cu S cap Us K [] t) Bd W (inn m a most au t s):=by
 match s,n with
 |(x,l)::r,_=>
  have hx:=k.st _ (c8 ..);unfold inn;dsimp only;cases meet a x with
  |false=>exact .inr ⟨W,t,rfl,ht,λ_ h=>h⟩
  |true=>
   unfold allI;rcases Dw h j 0 x hx (List.length_pos_of_mem hx) with ⟨e,q,p⟩|⟨l',q,p,E⟩
   .simp [q];exact .inl ⟨_,rfl,p⟩
   .simp only [q];have C:=M3 (nw:=Lb) (se:=seI x ((x,l)::r).reverse) (bot:=some x)
     (λK t y hi A=>by
      rcases ap9 hS j.full W K t y hi A with ⟨e,d,c⟩|⟨t',d,c⟩|⟨t',d,c,H⟩
      .grind
      .grind
      grind)
     (λy w e A B hn i=>by
      unfold seI at i;split at i
      .cases i;refine j.found _ (λz b=>?_) (λz b=>?_) (by simpa using hn) (by have:=k.dT;simp at this ⊢; omega) (by have:=B.dT;simpa using this)
       .obtain ⟨f,o,rfl⟩:=List.mem_map.1 b;exact k.st f (List.mem_reverse.1 ((List.dropLast_sublist _).subset o))
       .obtain ⟨f,o,rfl⟩:=List.mem_map.1 b;exact B.st f (List.mem_reverse.1 o)
      .cases i)
     (λy w i I=>by grind [seI,Option.some.inj])
     (λK t w hi _ _=> .inr ⟨K,t,rfl,hi,λ_ h=>h⟩)
     (Dw h j) au t [(x,l')] [] ht (ZB hx p) (λz b=>by grind) (aet D E)
    rcases C with ⟨e,d,c⟩|⟨J,t',d,c,_⟩
    .exact .inl ⟨e,d,c⟩
    .refine .inr ⟨W,t',d,c.imp (λ⟨L,g,v,G,F,u,_⟩=>⟨L,g,v,G,F,u,λz b=>by cases b⟩) (λ⟨M,K,s,p0,p1,p2,v,u,_⟩=>⟨M,K,s,p0,p1,p2,v,u,λz b=>by cases b⟩),λ_ h=>h⟩
theorem RT{S:List So.Fd}(hS:Oy S Us)(f:Ends m a Us cap most Bd):anA Us (λK t=>Cu S cap Us K [] t) Bd F0:=λK t y hi d=>by
 rcases ahw hS f.full K [] t y hi d with ⟨e,c,b⟩|⟨t',c,b⟩|⟨t',c,b,g⟩
 .grind
 .grind
 grind
theorem ajJ(h:o8 m a){S:List So.Fd}(hS:Oy S Us)(b:Ends m a Us cap most Bd)(l:Us.length<=1000000):∀(L:List V),(∀x∈L,x∈Us)->∀(W:List V) (t:St),Cu S cap Us W [] t->Ux (λK t=>Cu S cap Us K [] t) Bd W (ol m a most L t)
 |[],_,W,t,ht=> .inr ⟨W,t,rfl,ht,λ_ h=>h⟩
 |x::r,hL,W,t,ht=>by
  have hx:=hL x (c8 ..);have ih:=λG t' k=>ajJ h hS b l r (λy w=>hL y (cp _ w)) G t' k;unfold ol;rcases RT hS b W t x ht hx with ⟨e,d,c⟩|⟨g,t',d,c,j⟩|⟨g,t',d,c,j,J,I⟩
  .rw [d];exact .inl ⟨_,rfl,c⟩
  .rw [d];rcases ih g t' c with ⟨e,r1,r2⟩|⟨u,t2,r1,r2,i⟩
   .exact .inl ⟨e,r1,r2⟩
   .exact .inr ⟨u,t2,r1,r2,λz f=>i z (j z f)⟩
  .rw [d];rcases Dw h b 0 x hx (List.length_pos_of_mem hx) with ⟨e,o,n⟩|⟨l',o,n,E⟩
   .simp [o];exact .inl ⟨_,rfl,n⟩
   .simp [o];have A:Ux (λK t=>Cu S cap Us K [] t) Bd g (Y0 m a most au t' [(x,l')]):=M3 (bot:=none)
     (RT hS b) (λ_ _ _ _ _ _ C=>by cases C) (λ_ _ _ D=>by cases D) (λK t s hi B hn=>ahn h hS b l hi B hn) (Dw h b) au t' [(x,l')] g c (ZB hx n) (λz f=>by grind) (aet l E)
    rcases A with ⟨e,q,p⟩|⟨u,t2,q,p,F⟩
    .rw [q];exact .inl ⟨e,rfl,p⟩
    .rw [q];rcases ih u t2 p with ⟨e,r1,r2⟩|⟨H,v,r1,r2,i⟩
     .exact .inl ⟨e,r1,r2⟩
     .exact .inr ⟨H,v,r1,r2,λz f=>i z (F z (j z f))⟩
end Ns
namespace Ns
open Sp
theorem apu:sK=some true:=by kernel_rfl
theorem aom{m:bw}{a:Au}(f:Sy.Wf m)(hb:S3 a)(d:(∀q∈a.2.2.1,0<=q/\q<(a.1.length:Int))/\a.2.1.length=a.1.length/\(∀l∈a.2.1,∀q∈l,0<=q/\q<(a.1.length:Int))/\(∀l∈a.1,∀e∈l,(rt e).1=2))
  (j:dK a.2.1<4000/\dK a.2.2.2<4000/\a.2.2.1.length<4000/\dK a.1<4000/\(∀l∈a.1,∀e∈l,cB e=some true)/\a.1.length<=40)
  (i:∀l∈a.1,∀e∈l,fp (m.1.length:Int) e=true) (h:a.2.2.2.length=1):o8 m a:=by
 have c:∀l∈a.1,∀e∈l,e.sz<1000000:=λl hl e b=>by have:=(ahW (by have:=(hb.l1 l hl).2 e b;omega) (j.2.2.2.2.1 l hl e b)).2;omega
 refine ⟨ape f,apx f,⟨rfl,d.2.1,by omega,λl hl=>⟨by have:=Js hl;omega,c l hl⟩,⟨by omega,d.1⟩,λl hl=>⟨by have:=Js hl;omega,d.2.2.1 l hl⟩⟩,λl hl e b=>⟨i l hl e b,d.2.2.2 l hl e b,c l hl e b⟩,⟨?_⟩⟩;cases g:a.2.2.2 with
 |nil=>rw [g] at h;cases h
 |cons A r=>exact ⟨A,r,rfl,by have:=Js (l:=a.2.2.2) (x:=A) (by rw [g];simp);omega⟩
theorem ajQ{m:bw}{a:Au}(hb:S3 a):Ay (Sy.Wf m->o8 m a) (l6 m a):=by
 unfold l6;obtain ⟨i,h,f⟩:=aqm hb;rw [h,So.ah];cases i with
 |false=>exact tU
 |true=>
  obtain ⟨k,g,e⟩:=amJ hb;obtain ⟨j,e3,d⟩:=amV hb (m.1.length:Int);rw [g,So.ah,e3,So.ah];refine ⟨_,rfl,λb c=>?_⟩;simp only [ar,mN] at b;exact aom c hb (e b.1.1) (f rfl) (d b.1.2) (by have:=b.2;omega)
theorem aho(text:aE){a:Au}(hb:S3 a):∃q,lX text a=some q/\(q.2=true->o8 q.1 a/\a.1.length<=12):=by
 unfold lX;obtain ⟨q,h,g⟩:=akH text;rw [h,So.ah];cases e:q.2 with
 |false=>exact ⟨(q.1,false),rfl,λc=>by cases c⟩
 |true=>
  have b:=g e;obtain ⟨n,k,i⟩:=ajQ (m:=q.1) hb;rw [N4,k,So.ah];simp only [So.aM,iQ];cases n with
  |false=>exact ⟨(q.1,false),rfl,λc=>by cases c⟩
  |true=>
   by_cases hl:a.1.length<=12
   .rw [cx (show (a.1.length:Int)<=12 by omega)];obtain ⟨l,j⟩:=ajX (m:=q.1) (by have:=b.names;have:=b.schema;omega) (λf d=>by have:=b.fields f d;have:=this.le;have:=b.fields f d;have:=this.lo;have:=b.fields f d;have:=this.hi;have:=b.fields f d;have:=this.wide;omega);show ∃q',bC true _ _ _=_/\_;rw [N4,j,So.ah];exact ⟨(q.1,l),rfl,λ_=>⟨i rfl b,hl⟩⟩
   .rw [cy (show ¬(a.1.length:Int)<=12 by omega)];exact ⟨(q.1,false),rfl,λc=>by cases c⟩
abbrev Cb(m:bw)(a:Au):List So.Fd:=m.2.1++[(0,max 0 ((a.1.length:Int)-1))]
theorem Dl{m:bw}{a:Au}(h:o8 m a):So.kZ (Cb m a):=by
 have hk:=h.ha.dT;have e:=h.hm.pos;have d:=h.hm.dT;refine ⟨by simp [Cb],by simp [Cb];omega,λf b=>?_⟩;rcases List.mem_append.1 b with b|b
 .have c:=h.hm.field f b;exact ⟨c.lo,c.hi,c.le,c.wide⟩
 .rw [List.mem_singleton.1 b];dsimp only;omega
theorem aen{m:bw}{a:Au}(h:o8 m a):So.FI (Cb m a):=λf b=>by have:=(Dl h).each f b;exact ⟨⟨by omega,by omega⟩,⟨by omega,by omega⟩⟩
theorem ahE{m:bw}{a:Au}(h:o8 m a):vC m a=some (Cb m a,0):=by
 have hk:=h.ha.dT;have d:=h.hm.dT;unfold vC;rw [bG (by omega)];have c:So.FI [((0:Int),max 0 ((a.1.length:Int)-1))]:=λf b=>by rw [List.mem_singleton.1 b];exact ⟨⟨by dsimp only;omega,by dsimp only;omega⟩,⟨by dsimp only;omega,by dsimp only;omega⟩⟩
 rw [So.aaM c,So.ah,So.Wt.2 ⟨by simp,by simp,λf b=>by rw [List.mem_singleton.1 b];dsimp only;omega⟩];show (cL m.2.1).bind _=_;rw [So.Nt (by omega),So.ah,Sy.aP (Sy.dw (by simp;omega) (by simp;omega))]
theorem YE:∀{S:w5} {v:zj},fits S v=true->∀(i:Nat) (h:i<S.length) (a:i<v.length),S[i].1<=v[i]/\v[i]<=S[i].2
 |s::S,n::w,h,0,_,_=>by
  simp only [fits,ar,eW] at h;exact h.1
 |s::S,n::w,h,i+1,h1,h2=>by simp only [fits,ar,eW] at h;exact YE h.2 i (by simpa using h1) (by simpa using h2)
theorem asd{m:bw}{a:Au}(h:o8 m a){x:V}(hx:Pd.St m a.1.length x):So.In (Cb m a) x/\x.length<100000000:=by
 refine ⟨?_,by have:=RV h hx;omega⟩;obtain ⟨v,q,rfl,b,f⟩:=hx;have hl:=b.len;refine ⟨by simp [Cb,hl],λi hi=>?_⟩;have d:i<m.2.1.length+1:=by simpa [Cb] using hi
 by_cases c:i<m.2.1.length
 .have:=YE b.fit i c (by omega);rw [List.getElem_append_left c,List.getElem_append_left (by omega)];exact this
 .have e:i=m.2.1.length:=by omega
  subst e;rw [List.getElem_append_right (by omega),List.getElem_append_right (by omega)];simp only [hl,Nat.sub_self,List.getElem_cons_zero];omega
theorem ar1{m:bw}{a:Au}(h:o8 m a){Us:List V}(b:∀x∈Us,Pd.St m a.1.length x):Oy (Cb m a) Us:=⟨Dl h,λx hx=>asd h (b x hx)⟩
theorem amq{m:bw}{a:Au}(h:o8 m a){Us:List V}{Bd:Er->Prop}(o:So.Op)(hk:0<=o.1/\o.1<5)(d:0<=o.2.1/\o.2.1<=1048576)(j7:1<=o.2.2.1/\o.2.2.1<=1048576)(hl:o.1=4->1<=o.2.2.2.2.1/\o.2.2.2.2.1<=4194304/\1<=o.2.2.2.2.2/\o.2.2.2.2.2<=16)
  (i:Ends m a Us o.2.1 o.2.2.1 Bd) (l:Us.length<=1000000) (hi:∀x∈vJ m a,x∈Us):(∃e,jP m a o=Cr (some (.error e))/\Bd e)\/jP m a o=some (false,([],[]),0,[]):=by
 have hS:=ar1 h i.st;have n:=λ(t:St) (c:Int) (hN:gh (Cb m a) o=some (t,c))=>an3 h.hm.toSafeS h.hi h.ha h.dT (by have:=adj h;omega) (aiQ h) o (ahE h) hN;have run:∀t,gh (Cb m a) o=some (t,0)->Cu (Cb m a) o.2.1 Us [] [] t->(∃e,jP m a o=Cr (some (.error e))/\Bd e)\/jP m a o=some (false,([],[]),0,[]):=λt hN ht=>by
  rw [n t 0 hN,du ⟨rfl,j7.1,j7.2⟩];rcases ajJ h hS i l (vJ m a) hi [] t ht with ⟨e,b,k⟩|⟨s,t',b,_⟩
  .rw [b];exact .inl ⟨e,rfl,k⟩
  .rw [b];exact .inr rfl
 by_cases j:o.1=4
 .obtain ⟨l1,r,q,p⟩:=hl j;obtain ⟨t,g,f⟩:=So.apb (aen h) (Dl h) (M:=o.2.2.2.2.1.toNat) (K:=o.2.2.2.2.2.toNat) (by omega) (by omega) o j d (by omega) (by omega);exact run t g (.inr ⟨_,_,_,_,_,_,f,nofun,nofun⟩)
 .obtain ⟨t,g,f,_⟩:=(So.apw (aen h) (Dl h) o (by omega)).2 d.1 d.2;exact run t g (.inl ⟨[],_,f,by simp,nofun,nofun,nofun⟩)
theorem aax{Us:List V}(hl:Us.length<1000000)(b:∀w∈Us,w.length<100000000){x:V}(hx:x∈Us):∃j,dm Us x=some j/\ ¬j<0:=by rw [wD _ _ (by omega) (λw a=>by have:=b w a;omega)];exact ⟨_,rfl,λc=>On.1 c hx⟩
theorem acg(w:aE×Au×Int×Int)(hb:S3 w.2.1)(hk:0<=w.2.2.1/\w.2.2.1<=255):jw w=some true:=by
 unfold jw;rw [apu,So.ah];obtain ⟨q,z,y⟩:=aho w.1 hb;rw [z,So.ah];cases v:q.2 with
 |false=>rfl
 |true=>
  obtain ⟨h,_⟩:=y v;rw [qf,b7];obtain ⟨r,B,A⟩:=apl h (most:=80) (by omega);rw [show (80:Int)=((80:Nat):Int) from rfl,B,So.ah];by_cases m:r.2=0
  .obtain ⟨n,a⟩:=A m;rw [show (r.2 != 0)=false by simp [m],b7,bG (by omega)];have b:0<=Int.tmod w.2.2.1 5/\Int.tmod w.2.2.1 5<5:=by rw [Int.tmod_eq_emod_of_nonneg hk.1];omega
   have c:∀u∈r.1,u.length<100000000:=λu t=>by have:=RV h (a.st u t);omega
   rcases amq h (Us:=r.1) (Bd:=λe=>∃p,e= .inr p/\(∀x∈p.1,x∈r.1)/\(∀x∈p.2,x∈r.1)/\p.2≠[]/\p.1.length<=80/\p.2.length<=80) (Int.tmod w.2.2.1 5,100,100,w.2.2.2,1000,2) b (by dsimp only;omega) (by dsimp only;omega) (λ_=>by dsimp only;omega)
    ⟨a.st,λx hx _=>a.next x hx,λd=>by dsimp only at d;omega,λd=>by dsimp only at d;omega,λx hx d=>absurd (a.code x hx) d,λp p1 p2 f s o=>⟨p,rfl,p1,p2,f,by omega,by omega⟩⟩ (by omega) a.vJ with ⟨e,f1,p,rfl,p1,p2,f,s,o⟩|f1
   .rw [f1];show (some (true,p,0,[])).bind _=_;rw [So.ah];simp only [So.aM];rw [show (((0:Int) != 0)||(!true))=false from rfl,b7];refine pE (F:=ic true r (true,p,0,[])) (λi=>(i:Int)) (λ_=>True) (λx=>x=some true) p.1.length (by omega) (λi hi _ k=> .inr ⟨trivial,?_⟩) (λ_ k=>?_)
    .unfold ic;dsimp only;obtain ⟨j,l,g⟩:=aax (by omega) c (p1 _ (de hi));rw [cx (by omega),ca,bP hi,So.ah,l,So.ah,cy g,b7,Pa.bR (by omega)]
    .unfold ic;dsimp only;rw [cy (by omega),b7];refine pE (F:=ia true r (true,p,0,[])) (λi=>(i:Int)) (λ_=>True) (λx=>x=some true) p.2.length (by omega) (λi hi _ k=> .inr ⟨trivial,?_⟩) (λ_ k=>?_)
     .unfold ia;dsimp only;obtain ⟨j,l,g⟩:=aax (by omega) c (p2 _ (de hi));rw [cx (by omega),ca,bP hi,So.ah,l,So.ah,cy g,b7,Pa.bR (by omega)]
     .unfold ia;dsimp only;have:0<p.2.length:=List.length_pos_iff.2 f;rw [cy (by omega),b7,cx (by omega)];rfl
   .rw [f1];rfl
  .rw [show (r.2 != 0)=true by simpa using m,ca]
end Ns
variable {w : World}
open Go.Lib Go.ChangeAt Go.ChangeShapes Go.WideShapes Go.RowKit
theorem aey{P:Program}{w:World}:∀(l:List (String×DataW Unit)) (ps:List MemPlace),DataW.LaidVars P w l ps->∀(i:Nat) (n:String) (d:DataW Unit),l[i]? =some (n,d)->
  ∃g t cs a p,P.globalNamed n=some g/\(P.globals[g]?).map (·.type)=some t/\w.var? P n=some cs/\DataW.trod (λ_=>()) P w 0 (λ_=>true) false a t cs.toList=some (d,p)
 |[],_,_,i,n,d,h=>by simp at h
 |(n0,d0)::l,ps,h,i,n,d,hi=>by
  obtain ⟨g,t,cs,a,p,q,j,f,e,c,b,_⟩:=h;cases i with
  |zero=>
   simp only [qh,ej,q5] at hi;obtain ⟨rfl,rfl⟩:=hi;exact ⟨g,t,cs,a,p,j,f,e,c⟩
  |succ i=>exact aey l q b i n d (by simpa using hi)
theorem agO{P:Program}{laid:List (String×DataW Unit)}(a:(laid.filter λx=>x.2.handleName?.isSome)=[])(h:laidMetH P laid w):laidMet P laid w:=by unfold laidMetH at h;rw [a] at h;exact h
theorem apA{P:Program}{laid:List (String×DataW Unit)}{Γ:Ctx}(h:laidMet P laid w)(i:Nat){n:String}{kd:IntKind}{zs:zj}{g:Nat}{t e:TypeId}{k:Nat}
  (hi:laid[i]? =some (n,tabData kd zs)) (m:P.globalNamed n=some g) (b:(P.globals[g]?).map (·.type)=some t)
  (ht:P.underlying t=some (.array k e)) (q:P.underlying e=some (.int kd)) (l:P.cellsOf e=1) (j:P.cellsOf t=k) (r:¬ Γ.M g):(gl g (zs.map (Value.int kd))).P Γ.M w:=by
 obtain ⟨ps,hl,_⟩:=h;obtain ⟨u,t',cs,o,p,f,d,a,hd⟩:=aey _ _ hl i n _ hi;obtain rfl:=gj (m.symm.trans f);obtain rfl:=gj (b.symm.trans d);have s:=cells_of_tab ht q l j hd;refine ⟨r,?_⟩;unfold World.var? at a;rw [m] at a;simp only [Option.bind_some] at a;split at a
 next c ty fr hb=>obtain rfl:=gj a;exact ⟨ty,fr,by rw [hb,<-s]⟩
 .cases a
def Wq(Γ:Ctx):Prop:= ∀b,¬ Γ.M b
theorem adC:Wq []:=λb h=>by obtain ⟨it,h,_⟩:=h;cases h
theorem ab4{it:Item}{Γ:Ctx}(hp:it.own=[])(h:Wq Γ):Wq (it::Γ):=λb hb=>by
 rcases Ctx.Fq.1 hb with a|a
 .rw [hp] at a;cases a
 .exact h b a
theorem ai4(w:World):Sat [kept w (λ_=>False)] w:=Sat.nil.add rfl ⟨iM.refl w,cH _,λb _ _=>⟨adC b,rfl⟩⟩
theorem aii(w:World):Wq [kept w (λ_=>False)]:=ab4 rfl adC
theorem am0{Γ:Ctx}(h:Wq Γ):Mv (λ_=>False) w Γ.M w:=⟨cH _,λb _ _=>⟨h b,rfl⟩⟩
theorem aiS{w':World}{Γ:Ctx}{i:Nat}(h:Sat Γ w')(hi:Γ[i]? =some (kept w (λ_=>False))):Below w.heap.size w w':=by obtain ⟨a,c,b⟩:=h.kept hi;exact ⟨a.os,a.tape,a.output,c,λk hk=>(b k hk (λh=>h)).2⟩
theorem Sr{Y:Type}(R:Nat->Y->Ex->Prop):∀(ys:List Y),(∀i y,ys[i]? =some y->∃e,R i y e)->∃l:List Ex,l.length=ys.length/\∀i y e,ys[i]? =some y->l[i]? =some e->R i y e
 |[],_=>⟨[],rfl,λi y e h=>by simp at h⟩
 |y::ys,h=>by
  obtain ⟨e,d⟩:=h 0 y rfl;obtain ⟨l,hl,c⟩:=Sr (λi=>R (i+1)) ys (λi y a=>h (i+1) y (by simpa using a));refine ⟨e::l,by simp [hl],λi b e' a hx=>?_⟩;cases i with
  |zero=>
   simp only [qh,ej] at a hx;subst a;subst hx;exact d
  |succ i=>exact c i b e' (by simpa using a) (by simpa using hx)
theorem ajF{H:Type}:∀(l:List Ex) (ds:List (DataW H)),l.length=ds.length->(∀(i:Nat) (e:Ex) (d:DataW H),l[i]? =some e->ds[i]? =some d->e.sz<=Rows.uptoBulk d)->xk l<=Rows.uptoBulkAll ds
 |[],[],_,_=>cH _
 |e::l,d::ds,hl,h=>by
  have c:=h 0 e d rfl rfl;have b:=ajF l ds (by simpa using hl) (λi e d a hd=>h (i+1) e d (by simpa using a) (by simpa using hd));simp only [xk,Rows.uptoBulkAll];omega
 |[],_::_,h,_=>by simp at h
 |_::_,[],h,_=>by simp at h
theorem PV{H:Type}(d:DataW H):1<=Rows.uptoBulk d:=by
 cases d with
 |lit l=>cases l <;> simp [Rows.uptoBulk]
 |nil=>simp [Rows.uptoBulk]
 |ptr d=>simp [Rows.uptoBulk]
 |slice e b=>simp [Rows.uptoBulk]
 |agg c=>simp [Rows.uptoBulk]
 |iface t d=>simp [Rows.uptoBulk]
 |map a=>simp [Rows.uptoBulk]
 |held h=>simp [Rows.uptoBulk]
theorem BW{H:Type}{d:DataW H}:∀{l:List (DataW H)},d∈l->Rows.uptoBulk d<=Rows.uptoBulkAll l
 |x::r,h=>by
  simp only [Rows.uptoBulkAll];rcases List.mem_cons.1 h with rfl|h
  .omega
  .have:=BW h;omega
structure aje(P:Program)(t:TypeId):Prop where
 fields:∃(fs:Array Field) (f0 f1 f2 f3:Field),P.underlying t=some (.struct fs)/\fs.size=4/\fs[0]? =some f0/\fs[1]? =some f1/\fs[2]? =some f2/\fs[3]? =some f3/\
  (f0.offset=0/\P.underlying f0.type=some (.int .i64)/\P.cellsOf f0.type=1)/\(f1.offset=1/\P.underlying f1.type=some (.int .i64)/\P.cellsOf f1.type=1)/\
  (f2.offset=2/\P.underlying f2.type=some (.int .i64)/\P.cellsOf f2.type=1)/\(f3.offset=3/\P.underlying f3.type=some (.slice t)/\P.cellsOf f3.type=1)
 cells:P.cellsOf t=4
theorem ap1{P:Program}{a:Nat}{t:TypeId}{v:Value}{b:Array Field}(ht:P.underlying t=some (.struct b))(h:Value.okWide P w .any a t v):
  ∃cs,v= .agg cs/\cs.size=P.cellsOf t/\Row.okWide P w .any a t cs:=by
 unfold Value.okWide at h;rw [ht] at h;exact h
theorem afu{a:Addr}{v:Value}(h:w.cell? a=some v):a.spot=none/\∃cs e fr,w.heap[a.block]? =some (.cells cs e fr)/\cs[a.off]? =some v:=by
 unfold World.cell? at h;split at h
 .rename_i cs e fr hb;split at h
  .cases h
  next b=>exact ⟨by simpa using b,cs,e,fr,hb,h⟩
 .cases h
theorem ag6{H:Type}{enc:TypeId×Value->H}{P:Program}{W:World}{t:TypeId}(L:aje P t):∀(p:Nat) (cs:za) (x:DataW H×List MemPlace),
  DataW.trod enc P W 0 (λ_=>true) true p t cs=some x->∃e,xY (λ_=>False) W cs e/\e.sz<=Rows.uptoBulk x.1:=by
 intro p
 induction p using Nat.strongRecOn with
 |ind p ih=>
 intro cs x h;obtain ⟨⟨fs,f0,f1,f2,f3,hT,hsz,g0,g1,g2,g3,⟨o0,u0,c0⟩,⟨o1,u1,c1⟩,⟨o2,u2,c2⟩,⟨o3,u3,c3⟩⟩,hc⟩:=L;obtain ⟨xs,n,rfl,rfl,hl,D,X⟩:=DataW.trod_struct hT h;rw [hc] at hl;rw [hsz] at D;obtain ⟨a0,V,U,C,rfl⟩:∃a0 V U C,cs=[a0,V,U,C]:=by
  match cs,hl with
  |[a,b,c,d],_=>exact ⟨a,b,c,d,rfl⟩
 obtain ⟨x0,x1,x2,A,rfl⟩:∃a0 V U C,xs=[a0,V,U,C]:=by
  match xs,D with
  |[a,b,c,d],_=>exact ⟨a,b,c,d,rfl⟩
 have Z:=X 0 f0 g0;have t1:=X 1 f1 g1;have t2:=X 2 f2 g2;have Y:=X 3 f3 g3;rw [o0,c0] at Z;rw [o1,c1] at t1;rw [o2,c2] at t2;rw [o3,c3] at Y;simp only [n9,qZ,tx,List.drop_succ_cons,qh,gy] at Z t1 t2 Y;obtain ⟨z,e0,_,_⟩:=DataW.trod_int u0 Z;obtain ⟨w,e1,_,_⟩:=DataW.trod_int u1 t1;obtain ⟨v,e2,_,_⟩:=DataW.trod_int u2 t2;obtain rfl:a0= .int .i64 z:=by simpa using e0
 obtain rfl:V= .int .i64 w:=by simpa using e1
 obtain rfl:U= .int .i64 v:=by simpa using e2
 have hb:∀d,A.1=d->Rows.uptoBulk d+1<=Rows.uptoBulk (DataW.agg ([x0,x1,x2,A].map (·.1))):=λd hd=>by subst hd;have:=BW (d:=A.1) (l:=[x0,x1,x2,A].map (·.1)) (by simp);simp only [Rows.uptoBulk];omega
 rcases DataW.trod_slice u3 Y with ⟨q,E⟩|⟨a,len,cap,f,rest,m,rfl,q,E,_,hlc,_,J,O,hsp,_⟩
 .obtain rfl:C= .slice none 0 0:=by simpa using q
  refine ⟨.mk z w v [],.nil z w v none,?_⟩;have:=hb _ rfl;have:=PV A.1;simp only [Ex.sz,xk];omega
 .obtain rfl:C= .slice (some a) len cap:=by simpa using q
  obtain ⟨hrl,G⟩:=hsp rfl;rw [hc] at O G
  -- all of it is there
  have cell:∀i,i<cap->∃us y,W.cells? 0 (a.add (i*4)) 4=some us/\us.length=4/\(∀j,j<4->W.cell? ((a.add (i*4)).add j)=us[j]?)/\DataW.trod enc P W 0 (λ_=>true) true m t us=some y/\(i<len->f[i]? =some y):=λi hi=>by
   by_cases M:i<len
   .obtain ⟨y,r⟩:∃y,f[i]? =some y:=⟨f[i]'(by omega),b9 _⟩;have:=O i M;rw [r,q0] at this;obtain ⟨us,B,S⟩:=this;obtain ⟨_,q,u⟩:=World.cells?_some B;exact ⟨us,y,B,q,u,S,λ_=>r⟩
   .obtain ⟨y,r⟩:∃y,rest[i-len]? =some y:=⟨rest[i-len]'(by omega),b9 _⟩;have:=G (i-len) (by omega);rw [r,q0] at this;obtain ⟨us,B,S⟩:=this;have e:len+(i-len)=i:=by omega
    rw [e] at B;obtain ⟨_,q,u⟩:=World.cells?_some B;exact ⟨us,y,B,q,u,S,λh=>absurd h M⟩
  by_cases Q:cap=0
  .subst Q;obtain rfl:len=0:=by omega
   refine ⟨.mk z w v [],.nil z w v (some a),?_⟩;have:=hb _ rfl;have:=PV A.1;simp only [Ex.sz,xk];omega
  .obtain ⟨us0,_,_,hl0,hc0,_⟩:=cell 0 (by omega);have T:=hc0 0 (by omega);rw [b9 (by omega)] at T;obtain ⟨hs,o,e',fr,R,_⟩:=afu T;have F:a.spot=none:=by simpa [Addr.add] using hs
   have k:W.heap[a.block]? =some (.cells o e' fr):=by simpa [Addr.add] using R
   obtain ⟨b,g,sp⟩:=a;simp only at F k;subst F;have at_:∀i j,((⟨b,g,none⟩:Addr).add (i*4)).add j=⟨b,g+i*4+j,none⟩:=λi j=>by unfold Addr.add;split <;> split <;> simp_all
   have s:∀i,i<cap->∃us y,us.length=4/\(∀j,j<4->o[g+i*4+j]? =us[j]?)/\DataW.trod enc P W 0 (λ_=>true) true m t us=some y/\(i<len->f[i]? =some y):=λi hi=>by obtain ⟨us,y,_,q,u,h5,h6⟩:=cell i hi;refine ⟨us,y,q,λj K=>?_,h5,h6⟩;have:=u j K;rw [at_] at this;simpa [World.cell?,k] using this
   have hsize:g+cap*4<=o.size:=by obtain ⟨us,_,q,u,_⟩:=s (cap-1) (by omega);have:=u 3 (by omega);rw [b9 (by omega)] at this;have:=(Array.getElem?_eq_some_iff.1 this).1;omega
   have N:∀i y,f[i]? =some y->∃e,(xY (λ_=>False) W (((o.toList.drop g).drop (i*4)).take 4) e/\e.sz<=Rows.uptoBulk y.1):=λi y r=>by
    have hi:i<len:=by rw [<-J];exact (List.getElem?_eq_some_iff.1 r).1
    obtain ⟨us,y',q,u,h5,h6⟩:=s i (by omega);obtain rfl:y'=y:=by have:=h6 hi;rw [r] at this;exact (gj this).symm
    have hus:((o.toList.drop g).drop (i*4)).take 4=us:=by
     apply l9;intro j;by_cases K:j<4
     .rw [qg,du K,qv,qv,<-u j K];simp [q7]
     .rw [qg,dk K,lk (by omega)]
    rw [hus];exact ih m (by omega) us y' h5
   obtain ⟨l,hll,hR⟩:=Sr (λi y e=>xY (λ_=>False) W (((o.toList.drop g).drop (i*4)).take 4) e/\e.sz<=Rows.uptoBulk y.1) f N;have I:l.length=len:=by omega
   refine ⟨.mk z w v l,?_,?_⟩
   .rw [<-I];refine .some z w v l b g cap o e' fr (λh=>h) k (by omega) (by omega) ?_ (λi hi=>?_)
    .simp only [dh,iN,eX];omega
    .obtain ⟨y,r⟩:∃y,f[i]? =some y:=⟨f[i]'(by omega),b9 _⟩;have:=(hR i y l[i] r (b9 _)).1;rw [qx,qF];have e4:min 4 (l.length*4-i*4)=4:=by omega
     rw [e4];exact this
   .have B:=ajF l (f.map (·.1)) (by simp [hll]) (λi e d he hd=>by rw [qo,Option.map_eq_some_iff] at hd;obtain ⟨y,r,rfl⟩:=hd;exact (hR i y e r he).2)
    have S:A.1= .slice (f.map (·.1)) (rest.map (·.1)):=by rw [E]
    have q:=hb _ S;simp only [Ex.sz];have u:Rows.uptoBulk (DataW.slice (f.map (·.1)) (rest.map (·.1)))=Rows.uptoBulkAll (f.map (·.1))+Rows.uptoBulkAll (rest.map (·.1))+1:=by simp only [Rows.uptoBulk]
    omega
variable {Q : Nat -> Prop} {W : World}
open Go.ChangeMaps (open_string)
def vB:Ty->v7
 | .p a b=>vB a++vB b
 | .l _|.ex=>[none]
 |_=>[]
def arH:Ty->Pt
 | .i k=> .int k
 | .bo=> .bool
 | .s=> .str
 | .l t=> .sli t
 |t=> .dat t (vB t)
def Lm(Q:Nat->Prop):(t:Ty)->t.T->Prop
 | .i k,x=>(Lit.int k x).wf=true
 | .s,x=>x.length<=9223372036854775807
 | .p a b,x=>Lm Q a x.1/\Lm Q b x.2
 | .l t,x=>(List.length (α:=t.T) x<=9223372036854775807/\Q (List.length (α:=t.T) x))/\∀y:t.T,List.Mem y x->Lm Q t y
 | .ex,x=>Q x.sz
 |_,_=>True
def LU(P:Program)(t:TypeId):Bool:=(match P.underlying t with
 |some (.int .i64)=>true
 |_=>false)&&P.cellsOf t==1
def exB(P:Program)(t:TypeId):Bool:=(match P.underlying t with
 |some (.struct fs)=>(match fs.toList with
  |[f0,f1,f2,f3]=>f0.offset==0&&LU P f0.type&&(f1.offset==1&&LU P f1.type)&&(f2.offset==2&&LU P f2.type)&&(f3.offset==3&&P.cellsOf f3.type==1&&(match P.underlying f3.type with
   |some (.slice e)=>e==t
   |_=>false))
  |_=>false)
 |_=>false)&&P.cellsOf t==4
def CZ(P:Program)(fit:TypeId->Ty->Bool)(tot:Nat):List Field->Nat->Ty->Bool
 |[],_,_=>false
 |[f],off,t=>f.offset==off&&off+P.cellsOf f.type==tot&&P.cellsOf f.type==t.rep.n&&fit f.type t
 |f::g::fs,off,t=>match t with
  | .p a b=>f.offset==off&&P.cellsOf f.type==a.rep.n&&fit f.type a&&CZ P fit tot (g::fs) (off+P.cellsOf f.type) b
  |_=>false
def fits(P:Program):Nat->TypeId->Ty->Bool
 |0,_,_=>false
 |n+1,i,t=>match P.underlying i with
  |some (.int k)=>(match t with
   | .i k'=>decide (k=k')
   |_=>false)
  |some .bool=>(match t with
   | .bo=>true
   |_=>false)
  |some .string=>(match t with
   | .s=>true
   |_=>false)
  |some (.slice e)=>(match t with
   | .l u=>P.cellsOf e==u.rep.n&&Nat.blt 0 u.rep.n&&fits P n e u
   |_=>false)
  |some (.struct fs)=>(match t with
   | .ex=>exB P i
   | .p a b=>CZ P (fits P n) (P.cellsOf i) fs.toList 0 (.p a b)
   |_=>false)
  |_=>false
def Wm:Ty->Bool
 | .n=>false
 | .p a b=>Wm a&&Wm b
 |_=>true
theorem MG{P:Program}{fit:TypeId->Ty->Bool}(h:∀i t,fit i t=true->Wm t=true){d:Nat}:∀(j:List Field) (c:Nat) (t:Ty),CZ P fit d j c t=true->Wm t=true
 |[],_,_,e=>by cases e
 |[f],c,t,e=>by
  simp only [CZ,ar] at e;exact h _ _ e.2
 |f::g::j,c,t,e=>by
  unfold CZ at e;split at e
  next a b=>simp only [ar] at e;simp only [Wm,ar];exact ⟨h _ _ e.1.2,MG h (g::j) _ b e.2⟩
  .cases e
theorem Z8{P:Program}:∀(n:Nat) (i:TypeId) (t:Ty),fits P n i t=true->Wm t=true
 |0,_,_,e=>by cases e
 |n+1,i,t,e=>by
  unfold fits at e;split at e <;> (try cases e)
  .split at e
   .rfl
   .cases e
  .split at e
   .rfl
   .cases e
  .split at e
   .rfl
   .cases e
  .split at e
   .rfl
   .cases e
  .split at e
   .rfl
   .exact MG (λi t=>Z8 n i t) _ _ _ e
   .cases e
theorem xj{P:Program}{t:TypeId}(h:LU P t=true):P.underlying t=some (.int .i64)/\P.cellsOf t=1:=by
 unfold LU at h;simp only [ar,mN] at h;refine ⟨?_,h.2⟩;revert h;split
 next h=>intro _;exact h
 .intro h;cases h.1
theorem apU{P:Program}{t:TypeId}(h:exB P t=true):aje P t:=by
 unfold exB at h;simp only [ar,mN] at h;obtain ⟨a,q⟩:=h;split at a
 .rename_i d b;split at a
  .rename_i k j f c hl;simp only [ar,mN] at a;obtain ⟨⟨⟨⟨a0,n⟩,w,m⟩,v,l⟩,⟨u,r⟩,s⟩:=a;have g:∀i:Nat,d[i]? =[k,j,f,c][i]? :=λi=>by rw [<-hl,si]
   have o:P.underlying c.type=some (.slice t):=by
    revert s;split
    next e p=>intro hb;rw [p,(by simpa using hb:e=t)]
    .intro hb;cases hb
   refine ⟨⟨d,k,j,f,c,b,?_,g 0,g 1,g 2,g 3,⟨a0,(xj n).1,(xj n).2⟩,⟨w,(xj m).1,(xj m).2⟩,⟨v,(xj l).1,(xj l).2⟩,⟨u,o,r⟩⟩,q⟩;rw [<-eX,hl];rfl
  .cases a
 .cases a
theorem alT{a:Addr}{v:Value}(h:w.cell? a=some v):a.spot=none/\∃cs e fr,w.heap[a.block]? =some (.cells cs e fr)/\cs[a.off]? =some v:=by
 unfold World.cell? at h;split at h
 .rename_i cs e fr hb;split at h
  .cases h
  next b=>exact ⟨by simpa using b,cs,e,fr,hb,h⟩
 .cases h
theorem Pp{Y α:Type}(R:Nat->Y->α->Prop):∀(ys:List Y),(∀i y,ys[i]? =some y->∃e,R i y e)->∃l:List α,l.length=ys.length/\∀i y e,ys[i]? =some y->l[i]? =some e->R i y e
 |[],_=>⟨[],rfl,λi y e h=>by simp at h⟩
 |y::ys,h=>by
  obtain ⟨e,d⟩:=h 0 y rfl;obtain ⟨l,hl,c⟩:=Pp (λi=>R (i+1)) ys (λi y a=>h (i+1) y (by simpa using a));refine ⟨e::l,by simp [hl],λi b e' a hx=>?_⟩;cases i with
  |zero=>
   simp only [qh,ej] at a hx;subst a;subst hx;exact d
  |succ i=>exact c i b e' (by simpa using a) (by simpa using hx)
theorem O9{H:Type}:∀(l:List (DataW H)),l.length<=Rows.uptoBulkAll l
 |[]=>n6 _
 |d::l=>by have:=O9 l;have:=PV d;simp only [eb,Rows.uptoBulkAll];omega
theorem aiD{H:Type}{enc:TypeId×Value->H}{P:Program}{t e:TypeId}{A:fg α}{D:α->Prop}(ht:P.underlying t=some (.slice e))(hA:P.cellsOf e=A.n)(hn:0<A.n)
  (q:Nat) (cs:za) (x:DataW H×List MemPlace) (hQ:∀n,n<=Rows.uptoBulk x.1->Q n)
  (he:∀(q:Nat) (us:za) (y:DataW H×List MemPlace),(∀n,n<=Rows.uptoBulk y.1->Q n)->DataW.trod enc P W 0 (λ_=>true) true q e us=some y->∃z,A.rd (λ_=>False) W us z/\D z)
  (h:DataW.trod enc P W 0 (λ_=>true) true q t cs=some x):
  ∃(u:jN) (zs:List α),cs=[sl u]/\bS A (λ_=>False) W (sl u) zs/\(zs.length<=9223372036854775807/\Q zs.length)/\∀z∈zs,D z:=by
 rcases DataW.trod_slice ht h with ⟨p,_⟩|⟨a,len,cap,c,rest,m,rfl,p,hx,_,hlc,C,F,K,T,_⟩
 .exact ⟨(none,0,0),[],p,bS.nil,⟨by simp,hQ _ (n6 _)⟩,by simp⟩
 .obtain ⟨hrl,B⟩:=T rfl;rw [hA] at K B;have C:cap<=9223372036854775807:=C;have hb:Rows.uptoBulk x.1=Rows.uptoBulkAll (c.map (·.1))+Rows.uptoBulkAll (rest.map (·.1))+1:=by rw [hx];simp only [Rows.uptoBulk]
  have hlb:len<=Rows.uptoBulk x.1:=by have:=O9 (c.map (·.1));simp only [mj] at this;omega
  have V:∀y∈c,∀n,n<=Rows.uptoBulk y.1->Q n:=λy o n hn=>hQ n (by have:=BW (d:=y.1) (l:=c.map (·.1)) (List.mem_map.2 ⟨y,o,rfl⟩);omega)
  have cell:∀i,i<cap->∃us y,us.length=A.n/\(∀j,j<A.n->W.cell? ((a.add (i*A.n)).add j)=us[j]?)/\DataW.trod enc P W 0 (λ_=>true) true m e us=some y/\(i<len->c[i]? =some y):=λi hi=>by
   by_cases I:i<len
   .obtain ⟨y,o⟩:∃y,c[i]? =some y:=⟨c[i]'(by omega),b9 _⟩;have:=K i I;rw [o,q0] at this;obtain ⟨us,O,Z⟩:=this;obtain ⟨_,p,s⟩:=World.cells?_some O;exact ⟨us,y,p,s,Z,λ_=>o⟩
   .obtain ⟨y,o⟩:∃y,rest[i-len]? =some y:=⟨rest[i-len]'(by omega),b9 _⟩;have:=B (i-len) (by omega);rw [o,q0,show len+(i-len)=i by omega] at this;obtain ⟨us,O,Z⟩:=this;obtain ⟨_,p,s⟩:=World.cells?_some O;exact ⟨us,y,p,s,Z,λh=>absurd h I⟩
  by_cases L:cap=0
  .subst L;obtain rfl:len=0:=by omega
   exact ⟨(some a,0,0),[],p,bS.emp,⟨by simp,hQ _ (n6 _)⟩,by simp⟩
  .obtain ⟨us0,_,hl0,U,_⟩:=cell 0 (by omega);have N:=U 0 hn;rw [b9 (by omega)] at N;obtain ⟨hs,g,e',fr,M,_⟩:=alT N;have w:a.spot=none:=by simpa [Addr.add] using hs
   have k:W.heap[a.block]? =some (.cells g e' fr):=by simpa [Addr.add] using M
   obtain ⟨b,f,sp⟩:=a;simp only at w k;subst w;have at_:∀i j,((⟨b,f,none⟩:Addr).add (i*A.n)).add j=⟨b,f+i*A.n+j,none⟩:=λi j=>by unfold Addr.add;split <;> split <;> simp_all
   have r:∀i,i<cap->∃us y,us.length=A.n/\(∀j,j<A.n->g[f+i*A.n+j]? =us[j]?)/\DataW.trod enc P W 0 (λ_=>true) true m e us=some y/\(i<len->c[i]? =some y):=λi hi=>by obtain ⟨us,y,p,s,Y,X⟩:=cell i hi;refine ⟨us,y,p,λj G=>?_,Y,X⟩;have:=s j G;rw [at_] at this;simpa [World.cell?,k] using this
   have v:f+cap*A.n<=g.size:=by
    obtain ⟨us,_,p,s,_⟩:=r (cap-1) (by omega);have:=s (A.n-1) (by omega);rw [b9 (by omega)] at this;have:=(Array.getElem?_eq_some_iff.1 this).1;have e1:cap*A.n=(cap-1)*A.n+A.n:=by
     have:cap=(cap-1)+1:=by omega
     conv=>lhs;rw [this]
     rw [qn,Nat.one_mul]
    omega
   have J:∀i y,c[i]? =some y->∃z,(A.rd (λ_=>False) W (((g.toList.drop f).drop (i*A.n)).take A.n) z/\D z):=λi y o=>by
    have hi:i<len:=by rw [<-F];exact (List.getElem?_eq_some_iff.1 o).1
    obtain ⟨us,R,p,s,Y,X⟩:=r i (by omega);obtain rfl:R=y:=by have:=X hi;rw [o] at this;exact (gj this).symm
    have S:((g.toList.drop f).drop (i*A.n)).take A.n=us:=by
     apply l9;intro j;by_cases G:j<A.n
     .rw [qg,du G,qv,qv,<-s j G];simp [q7]
     .rw [qg,dk G,lk (by omega)]
    rw [S];exact he m us R (V R (fe o)) Y
   obtain ⟨l,hll,hR⟩:=Pp (λi y z=>A.rd (λ_=>False) W (((g.toList.drop f).drop (i*A.n)).take A.n) z/\D z) c J;have E:l.length=len:=by omega
   have get:∀i (hi:i<l.length),A.rd (λ_=>False) W (((g.toList.drop f).drop (i*A.n)).take A.n) l[i]/\D l[i]:=λi hi=>by obtain ⟨y,o⟩:∃y,c[i]? =some y:=⟨c[i]'(by omega),b9 _⟩;exact hR i y l[i] o (b9 _)
   refine ⟨(some ⟨b,f,none⟩,len,cap),l,p,.inr ⟨b,f,cap,g,e',fr,by rw [E];rfl,(λh=>h),k,by omega,v,?_⟩,⟨by omega,hQ _ (by omega)⟩,λz hz=>?_⟩
   .have hle:l.length*A.n<=cap*A.n:=hU _ (by omega);refine ⟨?_,λi hi=>?_⟩
    .simp only [dh,iN,eX];omega
    .have O:i*A.n+A.n<=l.length*A.n:=by rw [<-qR];exact hU _ hi
     rw [qx,qF,hV (by omega)];exact (get i hi).1
   .obtain ⟨i,hi,rfl⟩:=qN hz;exact (get i hi).2
theorem acp{H:Type}{enc:TypeId×Value->H}{P:Program}:∀(n:Nat) (i:TypeId) (t:Ty),fits P n i t=true->∀(o:Nat) (cs:za) (x:DataW H×List MemPlace),
  (∀n,n<=Rows.uptoBulk x.1->Q n)->DataW.trod enc P W 0 (λ_=>true) true o i cs=some x->∃z:t.T,t.rep.rd (λ_=>False) W cs z/\Lm Q t z:=by
 intro n
 induction n with
 |zero=>intro i t h;cases h
 |succ n ih=>
 intro i t c o cs x hQ h;unfold fits at c;split at c
 .rename_i k v;split at c
  .obtain ⟨z,q,_,w⟩:=DataW.trod_int v h;have e:=qK c;subst e;exact ⟨z,q,w⟩
  .cases c
 .rename_i v;split at c
  .obtain ⟨z,q,_⟩:=DataW.trod_bool v h;exact ⟨z,q,trivial⟩
  .cases c
 .rename_i v;split at c
  .obtain ⟨⟨⟨z⟩⟩,q,_,w⟩:=DataW.trod_string v h;exact ⟨z,q,w⟩
  .cases c
 .rename_i e v;split at c
  next u=>simp only [ar,mN,j0] at c;obtain ⟨⟨q,G⟩,w⟩:=c;obtain ⟨p,zs,a1,a2,Z,Y⟩:=aiD (A:=u.rep) (Q:=Q) (D:=Lm Q u) v q G o cs x hQ (λo us y K h=>ih e u w o us y K h) h;exact ⟨zs,⟨p,a1,a2⟩,Z,Y⟩
  .cases c
 .rename_i C v;have key:∀t:Ty,CZ P (fits P n) (P.cellsOf i) C.toList 0 t=true->∃z:t.T,t.rep.rd (λ_=>False) W cs z/\Lm Q t z:=λt c=>by
   obtain ⟨xs,m,_,hx,hl,L,O⟩:=DataW.trod_struct v h;have hb:Rows.uptoBulk x.1=Rows.uptoBulkAll (xs.map (·.1))+1:=by rw [hx];simp only [Rows.uptoBulk]
   have R:∀y∈xs,∀n,n<=Rows.uptoBulk y.1->Q n:=λy K n hn=>hQ n (by have:=BW (d:=y.1) (l:=xs.map (·.1)) (List.mem_map.2 ⟨y,K,rfl⟩);omega)
   have one:∀(j:Nat) (f:Field) (t:Ty),C.toList[j]? =some f->fits P n f.type t=true->∃z:t.T,t.rep.rd (λ_=>False) W ((cs.drop f.offset).take (P.cellsOf f.type)) z/\Lm Q t z:=λj f t I ht=>by
    have F:C[j]? =some f:=by simpa using I
    have q:=O j f F;have N:j<xs.length:=by rw [L];exact (Array.getElem?_eq_some_iff.1 F).1
    rw [b9 N] at q;exact ih f.type t ht m _ _ (R _ (de _)) q
   have go:∀(r:List Field) (j s:Nat) (t:Ty),C.toList.drop j=r->CZ P (fits P n) (P.cellsOf i) r s t=true->∃z:t.T,t.rep.rd (λ_=>False) W (cs.drop s) z/\Lm Q t z:=λr=>by
    induction r with
    |nil=>intro j s t _ h;cases h
    |cons f r J=>
     intro j s t U c;have I:C.toList[j]? =some f:=by have:=congrArg (·[0]?) U;simpa [qv] using this
     have M:C.toList.drop (j+1)=r:=by rw [<-qy,U];rfl
     cases r with
     |nil=>
      simp only [CZ,ar,mN] at c;obtain ⟨⟨⟨q,G⟩,w⟩,S⟩:=c;obtain ⟨z,B,E⟩:=one j f t I S;rw [q,fb (by simp;omega)] at B;exact ⟨z,B,E⟩
     |cons g r=>
      unfold CZ at c;split at c
      next a b=>simp only [ar,mN] at c;obtain ⟨⟨⟨q,G⟩,w⟩,S⟩:=c;obtain ⟨z,B,E⟩:=one j f a I w;obtain ⟨y,X,V⟩:=J (j+1) _ b M S;rw [q] at B;refine ⟨(z,y),⟨_,_,?_,B,X⟩,E,V⟩;rw [<-qy];exact (qt ..).symm
      .cases c
   obtain ⟨z,B,E⟩:=go C.toList 0 0 t rfl c;exact ⟨z,by simpa using B,E⟩
  split at c
  .obtain ⟨e,q,G⟩:=ag6 (apU c) o cs x h;exact ⟨e,q,hQ _ G⟩
  .exact key _ c
  .cases c
 .cases c
def n3(W:World)(I:fX):Prop:= ∀it∈I,it.1=false/\it.2.cM=true/\∀M,Mv (λ_=>False) W M W->it.2.P M W
theorem n3.nil:n3 W []:=λit h=>by cases h
theorem n3.app{I J:fX}(h:n3 W I)(k:n3 W J):n3 W (I++J):=λit bH=>by
 rcases List.mem_append.1 bH with a|a
 .exact h it a
 .exact k it a
theorem n3.one{A:fg α}{p:jN}{l:List α}(h:bS A (λ_=>False) W (sl p) l):n3 W [(false,NC true A p l false)]:=λit bH=>by
 rcases List.mem_singleton.1 bH with rfl
 exact ⟨rfl,rfl,λM hm _=>⟨h.mv hm,λh=>by cases h⟩⟩
theorem J6{W:World}:∀(t:Ty) (cs:za) (x:t.T),Wm t=true->t.rep.rd (λ_=>False) W cs x->∀(o:v7) (N:List Nm),∃I N',Rc t x cs (vB t++o) N I N' o/\n3 W I
 | .i k,cs,x,hn,h,o,N=>⟨[],N,⟨h,rfl,rfl,rfl⟩,.nil⟩
 | .bo,cs,x,hn,h,o,N=>⟨[],N,⟨h,rfl,rfl,rfl⟩,.nil⟩
 | .s,cs,x,hn,h,o,N=>⟨[],N,⟨h,rfl,rfl,rfl⟩,.nil⟩
 | .un,cs,x,hn,h,o,N=>⟨[],N,⟨h,rfl,rfl,rfl⟩,.nil⟩
 | .n,cs,x,hn,h,o,N=>by cases hn
 | .mp _ _,cs,x,hn,h,o,N=>absurd h id
 | .p a b,cs,x,hn,h,o,N=>by
  simp only [Wm,ar] at hn;obtain ⟨c1,e,d,c,r⟩:=h;obtain ⟨j,f,q,v⟩:=J6 a c1 x.1 hn.1 c (vB b++o) N;obtain ⟨g,N2,m,u⟩:=J6 b e x.2 hn.2 r o f;refine ⟨j++g,N2,⟨c1,e,f,j,g,vB b++o,?_,m,d,rfl⟩,v.app u⟩;rw [show vB (.p a b)++o=vB a++(vB b++o) by simp [vB]];exact q
 | .l t,cs,x,hn,h,o,N=>by
  obtain ⟨p,d,c⟩:=h;exact ⟨_,_,⟨⟨0,p,⟨0,0,none⟩,none,.bool false,⟨.un,()⟩⟩,d,rfl,.inl ⟨rfl,rfl⟩⟩,.one c⟩
 | .ex,cs,x,hn,h,o,N=>by obtain ⟨p,d,c⟩:=Jw h;exact ⟨_,_,⟨⟨0,p,⟨0,0,none⟩,none,.bool false,⟨.un,()⟩⟩,d,rfl,.inl ⟨rfl,rfl⟩⟩,.one c⟩
def Arg(W:World)(t:Ty)(v:Value)(z:t.T):Prop:= ∀N:List Nm,∃I N',Sem (arH t) v none none N [⟨t,z⟩] I [] N'/\n3 W I
theorem acV{H:Type}{enc:TypeId×Value->H}{P:Program}{o:Nat}{n:Nat}{i:TypeId}(t:Ty)(f:fits P n i t=true){v:Value}{d:DataW H}{ps:List MemPlace}
  (l:Value.okWide P W .any o i v) (hQ:∀n,n<=Rows.uptoBulk d->Q n) (h:DataW.Trod enc P W 0 (λ_=>true) true i v d ps):∃z:t.T,Arg W t v z/\Lm Q t z:=by
 have hk:=h;obtain ⟨m,hx⟩:=h;obtain ⟨z,c,w⟩:=acp n i t f m _ _ hQ hx;refine ⟨z,?_,w⟩;cases n with
 |zero=>cases f
 |succ n=>
 unfold fits at f;split at f
 .rename_i k j;split at f
  .have e:=qK f;subst e;obtain ⟨y,rfl,_⟩:=open_int j l hk;have:y=z:=by
    have c:([.int k y]:za)=[.int k z]:=c;injection c with c _
    injection c
   subst this;exact λN=>⟨[],N,⟨y,rfl,rfl,rfl,rfl,rfl⟩,.nil⟩
  .cases f
 .rename_i j;split at f
  .obtain ⟨y,rfl,_⟩:=open_bool j l hk;have:y=z:=by
    have c:([.bool y]:za)=[.bool z]:=c;injection c with c _
    injection c
   subst this;exact λN=>⟨[],N,⟨y,rfl,rfl,rfl,rfl,rfl⟩,.nil⟩
  .cases f
 .rename_i j;split at f
  .obtain ⟨⟨⟨y⟩⟩,rfl,_⟩:=open_string j l hk;have:y=z:=by
    have c:([S y]:za)=[S z]:=c;injection c with c _
    injection c with c
    injection c with c
    injection c
   subst this;exact λN=>⟨[],N,⟨y,rfl,rfl,rfl,rfl,rfl⟩,.nil⟩
  .cases f
 .rename_i e j;split at f
  .rename_i u;obtain ⟨a,len,cap,rfl⟩:=okWide_slice j l;obtain ⟨p,r,q⟩:=c;have x:Value.slice a len cap=sl p:=by simpa [Value.cells] using r
   rw [x];exact λN=>⟨_,_,⟨⟨0,p,⟨0,0,none⟩,none,.bool false,⟨.un,()⟩⟩,z,rfl,rfl,rfl,rfl,rfl⟩,.one q⟩
  .cases f
 .rename_i B j;obtain ⟨cs,rfl,_,_⟩:=ap1 j l;split at f
  .obtain ⟨p,r,q⟩:=Jw c;exact λN=>⟨_,_,⟨cs.toList,z,[],by simp,rfl,⟨⟨0,p,⟨0,0,none⟩,none,.bool false,⟨.un,()⟩⟩,r,rfl,.inl ⟨rfl,rfl⟩⟩,rfl⟩,.one q⟩
  .rename_i a b;exact λN=>by
    obtain ⟨I,A,s,g⟩:=J6 (.p a b) _ z (MG (λi t=>Z8 n i t) _ _ _ f) c [] N;exact ⟨I,A,⟨cs.toList,z,[],by simp,rfl,by simpa [Value.cells] using s,rfl⟩,g⟩
  .cases f
 .cases f
def aj3(W:World)(ps:List Pt)(vs:za)(D:List cm):Prop:= ∀N:List Nm,∃I N',xQ ps vs [] [] N D I [] N'/\n3 W I
theorem aj0:aj3 W [] [] []:=λN=>⟨[],N,⟨rfl,rfl,rfl,rfl,rfl⟩,.nil⟩
theorem aiV{W:World}{t:Ty}{v:Value}{z:t.T}{ps:List Pt}{vs:za}{D:List cm}(h:Arg W t v z)(k:aj3 W ps vs D):aj3 W (arH t::ps) (v::vs) (⟨t,z⟩::D):=λN=>by obtain ⟨c,a,e,g⟩:=h N;obtain ⟨b,N2,d,f⟩:=k a;exact ⟨c++b,N2,⟨v,vs,[⟨t,z⟩],D,c,b,[],[],a,rfl,e,d,rfl,rfl,rfl⟩,g.app f⟩
theorem ak8{I:fX}{Γ:Ctx}(g:n3 W I)(hn:Wq Γ)(h:Sat Γ W):Sat (dF I++Γ) W:=Eh h _ (λit bH=>by obtain ⟨x,hx,rfl⟩:=List.mem_map.1 bH;exact ⟨(g x hx).2.1,(g x hx).2.2 _ (am0 hn)⟩)
namespace Ns
theorem aqg{a:Au}(h:Lm (λn=>n<=1048576) (.p (.l (.l .ex)) (.p (.l (.l (.i .i64))) (.p (.l (.i .i64)) (.l (.l (.i .i64)))))) a):S3 a:=
 ⟨h.1.1.2,λl hl=>⟨(h.1.2 l hl).1.2,λe b=>(h.1.2 l hl).2 e b⟩,h.2.1.1.2,λl hl=>(h.2.1.2 l hl).1.2,h.2.2.1.1.2,h.2.2.2.1.2,λl hl=>(h.2.2.2.2 l hl).1.2⟩
theorem asj{x:Int}(h:(Lit.int .u8 x).wf=true):0<=x/\x<=255:=by simp only [Lit.wf,ar,eW] at h;exact h
theorem aj4(w:aE×Au×Int×Int)(h:Lm (λn=>n<=1048576) (.p .s (.p (.p (.l (.l .ex)) (.p (.l (.l (.i .i64))) (.p (.l (.i .i64)) (.l (.l (.i .i64)))))) (.p (.i .u8) (.i .u64)))) w):jw w=some true:=
 acg w (aqg h.2.1) (asj h.2.2.1)
end Ns
end
end Go.Proofs.YtcgihjbfppkcfaaGreatDoor
