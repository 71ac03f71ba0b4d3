/- Own texts for NestArgsQ, cut and joined by a program. -/
import Derived.Test.YtcgihjbfppkcfaaGreatDoorNestArgsQJ
import Derived.Lib.LaidTab
import Derived.Below
import Derived.ProofKit
import Derived.Test.YtcgihjbfppkcfaaGreatDoorRows
import Derived.Carry
import Derived.ChangeSlices
import Derived.OpenShut
set_option linter.all false
namespace Go.Proofs.YtcgihjbfppkcfaaGreatDoor
open IntKind (u64)
noncomputable section
variable {k : Nat} {q : Int} {v : zl}
namespace Pd
open Sp
theorem ad7{l:zl}{u:Nat}(a:u<18446744073709551616)(hl:l.length<100000000000):Uk l (u:Int) 10=some (l++aQ (Lib.decDigits u)):=by
 unfold Uk;rw [show ((10:Int)==10)=true from rfl,cb (by omega),cb (by omega),fj,fj,fj,
  Sy.aO (Sy.cC (by omega) (by omega)),gx]
theorem asM{x:Int}(b:0<=x)(a:x<18446744073709551616):u64.wrap x=x:=by rw [IntKind.wrap_u64];omega
theorem apB{l:zl}{i:Int}(c: -9223372036854775808<=i)(b:i<=9223372036854775807)(hl:l.length<10000000000):mz l i 10=some (l++aQ (Lib.itoa i)):=by
 unfold mz j4;simp only [aK];by_cases hi:i<0
 .rw [cb hi,ca,Sy.aO (Sy.cC (by simp;omega) (by simp;omega))];obtain ⟨u,rfl⟩:∃u:Nat,i= -(u):=⟨i.natAbs,by omega⟩;have a:u64.wrap (0-u64.wrap (-(u)))=(u):=by grind [IntKind.wrap_u64]
  unfold iT;rw [a,ad7 (by omega) (by simp;omega),ah,ah,show Lib.itoa (-(u))=45::Lib.decDigits u from by simp_all [Lib.itoa]];simp [aQ]
 .rw [cy hi,b7];obtain ⟨u,rfl⟩:∃u:Nat,i=(u):=⟨i.toNat,by omega⟩;unfold iT;rw [asM (by omega) (by omega),ad7 (by omega) (by omega),ah,ah,show Lib.itoa (u)=Lib.decDigits u from by simp_all [Lib.itoa]]
def keyOf(v:zl):aE:=v.flatMap λn=>32::Lib.itoa n
theorem abB(v:zl):keyOf v++[32]=32::fy v:=by
 induction v with
 |nil=>rfl
 |cons x r ih=>
  grind [keyOf,fy,List.append_assoc]
theorem key_inj{a b:zl}(h:keyOf a=keyOf b):a=b:=by grind [keyOf,abB,Rb,List.cons.inj]
theorem ap6(a b:zl):keyOf (a++b)=keyOf a++keyOf b:=by simp [keyOf]
theorem apR(h:vY v):(keyOf v).length<=21*v.length:=by have a:=congrArg List.length (abB v);grind [acg]
def uW(l:w8)(at_:Option (List (aE×Bool))):Prop:=(at_=none->l=[])/\∀v,eA at_ (keyOf v) false=l.contains v
theorem Xm:uW [] none:=⟨λ_=>rfl,λa=>rfl⟩
theorem ap1{x:zl}{l:w8}{a:List (aE×Bool)}(f:l.length<1000000000)(d:uW l (some a)):
  ∃at',(bif (!(eA (some a) (strOf (aQ (keyOf x))) false)) then ((some a).bind λb=>aN (aH (List.length l+List.length ([x]:w8)) 24)<|some ((l++([x]:w8)),(some (l6 b (strOf (aQ (keyOf x))) true)))) else some (l,some a))=some (iy l x,at')/\uW (iy l x) at':=by
 have k1:aH (List.length l+List.length ([x])) 24=true:=Sy.cC (by simp;omega) (by simp;omega);rw [L3,d.2 x];unfold iy;cases g:l.contains x
 .simp only [Sy.aO k1,eT];refine ⟨_,rfl,(λh=>by cases h),λu=>?_⟩;have c:=d.2 u;unfold eA at c ⊢;simp at c ⊢;rw [G7,c];have e:(keyOf u==keyOf x)=(u==x):=by grind [beq_eq_false_iff_ne,key_inj]
  grind
 grind
theorem RM{x:zl}(hx:vY x)(hl:x.length<100000000){l:w8}{c:List (aE×Bool)}(b:l.length<1000000000)(d:uW l (some c)):
  ∀(r pre:zl),x=pre++r->∀M,r.length<M->∃a,aj (tM x l (some c)) M (aQ (keyOf pre),(pre.length:Int))=some (iy l x,a)/\uW (iy l x) a
 |[],pre,h,M,hM=>by
  obtain ⟨m,rfl⟩:∃m,M=m+1:=⟨M-1,by omega⟩;rw [ao];simp only [tM,Sy.uS h];have e:pre=x:=by rw [h];simp
  rw [e];exact ap1 b d
 |n::r,pre,h,M,hM=>by
  obtain ⟨m,rfl⟩:∃m,M=m+1:=⟨M-1,by omega⟩;rw [ao];have hn:=hx n (by rw [h];simp);have hp:vY pre:=λn hn=>hx n (by grind);have hk:=apR hp;obtain ⟨a,g,f⟩:=RM hx hl b d r (pre++[n]) (by rw [h];simp) m (by simp at hM;omega);have i:aQ (keyOf (pre++[n]))=(aQ (keyOf pre)++[32])++aQ (Lib.itoa n):=by rw [ap6,Qu];simp [keyOf,qO,List.flatMap_nil,ko,cx];rfl
  simp [tM,Sy.lr h];grind [Sy.aO,Sy.cC,Ik,apB,List.length_append,ah,Pa.bP]
structure Row(x:zl):Prop where
 i64:vY x
 short:x.length<100000000
theorem add_eq{x:zl}(hx:Row x){l:w8}{at_:Option (List (aE×Bool))}(a:l.length<1000000000)(b:uW l at_):
  ∃at',ux x l at_=some (iy l x,at')/\uW (iy l x) at':=by
 cases at_ with
 |none=>
  exact RM hx.i64 hx.short a ⟨(λh=>by cases h),λu=>b.2 u⟩ x [] rfl an (by have:=hx.short;show _<2^64;omega)
 |some c=>
  exact RM hx.i64 hx.short a b x [] rfl an (by have:=hx.short;show _<2^64;omega)
abbrev Au:=List (List Ex)×w8×zl×w8
structure vx(a:Au)(k:Nat):Prop where
 lits:a.1.length=k
 next:a.2.1.length=k
 df:k<=5000
 row:∀l∈a.1,l.length<=5000/\∀e∈l,e.sz<1000000
 init:a.2.2.1.length<=5000/\∀q∈a.2.2.1,0<=q/\q<k
 nxt:∀l∈a.2.1,l.length<=5000/\∀q∈l,0<=q/\q<k
def aao(a:Au)(q:Int):List Ex:=(a.1[q.toNat]?).getD []
def wy(a:Au)(q:Int):zl:=(a.2.1[q.toNat]?).getD []
def oP(a:Au)(q:Int)(v:zl):Bool:=(aao a q).all λe=>ev v e==1
theorem Ya(s:List Ex)(v:zl)(d:s.length<=5000)(b:∀e∈s,e.sz<1000000):∀(r pre:List Ex),s=pre++r->∀M,r.length<M->
  ∃i:Int,aj (dK s v) M (pre.length:Int)=some i/\decide (0<=i)= !(r.all λe=>ev v e==1)
 |[],pre,h,M,hM=>by
  obtain ⟨m,rfl⟩:∃m,M=m+1:=⟨M-1,by omega⟩;rw [ao];simp only [dK,Sy.uS h];exact ⟨_,rfl,rfl⟩
 |e::r,pre,h,M,hM=>by
  obtain ⟨m,rfl⟩:∃m,M=m+1:=⟨M-1,by omega⟩;rw [ao];have a:pre.length+r.length+1=s.length:=by rw [h];simp;omega
  have c:=b e (by rw [h];simp);obtain ⟨i,g,f⟩:=Ya s v d b r (pre++[e]) (by rw [h];simp) m (by simp at hM;omega);simp [dK,Sy.lr h,ah,Bu,VB e (by omega) v,Pa.bP (show pre.length<4611686018427387904 by omega)];grind
theorem Ww{α:Type}{l:List α}(hl:l.length=k)(h:0<=q/\q<k):∃x,idx l q=some x/\l[q.toNat]? =some x/\x∈l:=by simp_all [idx]
theorem aeZ{a:Au}(ha:vx a k){q:Int}(b:0<=q/\q<k)(v:zl):EE a q v=some (oP a q v):=by obtain ⟨s,j,h,e⟩:=Ww ha.lits b;obtain ⟨d,c⟩:=ha.row s e;obtain ⟨i,g,f⟩:=Ya s v d c s [] rfl an (by show _<2^64;omega);unfold EE gb ic oP aao;grind
def dS(a:Au)(v:zl)(qs:zl):w8:=(qs.filter λq=>oP a q v).map λq=>v++[q]
theorem GC{a:Au}{qs:zl}:(dS a v qs).length<=qs.length:=by grind [dS,List.length_map,List.length_filter_le]
theorem Vb{a:Au}{v qs:zl}{q:Int}:dS a v (q::qs)=if oP a q v then (v++[q])::dS a v qs else dS a v qs:=by grind [dS]
theorem amg(a:vY v)(hl:v.length<1000000)(hk:k<=5000)(b:0<=q/\q<k):Row (v++[q]):=
 ⟨λn hn=>by
  rcases List.mem_append.1 hn with h|h
  .exact a n h
  grind,by simp;omega⟩
theorem JW{l a b:w8}:dm l (a++b)=dm (dm l a) b:=by simp [dm]
theorem afg{a:Au}(ha:vx a k){v:zl}(g:vY v)(hl:v.length<1000000){q:Int}(i:0<=q/\q<k){l:w8}{at_:Option (List (aE×Bool))}(j:l.length<100000000)(h:uW l at_){R:Type}(d go:w8->Option (List (aE×Bool))->Option R):
  ∃c,(bif oP a q v then ((bz v).bind λe=>aN (aH (List.length e+List.length ([q]:zl)) 8)<|(ux (e++([q]:zl)) l at_).bind λb=>ai (!true) λf=>bif f then d b.1 b.2 else go b.1 b.2) else go l at_)=
   go (if oP a q v then iy l (v++[q]) else l) c/\uW (if oP a q v then iy l (v++[q]) else l) c:=by
 cases o:oP a q v
 .grind
 .obtain ⟨c,n,m⟩:=add_eq (amg g hl ha.df i) (by omega) h;refine ⟨c,?_,m⟩;rw [ca,R6 v (by omega),ah,Sy.aO (Sy.cC (by simp;omega) (by simp;omega)),n,ah];rfl
theorem Yh{a:Au}{k:Nat}(ha:vx a k){v:zl}(e:vY v)(hl:v.length<1000000)(qs:zl)(c:qs.length<=5000)(f:∀q∈qs,0<=q/\q<k):∀(r pre:zl),qs=pre++r->∀(l:w8) (at_:Option (List (aE×Bool))) (M:Nat),uW l at_->l.length<=pre.length->r.length<M->
  aj (tV (qs,a.1,a.2.1,a.2.2.1,a.2.2.2,v)) M ((pre.length:Int),l,at_)=some (dm l (dS a v r))
 |[],pre,h,l,at_,M,hs,hll,hM=>by
  obtain ⟨m,rfl⟩:∃m,M=m+1:=⟨M-1,by omega⟩;rw [ao];simp only [tV,Sy.uS h];rfl
 |q::r,pre,h,l,at_,M,hs,hll,hM=>by
  obtain ⟨m,rfl⟩:∃m,M=m+1:=⟨M-1,by omega⟩;rw [ao];have g:pre.length+r.length+1=qs.length:=by rw [h];simp;omega
  have b:=f q (by rw [h];simp);simp only [tV,Sy.vg h,Sy.lr h,ah];rw [show (a.1,a.2.1,a.2.2.1,a.2.2.2)=a from rfl,aeZ ha b,ah,Pa.bP (by omega)];obtain ⟨d,n,j⟩:=afg ha e hl b (by omega) hs (λl _=>some l) (λl o=>aj (tV (qs,a.1,a.2.1,a.2.2.1,a.2.2.2,v)) m (((pre.length+1:Nat)),l,o));rw [n,Vb];have i:(if oP a q v then iy l (v++[q]) else l).length<=pre.length+1:=by grind [FK]
  have ih:=Yh ha e hl qs c f r (pre++[q]) (by rw [h];simp) _ d m j (by simp;omega) (by simp at hM;omega);rw [show ((pre++[q]).length)=((pre.length+1:Nat)) by simp] at ih;rw [ih];cases oP a q v <;> rfl
theorem apj{m:Sy.bk}(hm:SafeS m.2.1 m.2.2.2.2)(hi:sH m.2.1 m.2.2.1){a:Au}{k:Nat}(ha:vx a k):Cn m a=some (dm [] (dS a m.2.2.1 a.2.2.1)):=by unfold Cn Cm;rw [ah];have b:=hi.len;have c:=hm.df;exact Yh ha (hi.i64 hm) (by omega) a.2.2.1 ha.init.1 ha.init.2 a.2.2.1 [] rfl [] none an Xm (cK _) (by have:=ha.init.1;show _<2^64;omega)
theorem afh{a:Au}{k:Nat}(ha:vx a k){v:zl}(g:vY v)(hl:v.length<1000000)(t:Int)(b:w8×(Option (List (aE×Bool)))×Int->Option (w8×Int))(qs:zl)(e:qs.length<=5000)(i:∀q∈qs,0<=q/\q<k):
  ∀(r pre:zl),qs=pre++r->∀(l:w8) (at_:Option (List (aE×Bool))) (M:Nat),uW l at_->l.length<=10000000+pre.length->r.length<M->
  ∃c,aj (uC t b (qs,a.1,a.2.1,a.2.2.1,a.2.2.2,v)) M ((pre.length:Int),l,at_)=b (dm l (dS a v r),c,IntKind.i64.wrap (t+1))/\uW (dm l (dS a v r)) c
 |[],pre,h,l,at_,M,hs,hll,hM=>by
  obtain ⟨m,rfl⟩:∃m,M=m+1:=⟨M-1,by omega⟩;rw [ao];simp only [uC,Sy.uS h];exact ⟨at_,rfl,hs⟩
 |q::r,pre,h,l,at_,M,hs,hll,hM=>by
  obtain ⟨m,rfl⟩:∃m,M=m+1:=⟨M-1,by omega⟩;rw [ao];have j:pre.length+r.length+1=qs.length:=by rw [h];simp;omega
  have d:=i q (by rw [h];simp);simp only [uC,Sy.vg h,Sy.lr h,ah];rw [show (a.1,a.2.1,a.2.2.1,a.2.2.2)=a from rfl,aeZ ha d,ah,Pa.bP (by omega)];obtain ⟨c,s,p⟩:=afg ha g hl d (by omega) hs (λl f=>b (l,f,IntKind.i64.wrap (t+1))) (λl f=>aj (uC t b (qs,a.1,a.2.1,a.2.2.1,a.2.2.2,v)) m (((pre.length+1:Nat)),l,f));rw [s,Vb];have n:(if oP a q v then iy l (v++[q]) else l).length<=10000000+(pre.length+1):=by grind [FK]
  have ih:=afh ha g hl t b qs e i r (pre++[q]) (by rw [h];simp) _ c m p (by simp;omega) (by simp at hM;omega);rw [show ((pre++[q]).length)=((pre.length+1:Nat)) by simp] at ih;cases o:oP a q v <;> rw [o] at ih <;> exact ih
def wC(a:Au)(qs:zl)(ws:w8):w8:=ws.flatMap λw=>dS a w qs
theorem N8{a:Au}{qs:zl}(h:qs.length<=5000):∀ws:w8,(wC a qs ws).length<=5000*ws.length
 |[]=>by simp [wC]
 |w::ws=>by have:=N8 (a:=a) h ws;grind [GC,wC,List.length_append,List.length_cons]
theorem Ch{a:Au}{k:Nat}(ha:vx a k){r11:zl×Int}{b:w8×Int}(i:0<=r11.2/\r11.2<k)(g:∀w∈b.1,vY w/\w.length<1000000)(hn:b.1.length<=1000):
  ∀(r pre:w8),b.1=pre++r->∀(l:w8) (at_:Option (List (aE×Bool))) (M:Nat),uW l at_->l.length<=5000*pre.length->r.length<M->
   aj (uF a r11 b) M (l,at_,(pre.length:Int))=some (dm l (wC a (wy a r11.2) r),0)
 |[],pre,h,l,at_,M,hs,hll,hM=>by
  obtain ⟨m,rfl⟩:∃m,M=m+1:=⟨M-1,by omega⟩;rw [ao];simp only [uF,Sy.uS h];rfl
 |w::r,pre,h,l,at_,M,hs,hll,hM=>by
  obtain ⟨m,rfl⟩:∃m,M=m+1:=⟨M-1,by omega⟩;rw [ao];have j:pre.length+r.length+1=b.1.length:=by rw [h];simp;omega
  obtain ⟨qs,t,u,s⟩:=Ww ha.next i;have c:=ha.nxt qs s;have p:wy a r11.2=qs:=by grind [wy]
  obtain ⟨e,d⟩:=g w (by rw [h];simp);simp [uF,Sy.lr h,ah,t,Cm];obtain ⟨f,n,q⟩:=afh ha e d (pre.length) (aj (uF a r11 b) m) qs c.1 c.2 qs [] rfl l at_ an hs (by omega) (by show _<2^64;omega);rw [show ((([]:zl).length):Int)=0 from rfl] at n;rw [n,Pa.bP (by omega)];have hd:=sb (dS a w qs) l;have o:=GC (a:=a) (v:=w) (qs:=qs);have ih:=Ch ha i g hn r (pre++[w]) (by rw [h];simp) _ f m q (by simp;omega) (by simp at hM;omega);grind [wC,JW]
def Hk(m:Sy.bk)(a:Au)(v:zl)(q:Int):w8×Int:=
 if (fa m.2.1 m.2.2.2.2 v).2=0 then (dm [] (wC a (wy a q) (fa m.2.1 m.2.2.2.2 v).1),0) else ([],(fa m.2.1 m.2.2.2.2 v).2)
theorem aeU{n:Nat}:kR 0 (n:Int) (n:Int) (n+1)=true:=by grind [kR]
theorem Zx(b:v.length<1000000):yk (v++[q])=some (v,q):=by
 unfold yk;have a:IntKind.i64.wrap ((List.length (v++[q]))-1)=(v.length):=by grind [bB]
 rw [a,show (v++[q]).length=v.length+1 by simp,Sy.aO (by rw [aeU];simp)];have c:idx (v++[q]) (v.length)=some q:=by unfold idx;grind
 simp_all [aV]
theorem ak8{m:Sy.bk}(hm:SafeS m.2.1 m.2.2.2.2){v:zl}(b:sH m.2.1 v){a:Au}{k:Nat}(ha:vx a k){q:Int}(f:0<=q/\q<k):xo m a (v++[q])=some (Hk m a v q):=by
 have g:=b.len;have h:=hm.df;have d:=Oi (S:=m.2.1) (cmds:=m.2.2.2.2) v;have i:=hm.cmds;unfold xo Hk;rw [Zx (by omega),ah,ap8 hm b,ah];by_cases c:(fa m.2.1 m.2.2.2.2 v).2=0
 .rw [du c,show ((fa m.2.1 m.2.2.2.2 v).2 != 0)=false by simpa using c,b7];have:=Ch ha (r11:=(v,q)) f (λw e=>by have hi:=Rv b w e;have:=hi.len;exact ⟨hi.i64 hm,by omega⟩) (by omega) (fa m.2.1 m.2.2.2.2 v).1 [] rfl [] none an Xm (pF _) (by show _<2^64;omega)
  exact this
 grind
def St(m:Sy.bk)(k:Nat)(x:zl):Prop:= ∃v q,x=v++[q]/\sH m.2.1 v/\0<=q/\q<(k:Int)
def bR(m:Sy.bk)(a:Au)(x:zl):w8×Int:=Hk m a x.dropLast (x.getLastD 0)
theorem KD(m:Sy.bk)(a:Au)(v:zl)(q:Int):bR m a (v++[q])=Hk m a v q:=by unfold bR;grind
theorem aln{m:Sy.bk}(hm:SafeS m.2.1 m.2.2.2.2){a:Au}{k:Nat}(ha:vx a k){x:zl}(hx:St m k x):xo m a x=some (bR m a x):=by obtain ⟨v,q,rfl,b,d,c⟩:=hx;grind [KD,ak8]
theorem GO{a:Au}{qs y:zl}(h:y∈dS a v qs):∃q,q∈qs/\oP a q v=true/\y=v++[q]:=by unfold dS at h;grind
theorem Xz{a:Au}{k:Nat}(ha:vx a k){q:Int}(b:0<=q/\q<k):(wy a q).length<=5000/\∀p∈wy a q,0<=p/\p<(k:Int):=by obtain ⟨qs,e,d,c⟩:=Ww ha.next b;unfold wy;rw [d];exact ha.nxt qs c
theorem QU{m:Sy.bk}{a:Au}(ha:vx a k){x:zl}(hx:St m k x):∀y∈(bR m a x).1,St m k y:=by
 obtain ⟨v,q,rfl,e,g,f⟩:=hx;rw [KD];intro y b;unfold Hk at b;split at b
 .rcases nt.1 b with h|h
  .cases h
  .obtain ⟨w,d,c⟩:=List.mem_flatMap.1 h;obtain ⟨p,hp,_,rfl⟩:=GO c;have:=(Xz ha ⟨g,f⟩).2 p hp;exact ⟨w,p,rfl,Rv e w d,this.1,this.2⟩
 .cases b
theorem G2{m:Sy.bk}(hm:SafeS m.2.1 m.2.2.2.2){a:Au}{k:Nat}(ha:vx a k){x:zl}(hx:St m k x):(bR m a x).1.length<=2000000:=by
 obtain ⟨v,q,rfl,d,c,b⟩:=hx;rw [KD];unfold Hk;split
 .have h:=sb (wC a (wy a q) (fa m.2.1 m.2.2.2.2 v).1) [];have g:=N8 (a:=a) (Xz ha ⟨c,b⟩).1 (fa m.2.1 m.2.2.2.2 v).1;have f:=Oi (S:=m.2.1) (cmds:=m.2.2.2.2) v;have e:=hm.cmds;grind
 .simp
end Pd
namespace Ns
abbrev V:=zl
abbrev lW:=List (V×List V)
abbrev bk:=Sy.bk
abbrev Au:=Pd.Au
abbrev St:=So.St
abbrev FT:=Int×xb×Int×Int×w8×zl×zl×(List (Int×w8×zl))×Int×w8×zl×zl×(List (Int×w8×zl))×zl×Int×(List (xb×Int))×Int×Int×zl×Int×(List (xb×Int))×Int×Int×zl×Int×(List (xb×Int))×Int×Int×zl×Int×Int×Int×zl×zl×zl
abbrev fl(t:St):FT:=(t.1,t.2.1,t.2.2.1,t.2.2.2.1.1.1,t.2.2.2.1.1.2.1,t.2.2.2.1.1.2.2,t.2.2.2.1.2,t.2.2.2.2.1.1,t.2.2.2.2.1.2.1.1,t.2.2.2.2.1.2.1.2.1,t.2.2.2.2.1.2.1.2.2,t.2.2.2.2.1.2.2,t.2.2.2.2.2.1.1,t.2.2.2.2.2.1.2,t.2.2.2.2.2.2.1.1.1,t.2.2.2.2.2.2.1.1.2.1,t.2.2.2.2.2.2.1.1.2.2.1,t.2.2.2.2.2.2.1.1.2.2.2.1,t.2.2.2.2.2.2.1.1.2.2.2.2,t.2.2.2.2.2.2.1.2.1.1,t.2.2.2.2.2.2.1.2.1.2.1,t.2.2.2.2.2.2.1.2.1.2.2.1,t.2.2.2.2.2.2.1.2.1.2.2.2.1,t.2.2.2.2.2.2.1.2.1.2.2.2.2,t.2.2.2.2.2.2.1.2.2.1,t.2.2.2.2.2.2.1.2.2.2.1,t.2.2.2.2.2.2.1.2.2.2.2.1,t.2.2.2.2.2.2.1.2.2.2.2.2.1,t.2.2.2.2.2.2.1.2.2.2.2.2.2,t.2.2.2.2.2.2.2.1,t.2.2.2.2.2.2.2.2.1,t.2.2.2.2.2.2.2.2.2.1,t.2.2.2.2.2.2.2.2.2.2.1,t.2.2.2.2.2.2.2.2.2.2.2.1,t.2.2.2.2.2.2.2.2.2.2.2.2)
abbrev Er:=(Int×V) ⊕ (List V×List V)
section
variable {β : Type} (x : V) (s : lW) (m : bk) (a : Au) (t : St) (k : Int)
abbrev Ju(f:Int->xb->Int->Int->w8->zl->zl->List (Int×w8×zl)->Int->w8->zl->zl->List (Int×w8×zl)->zl->Int->List (xb×Int)->Int->Int->zl->Int->List (xb×Int)->Int->Int->zl->Int->List (xb×Int)->Int->Int->zl->Int->Int->Int->zl->zl->zl->β):β:=f t.1 t.2.1 t.2.2.1 t.2.2.2.1.1.1 t.2.2.2.1.1.2.1 t.2.2.2.1.1.2.2 t.2.2.2.1.2 t.2.2.2.2.1.1 t.2.2.2.2.1.2.1.1 t.2.2.2.2.1.2.1.2.1 t.2.2.2.2.1.2.1.2.2 t.2.2.2.2.1.2.2 t.2.2.2.2.2.1.1 t.2.2.2.2.2.1.2 t.2.2.2.2.2.2.1.1.1 t.2.2.2.2.2.2.1.1.2.1 t.2.2.2.2.2.2.1.1.2.2.1 t.2.2.2.2.2.2.1.1.2.2.2.1 t.2.2.2.2.2.2.1.1.2.2.2.2 t.2.2.2.2.2.2.1.2.1.1 t.2.2.2.2.2.2.1.2.1.2.1 t.2.2.2.2.2.2.1.2.1.2.2.1 t.2.2.2.2.2.2.1.2.1.2.2.2.1 t.2.2.2.2.2.2.1.2.1.2.2.2.2 t.2.2.2.2.2.2.1.2.2.1 t.2.2.2.2.2.2.1.2.2.2.1 t.2.2.2.2.2.2.1.2.2.2.2.1 t.2.2.2.2.2.2.1.2.2.2.2.2.1 t.2.2.2.2.2.2.1.2.2.2.2.2.2 t.2.2.2.2.2.2.2.1 t.2.2.2.2.2.2.2.2.1 t.2.2.2.2.2.2.2.2.2.1 t.2.2.2.2.2.2.2.2.2.2.1 t.2.2.2.2.2.2.2.2.2.2.2.1 t.2.2.2.2.2.2.2.2.2.2.2.2
abbrev tG(f:List aE->xb->zl->List aE->List (Int×Ex×List (Int×Ex))->List (List Ex)->w8->zl->w8->β):β:=f m.1 m.2.1 m.2.2.1 m.2.2.2.1 m.2.2.2.2 a.1 a.2.1 a.2.2.1 a.2.2.2
end
noncomputable section
variable (x : V) (s : lW) (m : bk) (a : Au) (t : St) (k : Int)
abbrev Jm:=Ju t (tG m a (jT x)) k
abbrev WW:=Ju t (tG m a (pQ x)) k
abbrev xJ:=Ju t (tG m a (fN s x)) k
abbrev NG:=Ju t (tG m a (nM x)) k
abbrev Kx:=Ju t (tG m a (mH s)) k
abbrev ajM:=Ju t (tG m a (wZ x)) k
abbrev W8:=Ju t (tG m a pP) k
abbrev rC:=tG m a kN k
abbrev BW:=tG m a nK k
abbrev JP:=tG m a mD k
end
def GW(t:St)(x:V):Option (Except (Int×V) (Bool×St)):=(dC t x).bind λr=>bif (r.2.2 != 0) then some (.error (r.2.2,[])) else some (.ok (r.2.1,r.1))
def L6(t:St)(x:V):Option (Except (Int×V) (Bool×St)):=C0 (GW t x) λr=>(dR r.2 x 1).bind λg=>bif g.1 then some (.ok (false,r.2)) else (gE r.2 x 1).bind λs=>some (.ok (true,s.1))
abbrev Qg{E A B:Type}(f:A->B)(x:Option (Except E A)):Option (Except E B):=x.map λr=>match r with
 | .error e=> .error e
 | .ok v=> .ok (f v)
theorem Rf(x:V)(m:bk)(a:Au)(t:St)(most:Int):Jm x m a t most=Qg (λr:Bool×St=>(r.1,r.2.1,r.2.2.1,r.2.2.2.1,r.2.2.2.2.1.1.1,r.2.2.2.2.1.1.2.1,r.2.2.2.2.1.1.2.2,r.2.2.2.2.1.2,r.2.2.2.2.2.1.1,r.2.2.2.2.2.1.2.1.1,r.2.2.2.2.2.1.2.1.2.1,r.2.2.2.2.2.1.2.1.2.2,r.2.2.2.2.2.1.2.2,r.2.2.2.2.2.2.1.1,r.2.2.2.2.2.2.1.2,r.2.2.2.2.2.2.2.1.1.1,r.2.2.2.2.2.2.2.1.1.2.1,r.2.2.2.2.2.2.2.1.1.2.2.1,r.2.2.2.2.2.2.2.1.1.2.2.2.1,r.2.2.2.2.2.2.2.1.1.2.2.2.2,r.2.2.2.2.2.2.2.1.2.1.1,r.2.2.2.2.2.2.2.1.2.1.2.1,r.2.2.2.2.2.2.2.1.2.1.2.2.1,r.2.2.2.2.2.2.2.1.2.1.2.2.2.1,r.2.2.2.2.2.2.2.1.2.1.2.2.2.2,r.2.2.2.2.2.2.2.1.2.2.1,r.2.2.2.2.2.2.2.1.2.2.2.1,r.2.2.2.2.2.2.2.1.2.2.2.2.1,r.2.2.2.2.2.2.2.1.2.2.2.2.2.1,r.2.2.2.2.2.2.2.1.2.2.2.2.2.2,r.2.2.2.2.2.2.2.2.1,r.2.2.2.2.2.2.2.2.2.1,r.2.2.2.2.2.2.2.2.2.2.1,r.2.2.2.2.2.2.2.2.2.2.2.1,r.2.2.2.2.2.2.2.2.2.2.2.2.1,r.2.2.2.2.2.2.2.2.2.2.2.2.2)) (GW t x):=by
 unfold Jm Ju tG jT GW;cases dC t x with
 |none=>rfl
 |some r=>
  obtain ⟨t',b,e⟩:=r;simp;cases e != 0 <;> rfl
theorem akI(x:V)(m:bk)(a:Au)(t:St)(most:Int):WW x m a t most=Qg (λr:Bool×St=>(r.1,r.2.1,r.2.2.1,r.2.2.2.1,r.2.2.2.2.1.1.1,r.2.2.2.2.1.1.2.1,r.2.2.2.2.1.1.2.2,r.2.2.2.2.1.2,r.2.2.2.2.2.1.1,r.2.2.2.2.2.1.2.1.1,r.2.2.2.2.2.1.2.1.2.1,r.2.2.2.2.2.1.2.1.2.2,r.2.2.2.2.2.1.2.2,r.2.2.2.2.2.2.1.1,r.2.2.2.2.2.2.1.2,r.2.2.2.2.2.2.2.1.1.1,r.2.2.2.2.2.2.2.1.1.2.1,r.2.2.2.2.2.2.2.1.1.2.2.1,r.2.2.2.2.2.2.2.1.1.2.2.2.1,r.2.2.2.2.2.2.2.1.1.2.2.2.2,r.2.2.2.2.2.2.2.1.2.1.1,r.2.2.2.2.2.2.2.1.2.1.2.1,r.2.2.2.2.2.2.2.1.2.1.2.2.1,r.2.2.2.2.2.2.2.1.2.1.2.2.2.1,r.2.2.2.2.2.2.2.1.2.1.2.2.2.2,r.2.2.2.2.2.2.2.1.2.2.1,r.2.2.2.2.2.2.2.1.2.2.2.1,r.2.2.2.2.2.2.2.1.2.2.2.2.1,r.2.2.2.2.2.2.2.1.2.2.2.2.2.1,r.2.2.2.2.2.2.2.1.2.2.2.2.2.2,r.2.2.2.2.2.2.2.2.1,r.2.2.2.2.2.2.2.2.2.1,r.2.2.2.2.2.2.2.2.2.2.1,r.2.2.2.2.2.2.2.2.2.2.2.1,r.2.2.2.2.2.2.2.2.2.2.2.2.1,r.2.2.2.2.2.2.2.2.2.2.2.2.2)) (L6 t x):=by
 unfold WW Ju tG pQ L6;show C0 (Jm x m a t most) _=_;rw [Rf];cases GW t x with
 |none=>rfl
 |some r=>
  cases r with
  |error e=>rfl
  |ok r=>
   obtain ⟨b,t'⟩:=r;show (dR t' x 1).bind _=Qg _ ((dR t' x 1).bind _);cases dR t' x 1 with
   |none=>rfl
   |some g=>
    simp;cases g.1 with
    |true=>rfl
    |false=>
     cases gE t' x 1 <;> rfl
def xD(m:bk)(a:Au)(most:Int)(n:Nat)(x:V):Except (Int×V) (List V):=
 if most<=(n:Int) then .error (8,[]) else if (Pd.bR m a x).2=0 then .ok (Pd.bR m a x).1 else .error ((Pd.bR m a x).2,x.dropLast)
theorem Po{m:bk}(hm:Sp.SafeS m.2.1 m.2.2.2.2){a:Au}{k:Nat}(ha:Pd.vx a k){x:V}(hx:Pd.St m k x)(s:lW)(h:s.length<100000000)(t:St)(most:Int):
  xJ x s m a t most=some (match xD m a most s.length x with
   | .error e=> .error e
   | .ok l=> .ok (s++[(x,l)])):=by
 unfold xJ Ju tG fN xD;simp [So.aK];by_cases c:most<=(s.length)
 .grind
 .rw [dk c,cy c,b7];unfold wv;rw [show xo (m.1,m.2.1,m.2.2.1,m.2.2.2.1,m.2.2.2.2) (a.1,a.2.1,a.2.2.1,a.2.2.2) x=some (Pd.bR m a x) from Pd.aln hm ha hx];show (ai _ _)=_;simp only [So.aK];by_cases b:(Pd.bR m a x).2=0
  .grind [v8,Pd.bR,Sy.aO,Sy.cC]
  .rw [dk b,show ((Pd.bR m a x).2 != 0)=true by simpa using b,ca];obtain ⟨v,q,rfl,f,i⟩:=hx;have d:v.length<1000000:=by have c:=f.len;have b:=hm.df;omega
   have g:IntKind.i64.wrap ((List.length (v++[q]))-1)=(v.length):=by grind [bB]
   rw [g,show (v++[q]).length=v.length+1 by simp,Sy.aO (by rw [Pd.aeU];simp)];simp [aV]
end Ns
namespace Ns
def wk(nw:St->V->Option (Except (Int×V) (Bool×St)))(se:V->lW->Option Er)(dn:St->lW->Option (Except Er St))(pu:Nat->V->Except (Int×V) (List V)):Nat->St->lW->Option (Except Er St)
 |0,_,_=>none
 |_+1,t,[]=>some (.ok t)
 |n+1,t,(x,[])::s=>(dn t ((x,[])::s)).bind λr=>match r with
  | .error e=>some (.error e)
  | .ok t'=>wk nw se dn pu n t' s
 |n+1,t,(x,y::ys)::s=>match se y ((x,ys)::s) with
  |some e=>some (.error e)
  |none=>(nw t y).bind λr=>match r with
   | .error e=>some (.error (.inl e))
   | .ok (false,t')=>wk nw se dn pu n t' ((x,ys)::s)
   | .ok (true,t')=>match pu (s.length+1) y with
    | .error e=>some (.error (.inl e))
    | .ok l=>wk nw se dn pu n t' ((y,l)::(x,ys)::s)
theorem Qt(s:lW)(a:s.length<100000000):∀(r pre:lW),s=pre++r->∀M,r.length<M->aj (vk s) M (pre.map (·.1),(pre.length:Int))=some (s.map (·.1))
 |[],pre,h,M,hM=>by
  obtain ⟨m,rfl⟩:∃m,M=m+1:=⟨M-1,by omega⟩;simp_all [ao,vk,cy]
 |f::r,pre,h,M,hM=>by
  obtain ⟨m,rfl⟩:∃m,M=m+1:=⟨M-1,by omega⟩;have hl:pre.length+r.length+1=s.length:=by rw [h];simp;omega
  have ih:=Qt s a r (pre++[f]) (by rw [h];simp) m (by simp at hM;omega);rw [ao];unfold vk;dsimp only;rw [cb (by omega),ca,Sy.lr h,So.ah,Sy.aO (Sy.cC (by simp;omega) (by simp;omega)),Pa.bP (by omega)];have c:pre.map (·.1)++[f.1]=(pre++[f]).map (·.1):=by simp
  have b:((pre.length+1:Nat))=((pre++[f]).length):=by simp
  rw [c,b];exact ih
theorem ajU(s:lW)(a:s.length<100000000):BB s=some (s.map (·.1)):=Qt s a s [] rfl an (by show s.length<2^64;omega)
theorem Ux(a b:V)(hl:a.length=b.length)(ha:a.length<100000000):∀(r pre s ps:V),a=pre++r->b=ps++s->ps.length=pre.length->∀M,r.length<M->aj (gT a b) M (pre.length:Int)=some (decide (r=s))
 |[],pre,s,ps,h,h',hp,M,hM=>by
  obtain ⟨m,rfl⟩:∃m,M=m+1:=⟨M-1,by omega⟩;simp_all [ao,gT,cy]
 |x::r,pre,s,ps,h,h',hp,M,hM=>by
  obtain ⟨m,rfl⟩:∃m,M=m+1:=⟨M-1,by omega⟩;have d:pre.length+r.length+1=a.length:=by rw [h];simp;omega
  match s,h' with
  |[],h'=>
   grind
  |y::s,h'=>
   have ih:=Ux a b hl ha r (pre++[x]) s (ps++[y]) (by rw [h];simp) (by rw [h'];simp) (by simp [hp]) m (by simp at hM;omega);rw [show ((pre++[x]).length)=((pre.length+1:Nat)) by simp] at ih;rw [ao];generalize aj (gT a b) m=k at ih ⊢;unfold gT;rw [cb (by omega),ca,Sy.lr h,So.ah,<-hp,Sy.lr h',So.ah,hp,Pa.bP (by omega)];by_cases c:x=y
   .subst c;simp only [bne_self_eq_false,b7,ih,qa,true_and]
   .rw [show (x != y)=true by simpa using c,ca,cy (by simp [c])]
theorem JT(a b:V)(ha:a.length<100000000):mf a b=some (decide (a=b)):=by
 unfold mf;by_cases h:a.length=b.length
 .rw [show ((List.length a:Int) != (List.length b))=false by rw [h];simp,b7];exact Ux a b h ha a [] b [] rfl rfl rfl an (by show a.length<2^64;omega)
 .rw [show ((List.length a:Int) != (List.length b))=true by simp;omega,ca,cy (λe=>h (by rw [e]))]
theorem Dq(l:V)(q:Int)(hl:l.length<100000000):∀(r pre:V),l=pre++r->∀M,r.length<M->∃j,aj (gW l q) M (pre.length:Int)=some j/\(0<=j↔q∈r)
 |[],pre,h,M,hM=>by
  obtain ⟨m,rfl⟩:∃m,M=m+1:=⟨M-1,by omega⟩;rw [ao];unfold gW;simp_all
 |x::r,pre,h,M,hM=>by
  obtain ⟨m,rfl⟩:∃m,M=m+1:=⟨M-1,by omega⟩;have a:pre.length+r.length+1=l.length:=by rw [h];simp;omega
  obtain ⟨j,b,c⟩:=Dq l q hl r (pre++[x]) (by rw [h];simp) m (by simp at hM;omega);rw [ao];generalize aj (gW l q) m=k at b ⊢;unfold gW;rw [cb (by omega),ca,Sy.lr h,So.ah,Pa.bP (by omega)];grind
def arl(a:Au):V:=(a.2.2.2[0]?).getD []
def meet(a:Au)(x:V):Bool:=decide (x.getLastD 0∈arl a)
theorem ami{a:Au}{A:V}{r:List V}(h:a.2.2.2=A::r)(c:A.length<100000000){v:V}{q:Int}(b:v.length<1000000):Aj a (v++[q])=some (meet a (v++[q])):=by unfold Aj;rw [Pd.Zx b,So.ah,h,show idx (A::r) 0=some A from rfl,So.ah];unfold n8 sy;obtain ⟨j,e,d⟩:=Dq A q c A [] rfl an (by show A.length<2^64;omega);grind [meet,arl]
theorem back_eq(s:lW)(y seed:V)(o:lW)(a:y.length<100000000)(c:s.length<100000000)(d:o.length<100000000)(b:o≠[]):
  j8 s y seed o=some (if y=seed then .error (o.dropLast.map (·.1),s.map (·.1)) else .ok ()):=by
 unfold j8;rw [JT y seed a,So.ah];by_cases h:y=seed
 .have hl:1<=o.length:=by grind
  have e:IntKind.i64.wrap ((List.length o)-1)=((o.length-1:Nat)):=by grind [bB]
  grind [aV,List.dropLast_eq_take,Sy.aO,db,List.length,ajU,So.ah]
 grind
abbrev stS(t:St)(s:lW):=(t.1,t.2.1,t.2.2.1,t.2.2.2.1.1.1,t.2.2.2.1.1.2.1,t.2.2.2.1.1.2.2,t.2.2.2.1.2,t.2.2.2.2.1.1,t.2.2.2.2.1.2.1.1,t.2.2.2.2.1.2.1.2.1,t.2.2.2.2.1.2.1.2.2,t.2.2.2.2.1.2.2,t.2.2.2.2.2.1.1,t.2.2.2.2.2.1.2,t.2.2.2.2.2.2.1.1.1,t.2.2.2.2.2.2.1.1.2.1,t.2.2.2.2.2.2.1.1.2.2.1,t.2.2.2.2.2.2.1.1.2.2.2.1,t.2.2.2.2.2.2.1.1.2.2.2.2,t.2.2.2.2.2.2.1.2.1.1,t.2.2.2.2.2.2.1.2.1.2.1,t.2.2.2.2.2.2.1.2.1.2.2.1,t.2.2.2.2.2.2.1.2.1.2.2.2.1,t.2.2.2.2.2.2.1.2.1.2.2.2.2,t.2.2.2.2.2.2.1.2.2.1,t.2.2.2.2.2.2.1.2.2.2.1,t.2.2.2.2.2.2.1.2.2.2.2.1,t.2.2.2.2.2.2.1.2.2.2.2.2.1,t.2.2.2.2.2.2.1.2.2.2.2.2.2,t.2.2.2.2.2.2.2.1,t.2.2.2.2.2.2.2.2.1,t.2.2.2.2.2.2.2.2.2.1,t.2.2.2.2.2.2.2.2.2.2.1,t.2.2.2.2.2.2.2.2.2.2.2.1,t.2.2.2.2.2.2.2.2.2.2.2.2,s)
def ad8(m:bk)(k:Nat)(s:lW):Prop:= ∀f∈s,∀y∈f.2,Pd.St m k y
def seI(seed:V)(o:lW)(y:V)(s:lW):Option Er:=if y=seed then some (.inr (o.dropLast.map (·.1),s.reverse.map (·.1))) else none
abbrev wkI(m:bk)(a:Au)(most:Int)(seed:V)(o:lW):=wk L6 (seI seed o) (λt _=>some (.ok t)) (xD m a most)
theorem Lk{m:bk}{a:Au}(ha:Pd.vx a k){most:Int}{n:Nat}{x:V}(hx:Pd.St m k x){l:List V}(h:xD m a most n x= .ok l):∀y∈l,Pd.St m k y:=by grind [xD,Pd.QU]
theorem aft{m:bk}{a:Au}{most:Int}{n:Nat}{x:V}{l:List V}(h:xD m a most n x= .ok l):(n:Int)<most:=by grind [xD]
theorem mS(s:lW)(f:V×List V):(f::s).reverse=s.reverse++[f]:=List.reverse_cons
theorem Jr(s:lW)(f:V×List V)(a:s.length<100000000):IntKind.i64.wrap ((List.length (s.reverse++[f]):Int)-1)=(s.reverse.length:Int):=by grind [bB]
theorem KU{m:bk}(hm:Sp.SafeS m.2.1 m.2.2.2.2){a:Au}{k:Nat}(ha:Pd.vx a k){most:Int}(c:most<=1048576)(seed:V){o:lW}(B:o.length<100000000)(h:o≠[]):
  ∀(n:Nat) (t:St) (s:lW),s.length<=1048576->ad8 m k s->aj (rC m a most seed o) n (stS t s.reverse)=Qg fl (wkI m a most seed o n t s)
 |0,_,_,_,_=>rfl
 |n+1,t,[],hs,hn=>by
  rw [ao];generalize aj _ n=d;rfl
 |n+1,t,(x,[])::s,hs,hn=>by
  have ih:=KU hm ha c seed B h n t s (by simp at hs;omega) (λf i=>hn f (cp _ i));rw [ao];generalize aj (rC m a most seed o) n=d at ih ⊢;unfold rC tG kN;dsimp only;simp at hs;rw [mS,cb (by simp),ca,Jr _ _ (by omega),Sy.lr (pre:=s.reverse) (r:=[]) rfl,So.ah];simp only [qf,Int.ofNat_zero];rw [show ((0:Int)==0)=true from rfl,ca];show (some ()).bind _=_;rw [So.ah,Sy.aO (show db 0 (s.reverse.length:Int) (List.length (s.reverse++[((x,[]):V×List V)]))=true by unfold db;simp;omega),show aV (s.reverse++[((x,[]):V×List V)]) 0 (s.reverse.length:Int)=s.reverse by unfold aV;simp];exact ih
 |n+1,t,(x,y::ys)::s,hs,hn=>by
  have D:Pd.St m k y:=hn _ (c8 ..) y (c8 ..);have w:ad8 m k ((x,ys)::s):=λf i=>by
   rcases List.mem_cons.1 i with rfl|i
   .exact λz E=>hn _ (c8 ..) z (cp _ E)
   .exact hn f (cp _ i)
  have p:=λt'=>KU hm ha c seed B h n t' ((x,ys)::s) (by simpa using hs) w;have j:=λt' l (hl:xD m a most (s.length+1) y= .ok l)=>KU hm ha c seed B h n t' ((y,l)::(x,ys)::s) (by have:=aft hl;simp;omega) (λf i=>by
   rcases List.mem_cons.1 i with rfl|i
   .exact Lk ha D hl
   .exact w f i)
  rw [ao];generalize aj (rC m a most seed o) n=d at p j ⊢;unfold rC tG kN;dsimp only;simp at hs;have u:List.set (s.reverse++[((x,y::ys):V×List V)]) (Int.toNat (s.reverse.length)) (x,ys)=s.reverse++[(x,ys)]:=by simp
  have C:y.length<100000000:=by obtain ⟨v,q,rfl,F,_⟩:=D;have:=F.len;have:=hm.df;simp;omega
  rw [mS,cb (by simp),ca,Jr _ _ (by omega),Sy.lr rfl,So.ah];simp only [show (((y::ys).length:Int)==0)=false by simp;omega,b7,show idx (y::ys) 0=some y from rfl,So.ah];rw [Sy.aO (by unfold db;simp;omega)];have A:aV (y::ys) 1 ((List.length (y::ys)))=ys:=by unfold aV;simp
  simp only [A,u];rw [back_eq _ y seed o C (by simp;omega) B h];unfold wkI wk;simp only [seI];by_cases g:y=seed
  .rw [du g,du g];show some _=some _;rw [mS]
  .rw [dk g,dk g];show gH (WW y m a t most) _ _=_;rw [akI];cases L6 t y with
   |none=>rfl
   |some r=>
    cases r with
    |error e=>rfl
    |ok r=>
     obtain ⟨b,t'⟩:=r;cases b with
     |false=>
      have:=p t';rw [mS] at this;exact this
     |true=>
      show gH (xJ y (s.reverse++[(x,ys)]) m a t' most) _ _=_;rw [Po hm ha D _ (by simp;omega),show (s.reverse++[((x,ys))]).length=s.length+1 by simp];cases hp:xD m a most (s.length+1) y with
      |error e=>rfl
      |ok l=>
       have:=j t' l hp;rw [mS,mS] at this;exact this
end Ns
namespace Ns
def allI(m:bk)(a:Au)(most:Int)(x:V)(o:lW)(F:Nat)(t:St):Option (Except Er St):=match xD m a most 0 x with
 | .error e=>some (.error (.inl e))
 | .ok l=>wkI m a most x o F t [(x,l)]
def inn(m:bk)(a:Au)(most:Int)(F:Nat)(t:St)(s:lW):Option (Except Er St):=match s with
 |[]=>none
 |(x,l)::r=>bif meet a x then allI m a most x ((x,l)::r).reverse F t else some (.ok t)
def okS(m:bk)(k:Nat)(s:lW):Prop:= ∀f∈s,Pd.St m k f.1/\∀y∈f.2,Pd.St m k y
structure Zz(a:Au):Prop where
 acc:∃A r,a.2.2.2=A::r/\A.length<100000000
theorem aiM{m:bk}(hm:Sp.SafeS m.2.1 m.2.2.2.2){a:Au}{k:Nat}(ha:Pd.vx a k){most:Int}(b:most<=1048576){x:V}(hx:Pd.St m k x){o:lW}(g:o.length<100000000)(c:o≠[])(t:St):
  NG x m a t most x o=Qg fl (allI m a most x o an t):=by
 unfold NG Ju tG nM allI;show gH (xJ x [] m a t most) _ _=_;rw [Po hm ha hx [] (by simp)];cases hp:xD m a most ([]).length x with
 |error e=>rfl
 |ok l=>
  have:=KU hm ha b x g c an t [(x,l)] (by simp) (λf d=>by
   rcases List.mem_cons.1 d with rfl|d
   .exact Lk ha hx hp
   .cases d)
  unfold rC tG at this;rw [<-this];rfl
theorem anu{m:bk}(hm:Sp.SafeS m.2.1 m.2.2.2.2){a:Au}{k:Nat}(ha:Pd.vx a k)(h:Zz a){most:Int}(b:most<=1048576){x:V}(hx:Pd.St m k x)(l:List V)(r:lW)(o:r.length<10000000)(t:St):
  Kx ((x,l)::r).reverse m a t most=Qg fl (inn m a most an t ((x,l)::r)):=by
 unfold Kx Ju tG mH inn;rw [mS,Jr _ _ (by omega),Sy.lr rfl,So.ah];obtain ⟨A,q,n,j⟩:=h.acc;obtain ⟨v,p,c,f,hp⟩:=hx;have g:v.length<1000000:=by have n:=f.len;have j:=hm.df;omega
 have i:Aj (a.1,a.2.1,a.2.2.1,a.2.2.2) x=some (meet a x):=by grind [ami]
 rw [i,So.ah];dsimp only;cases meet a x with
 |false=>rfl
 |true=>
  show gH (NG x m a t most x (r.reverse++[(x,l)])) _ _=_;have d:Pd.St m k x:=⟨v,p,c,f,hp⟩;rw [aiM hm ha b d (by simp;omega) (by simp)];rw [ca,mS];generalize allI m a most x (r.reverse++[(x,l)]) an t=w;cases w with
  |none=>rfl
  |some w=>
   cases w with
   |error e=>cases e <;> rfl
   |ok t'=>rfl
abbrev wkO(m:bk)(a:Au)(most:Int):=wk GW (λ_ _=>none) (inn m a most an) (xD m a most)
theorem KT{m:bk}(hm:Sp.SafeS m.2.1 m.2.2.2.2){a:Au}{k:Nat}(ha:Pd.vx a k)(d:Zz a){most:Int}(c:most<=1048576):
  ∀(n:Nat) (t:St) (s:lW),s.length<=1048576->okS m k s->aj (BW m a most) n (stS t s.reverse)=Qg fl (wkO m a most n t s)
 |0,_,_,_,_=>rfl
 |n+1,t,[],hs,hn=>by
  rw [ao];generalize aj _ n=g;rfl
 |n+1,t,(x,[])::s,hs,hn=>by
  have ih:=λt'=>KT hm ha d c n t' s (by simp at hs;omega) (λf d=>hn f (cp _ d));rw [ao];generalize aj (BW m a most) n=g at ih ⊢;unfold BW tG nK;dsimp only;simp at hs;have j:=anu hm ha d c (hn _ (c8 ..)).1 [] s (by omega) t;rw [mS] at j ⊢;rw [cb (by simp),ca,Jr _ _ (by omega),Sy.lr (pre:=s.reverse) (r:=[]) rfl,So.ah];simp only [qf,Int.ofNat_zero];rw [show ((0:Int)==0)=true from rfl,ca];show gH (Kx (s.reverse++[(x,[])]) m a t most) _ _=_;rw [j];unfold wkO wk;dsimp only;cases inn m a most an t ((x,[])::s) with
  |none=>rfl
  |some w=>
   cases w with
   |error e=>cases e <;> rfl
   |ok t'=>
    show aN _ _=_;rw [Sy.aO (show db 0 (s.reverse.length:Int) (List.length (s.reverse++[((x,[]):V×List V)]))=true by unfold db;simp;omega),show aV (s.reverse++[((x,[]):V×List V)]) 0 (s.reverse.length:Int)=s.reverse by unfold aV;simp];exact ih t'
 |n+1,t,(x,y::ys)::s,hs,hn=>by
  have v:=hn _ (c8 ..);have u:Pd.St m k y:=v.2 y (c8 ..);have i:okS m k ((x,ys)::s):=λf d=>by
   rcases List.mem_cons.1 d with rfl|d
   .exact ⟨v.1,λz A=>v.2 z (cp _ A)⟩
   .exact hn f (cp _ d)
  have q:=λt'=>KT hm ha d c n t' ((x,ys)::s) (by simpa using hs) i;have p:=λt' l (hl:xD m a most (s.length+1) y= .ok l)=>KT hm ha d c n t' ((y,l)::(x,ys)::s) (by have:=aft hl;simp;omega) (λf d=>by
   rcases List.mem_cons.1 d with rfl|d
   .exact ⟨u,Lk ha u hl⟩
   .exact i f d)
  rw [ao];unfold BW tG nK;dsimp only;simp at hs;have h:List.set (s.reverse++[((x,y::ys))]) (Int.toNat (s.reverse.length)) (x,ys)=s.reverse++[(x,ys)]:=by simp
  rw [mS,cb (by simp),ca,Jr _ _ (by omega),Sy.lr rfl,So.ah];simp only [show idx (y::ys) 0=some y from rfl,So.ah];rw [Sy.aO (by unfold db;simp;omega)];have o:aV (y::ys) 1 ((List.length (y::ys)))=ys:=by unfold aV;simp
  simp only [o,h];unfold wkO wk;show gH (Jm y m a t most) _ _=_;rw [Rf];cases GW t y with
  |none=>rfl
  |some r=>
   cases r with
   |error e=>rfl
   |ok r=>
    obtain ⟨b,t'⟩:=r;cases b with
    |false=>
     have:=q t';rw [mS] at this;exact this
    |true=>
     show gH (xJ y (s.reverse++[(x,ys)]) m a t' most) _ _=_;rw [Po hm ha u _ (by simp;omega),show (s.reverse++[((x,ys))]).length=s.length+1 by simp];cases hp:xD m a most (s.length+1) y with
     |error e=>rfl
     |ok l=>
      have:=p t' l hp;rw [mS,mS] at this;exact this
def ol(m:bk)(a:Au)(most:Int):List V->St->Option (Except Er St)
 |[],t=>some (.ok t)
 |x::r,t=>(GW t x).bind λq=>match q with
  | .error e=>some (.error (.inl e))
  | .ok (false,t')=>ol m a most r t'
  | .ok (true,t')=>match xD m a most 0 x with
   | .error e=>some (.error (.inl e))
   | .ok l=>(wkO m a most an t' [(x,l)]).bind λq=>match q with
    | .error e=>some (.error e)
    | .ok t''=>ol m a most r t''
theorem ako{m:bk}(hm:Sp.SafeS m.2.1 m.2.2.2.2){a:Au}{k:Nat}(ha:Pd.vx a k)(c:Zz a){most:Int}(b:most<=1048576){x:V}(hx:Pd.St m k x)(t:St):
  ajM x m a t most=Qg fl (match xD m a most 0 x with
   | .error e=>some (.error (.inl e))
   | .ok l=>wkO m a most an t [(x,l)]):=by
 show gH (xJ x [] m a t most) _ _=_;rw [Po hm ha hx [] (by simp)];cases hp:xD m a most ([]).length x with
 |error e=>rfl
 |ok l=>
  have:=KT hm ha c b an t [(x,l)] (by simp) (λf c=>by
   rcases List.mem_cons.1 c with rfl|c
   .grind [Lk]
   .cases c)
  unfold BW tG at this;rw [<-this];rfl
theorem SN{m:bk}(hm:Sp.SafeS m.2.1 m.2.2.2.2){a:Au}{k:Nat}(ha:Pd.vx a k)(j:Zz a){most:Int}(c:most<=1048576)(L:List V)(o:L.length<100000000)(d:∀x∈L,Pd.St m k x):
  ∀(r pre:List V),L=pre++r->∀(t:St) (M:Nat),r.length<M->aj (JP m a most L) M (t.1,t.2.1,t.2.2.1,t.2.2.2.1.1.1,t.2.2.2.1.1.2.1,t.2.2.2.1.1.2.2,t.2.2.2.1.2,t.2.2.2.2.1.1,t.2.2.2.2.1.2.1.1,t.2.2.2.2.1.2.1.2.1,t.2.2.2.2.1.2.1.2.2,t.2.2.2.2.1.2.2,t.2.2.2.2.2.1.1,t.2.2.2.2.2.1.2,t.2.2.2.2.2.2.1.1.1,t.2.2.2.2.2.2.1.1.2.1,t.2.2.2.2.2.2.1.1.2.2.1,t.2.2.2.2.2.2.1.1.2.2.2.1,t.2.2.2.2.2.2.1.1.2.2.2.2,t.2.2.2.2.2.2.1.2.1.1,t.2.2.2.2.2.2.1.2.1.2.1,t.2.2.2.2.2.2.1.2.1.2.2.1,t.2.2.2.2.2.2.1.2.1.2.2.2.1,t.2.2.2.2.2.2.1.2.1.2.2.2.2,t.2.2.2.2.2.2.1.2.2.1,t.2.2.2.2.2.2.1.2.2.2.1,t.2.2.2.2.2.2.1.2.2.2.2.1,t.2.2.2.2.2.2.1.2.2.2.2.2.1,t.2.2.2.2.2.2.1.2.2.2.2.2.2,t.2.2.2.2.2.2.2.1,t.2.2.2.2.2.2.2.2.1,t.2.2.2.2.2.2.2.2.2.1,t.2.2.2.2.2.2.2.2.2.2.1,t.2.2.2.2.2.2.2.2.2.2.2.1,t.2.2.2.2.2.2.2.2.2.2.2.2,(pre.length:Int))=Qg fl (ol m a most r t)
 |[],pre,h,t,M,hM=>by
  obtain ⟨n,rfl⟩:∃n,M=n+1:=⟨M-1,by omega⟩;have e  :=by simpa using h
  rw [ao];generalize aj _ n=g;unfold JP tG mD;dsimp only;rw [cy (by rw [e];omega),b7];rfl
 |x::r,pre,h,t,M,hM=>by
  obtain ⟨n,rfl⟩:∃n,M=n+1:=⟨M-1,by omega⟩;have i:pre.length+r.length+1=L.length:=by rw [h];simp;omega
  have hx:=d x (by rw [h];simp);have ih:=λt'=>SN hm ha j c L o d r (pre++[x]) (by rw [h];simp) t' n (by simp at hM;omega);rw [show ((pre++[x]).length)=((pre.length+1:Nat)) by simp] at ih;rw [ao];unfold JP tG mD;dsimp only;rw [cb (by omega),ca,Sy.lr h,So.ah,Pa.bP (by omega)];unfold ol;show gH (Jm x m a t most) _ _=_;rw [Rf];cases GW t x with
  |none=>rfl
  |some q=>
   cases q with
   |error e=>rfl
   |ok q=>
    obtain ⟨b,t'⟩:=q;cases b with
    |false=>exact ih t'
    |true=>
     show gH (ajM x m a t' most) _ _=_;rw [ako hm ha j c hx];simp;cases xD m a most 0 x with
     |error e=>rfl
     |ok l=>
      dsimp only;cases wkO m a most an t' [(x,l)] with
      |none=>rfl
      |some w=>
       cases w with
       |error e=>cases e <;> rfl
       |ok f=>exact ih f
def xn(m:bk)(a:Au):List V:=Sp.dm [] (Pd.dS a m.2.2.1 a.2.2.1)
theorem anJ{m:bk}(hm:Sp.SafeS m.2.1 m.2.2.2.2)(hi:Sp.sH m.2.1 m.2.2.1){a:Au}{k:Nat}(ha:Pd.vx a k)(d:Zz a){most:Int}(b:most<=1048576)(e:(xn m a).length<100000000)(c:∀x∈xn m a,Pd.St m k x)(t:St):
  W8 m a t most=Qg fl (ol m a most (xn m a) t):=by
 unfold W8 Ju tG pP;rw [show Cn (m.1,m.2.1,m.2.2.1,m.2.2.2.1,m.2.2.2.2) (a.1,a.2.1,a.2.2.1,a.2.2.2)=some (xn m a) from Pd.apj hm hi ha,So.ah];exact SN hm ha d b (xn m a) e c (xn m a) [] rfl t an (by show _<2^64;omega)
def CM(w:Option (Except Er St)):Option (Bool×(List V×List V)×Int×V):=w.map λr=>match r with
 | .ok _=>(false,([],[]),0,[])
 | .error (.inl e)=>(false,([],[]),e.1,e.2)
 | .error (.inr p)=>(true,p,0,[])
theorem ad1{m:bk}(hm:Sp.SafeS m.2.1 m.2.2.2.2)(hi:Sp.sH m.2.1 m.2.2.1){a:Au}{k:Nat}(ha:Pd.vx a k)(h:Zz a)(i:(xn m a).length<100000000)(b:∀x∈xn m a,Pd.St m k x)(o:So.Op){s:xb}(g:wz m a=some (s,0)){t:St}{c:Int}(hN:dv s o=some (t,c)):
  fG m a o=if c=0/\1<=o.2.2.1/\o.2.2.1<=1048576 then CM (ol m a o.2.2.1 (xn m a) t) else some (false,([],[]),1,[]):=by
 unfold fG;rw [g,So.ah];simp only [So.aK];rw [show ((0:Int) != 0)=false from rfl,b7,hN,So.ah];by_cases f:c=0
 .by_cases d:1<=o.2.2.1/\o.2.2.1<=1048576
  .rw [du ⟨f,d⟩,f,cy (by omega),cy (by omega)];show gH (W8 m a t o.2.2.1) _ _=_;rw [anJ hm hi ha h d.2 i b];cases ol m a o.2.2.1 (xn m a) t with
   |none=>rfl
   |some w=>
    cases w with
    |error e=>cases e <;> rfl
    |ok t'=>rfl
  grind
 grind
end Ns
namespace Ns
def mu(Us K:List V):Nat:=(Us.filter λx=> !decide (x∈K)).length
theorem ahc{Us K a:List V}(h:∀x∈K,x∈a):mu Us a<=mu Us K:=by
 unfold mu
 induction Us with
 |nil=>simp
 |cons y Us ih=>
  grind
theorem atj{Us K a:List V}(h:∀x∈K,x∈a){x:V}(hx:x∈Us)(c:x∉K)(b:x∈a):mu Us a<mu Us K:=by
 induction Us with
 |nil=>cases hx
 |cons y Us ih=>
  unfold mu at ih ⊢;by_cases e:y=x
  .subst e;have:=ahc (Us:=Us) h;unfold mu at this;simp [c,b];omega
  grind
theorem arY{Us K:List V}:mu Us K<=Us.length:=qV _ _
def wt(s:lW):Nat:=(s.map λf=>1+f.2.length).sum
structure DK(Us:List V)(s:lW):Prop where
 st:∀f∈s,f.1∈Us
 nx:∀f∈s,∀y∈f.2,y∈Us
 nd:(s.map (·.1)).Nodup
theorem DK.df{Us:List V}{s:lW}(h:DK Us s):s.length<=Us.length:=by
 have:=Df.Je h.nd (λx hx=>by obtain ⟨f,a,rfl⟩:=List.mem_map.1 hx;exact h.st f a)
 simpa using this
section
variable {nw : St -> V -> Option (Except (Int × V) (Bool × St))} {se : V -> lW -> Option Er} {dn : St -> lW -> Option (Except Er St)} {pu : Nat -> V -> Except (Int × V) (List V)} {Us : List V} {N : Nat} {Inv : List V -> St -> Prop} {Bd : Er -> Prop} {bot : Option V}
def an7(Us:List V)(Inv:List V->St->Prop)(Bd:Er->Prop)(nw:St->V->Option (Except (Int×V) (Bool×St))):Prop:=
 ∀K t x,Inv K t->x∈Us->(∃e,nw t x=some (.error e)/\Bd (.inl e))\/(∃K' t',nw t x=some (.ok (false,t'))/\Inv K' t'/\∀z∈K,z∈K')\/(∃K' t',nw t x=some (.ok (true,t'))/\Inv K' t'/\(∀z∈K,z∈K')/\x∉K/\x∈K')
def S4(Inv:List V->St->Prop)(Bd:Er->Prop)(K:List V)(w:Option (Except Er St)):Prop:=
 (∃e,w=some (.error e)/\Bd e)\/(∃K' t',w=some (.ok t')/\Inv K' t'/\∀z∈K,z∈K')
def akr(Us:List V)(N:Nat)(Bd:Er->Prop)(pu:Nat->V->Except (Int×V) (List V)):Prop:=
 ∀n y,y∈Us->n<Us.length->(∃e,pu n y= .error e/\Bd (.inl e))\/(∃l,pu n y= .ok l/\(∀z∈l,z∈Us)/\l.length<=N)
theorem MX(o:an7 Us Inv Bd nw)(k:∀y s e,y∈Us->DK Us s->s≠[]->se y s=some e->Bd e)(d:∀y s,se y s=none->some y≠bot)
  (p:∀K t s,Inv K t->DK Us s->s≠[]->S4 Inv Bd K (dn t s)) (m:akr Us N Bd pu):
  ∀(n:Nat) (t:St) (s:lW) (K:List V),Inv K t->DK Us s->(∀x∈s.map (·.1),x∈K\/some x=bot)->mu Us K*(N+2)+wt s<n->S4 Inv Bd K (wk nw se dn pu n t s)
 |0,_,_,_,_,_,_,h=>by omega
 |n+1,t,[],K,hi,_,_,_=> .inr ⟨K,t,rfl,hi,λ_ h=>h⟩
 |n+1,t,(x,[])::s,K,hi,hg,hk,hn=>by
  have D:DK Us s:=⟨λf a=>hg.st f (cp _ a),λf a=>hg.nx f (cp _ a),by have:=hg.nd;simp at this;simpa using this.2⟩;unfold wk;rcases p K t _ hi hg (by simp) with ⟨e,r,q⟩|⟨u,t',r,q,i⟩
  .rw [r];exact .inl ⟨e,rfl,q⟩
  .rw [r];have hm:=ahc (Us:=Us) i;have g:mu Us u*(N+2)+wt s<n:=by have:=hV (N+2) hm;simp [wt] at hn ⊢; omega
   rcases MX o k d p m n t' s u q D (λy j=>(hk y (by simp at j ⊢; exact .inr j)).imp (i y) id) g with ⟨e,r1,r2⟩|⟨C,t2,r1,r2,v⟩
   .exact .inl ⟨e,r1,r2⟩
   .exact .inr ⟨C,t2,r1,r2,λz c=>v z (i z c)⟩
 |n+1,t,(x,y::ys)::s,K,hi,hg,hk,hn=>by
  have j  :=hg.nx _ (c8 ..) y (c8 ..);have b:DK Us ((x,ys)::s):=⟨λf a=>by
    rcases List.mem_cons.1 a with rfl|a
    .exact hg.st (x,y::ys) (c8 ..)
    .exact hg.st f (cp _ a),λf a=>by
    rcases List.mem_cons.1 a with rfl|a
    .exact λz c=>hg.nx (x,y::ys) (c8 ..) z (cp _ c)
    .exact hg.nx f (cp _ a),hg.nd⟩
  unfold wk;cases E:se y ((x,ys)::s) with
  |some e=>exact .inl ⟨e,rfl,k y _ e j b (by simp) E⟩
  |none=>
   rcases o K t y hi j with ⟨e,r,q⟩|⟨u,t',r,q,i⟩|⟨u,t',r,q,i,F,G⟩
   .rw [r];exact .inl ⟨_,rfl,q⟩
   .rw [r];have hm:=ahc (Us:=Us) i;have g:mu Us u*(N+2)+wt ((x,ys)::s)<n:=by have:=hV (N+2) hm;simp [wt] at hn ⊢; omega
    rcases MX o k d p m n t' _ u q b (λz c=>(hk z (by simpa using c)).imp (i z) id) g with ⟨e,r1,r2⟩|⟨C,t2,r1,r2,v⟩
    .exact .inl ⟨e,r1,r2⟩
    .exact .inr ⟨C,t2,r1,r2,λz c=>v z (i z c)⟩
   .rw [r];have w:y∉((x,ys)::s).map (·.1):=λB=>by
     rcases hk y (by simpa using B) with B|B
     .exact F B
     .exact d y _ E B
    have A  :=by
     have:=Df.Je (List.nodup_cons.2 ⟨w,b.nd⟩) (λz c=>by
      rcases List.mem_cons.1 c with rfl|c
      .exact j
      .obtain ⟨f,a,rfl⟩:=List.mem_map.1 c;exact b.st f a)
     simp at this;omega
    rcases m (s.length+1) y j A with ⟨e,p1,p2⟩|⟨l,p1,p2,H⟩
    .simp [p1];exact .inl ⟨_,rfl,p2⟩
    .simp [p1];have hm:=atj i j F G;have g:mu Us u*(N+2)+wt ((y,l)::(x,ys)::s)<n:=by
      have:mu Us u*(N+2)+(N+2)<=mu Us K*(N+2):=by rw [<-qL];exact hV _ hm
      simp [wt] at hn ⊢; omega
     rcases MX o k d p m n t' ((y,l)::(x,ys)::s) u q ⟨λf a=>by
       rcases List.mem_cons.1 a with rfl|a
       .exact j
       .exact b.st f a,λf a=>by
       rcases List.mem_cons.1 a with rfl|a
       .exact p2
       .exact b.nx f a,List.nodup_cons.2 ⟨w,b.nd⟩⟩ (λz c=>by
       grind) g with ⟨e,r1,r2⟩|⟨C,t2,r1,r2,v⟩
     .exact .inl ⟨e,r1,r2⟩
     .exact .inr ⟨C,t2,r1,r2,λz c=>v z (i z c)⟩
end
end Ns
variable {α : Type}
namespace Sy
open Pa
def Er{α:Type}(x:Except iu α):Prop:= ∀e,x= .error e->e.1≠0
theorem Er.ok{a:α}:Er (.ok a:Except iu α):=λe h=>by cases h
theorem Er.lit{e:iu}(h:e.1≠0):Er (.error e:Except iu α):=λe' a=>by cases a;exact h
theorem Er.bif{c:Bool}{a b:Except iu α}(ha:c=true->Er a)(hb:c=false->Er b):Er (bif c then a else b):=by cases c;exact hb rfl;exact ha rfl
theorem Er.of{x:Except iu α}(h:Er x){e:iu}(a:x= .error e){β:Type}:Er (.error e:Except iu β):= .lit (h e a)
theorem anU{names:List aE}{b:List Tok}:Er (GR names b):=λe h=>by
 unfold GR at h;split at h
 next hx=>have a:=Classical.choose_spec hx;rw [h] at a;rcases a.err e rfl with h|h|h <;> omega
 .cases h;decide
theorem FG{x:aE}{a:List Tok}:Er (cf x a):=by
 unfold cf;split
 .exact .lit (by decide)
 .exact .bif (λ_=> .ok) (λ_=> .lit (show (2:Int)≠0 by decide))
theorem abZ{full:Bool}{names a:List aE}{b:List Tok}:Er (fZ full names a b):=by
 unfold fZ;split
 .exact .lit (by decide)
 .exact .bif (λ_=> .lit (show (2:Int)≠0 by decide)) λ_=> .bif (λ_=> .lit (show (3:Int)≠0 by decide)) λ_=> .bif (λ_=> .lit (show (9:Int)≠0 by decide)) λ_=> .ok
theorem abM{a:Bool}{b:List Tok}:Er (tH a b):=by
 unfold tH;split
 .exact .lit (by decide)
 .exact .bif (λ_=> .lit (show (2:Int)≠0 by decide)) λ_=> .ok
theorem VR{a:List Tok}:Er (gD a):= .bif (λ_=>abM) λ_=>abM
theorem apA{m:bk}{a:List Tok}:Er (sn m a):=by
 unfold sn;split
 next h=>exact abZ.of h
 .split
  next h=>exact VR.of h
  .split
   next h=>exact VR.of h
   .split
    next h=>exact VR.of h
    .split
     next h=>exact FG.of h
     .exact .bif (λ_=> .lit (show (5:Int)≠0 by decide)) λ_=> .ok
theorem aaC{a:Int}{names:List aE}{b:List Tok}:Er (eN a names b):=by
 unfold eN;split
 next h=>exact anU.of h
 .exact .bif (λh=> .lit (by simpa using h)) λ_=> .bif (λ_=> .lit (show (4:Int)≠0 by decide)) λ_=> .ok
theorem aac{names:List aE}:∀(f:Nat) (acc:List (Int×Ex)) (a:List Tok),Er (fQ names f acc a)
 |0,_,_=> .lit (show (2:Int)≠0 by decide)
 |f+1,acc,a=>by
  unfold fQ;split
  .exact .lit (by decide)
  .refine .bif (λ_=> .lit (show (2:Int)≠0 by decide)) λ_=> .bif (λ_=> .lit (show (3:Int)≠0 by decide)) λ_=>?_;split
   next h=>exact FG.of h
   .split
    next h=>exact aaC.of h
    .exact .bif (λ_=>aac f _ _) λ_=> .ok
theorem apO{m:bk}{a:List Tok}:Er (oa m a):=by
 unfold oa;refine .bif (λ_=> .lit (show (9:Int)≠0 by decide)) λ_=>?_;split
 next h=>exact aaC.of h
 .split
  next h=>exact FG.of h
  .split
   next h=>exact (aac _ _ _).of h
   .split
    next h=>exact FG.of h
    .exact .ok
theorem Z7:∀(f:Nat) (m:bk) (a:List Tok),Er (mo f m a)
 |0,_,_=> .lit (show (2:Int)≠0 by decide)
 |f+1,m,a=>by
  unfold mo;refine .bif (λ_=> .ok) λ_=>?_;split
  next h=>exact apO.of h
  .exact Z7 f _ _
theorem amK{m:bk}{a:List Tok}:Er (wE m a):=by
 unfold wE;split
 next h=>exact abZ.of h
 .split
  next h=>exact FG.of h
  .exact Z7 _ _ _
theorem MM:∀(f:Nat) (m:bk) (a:List Tok),Er (rO f m a)
 |0,_,_=> .lit (show (2:Int)≠0 by decide)
 |f+1,m,a=>by
  unfold rO;split
  .exact .lit (by decide)
  .refine .bif (λ_=> .bif (λ_=> .lit (show (2:Int)≠0 by decide)) λ_=> .ok) λ_=> .bif (λ_=>?_) λ_=> .bif (λ_=>?_) λ_=> .lit (show (2:Int)≠0 by decide)
   .split
    next h=>exact apA.of h
    .exact MM f _ _
   .split
    next h=>exact amK.of h
    .exact MM f _ _
theorem alG{text:aE}{e:iu}(h:RN text= .error e):e.1≠0:=by
 unfold RN at h;split at h
 .cases h;decide
 .split at h
  .exact MM _ _ _ e h
  next hl=>cases h;exact abu _ _ _ _ hl
end Sy
namespace Sp
theorem aaG(a b:zl)(hl:a.length=b.length)(ha:a.length<1000000000):∀(r pre s:zl),a=pre++r->b=pre++s->∀M,r.length<M->aj (dQ a b) M (pre.length:Int)=some (r==s)
 |[],pre,s,h,h2,M,hM=>by
  obtain ⟨k,rfl⟩:∃k,M=k+1:=⟨M-1,by simp at hM;omega⟩;rw [ao];simp only [dQ,Sy.uS h,b7];have:s=[]:=et (by rw [h,h2] at hl;simpa using hl.symm);subst this;rfl
 |x::r,pre,[],h,h2,M,hM=>by rw [h,h2] at hl;simp at hl
 |x::r,pre,y::s,h,h2,M,hM=>by
  obtain ⟨k,rfl⟩:∃k,M=k+1:=⟨M-1,by omega⟩;rw [ao];have c:pre.length+r.length+1=a.length:=by rw [h];simp;omega
  simp only [dQ,Sy.vg h,ca,Sy.lr h,Sy.lr h2,ah,Pa.bP (show pre.length<4611686018427387904 by omega)];by_cases e:x=y
  .subst e;have ih:=aaG a b hl ha r (pre++[x]) s (by rw [h];simp) (by rw [h2];simp) k (by simp at hM;omega);rw [show ((pre++[x]).length:Int)=((pre.length+1:Nat):Int) by simp] at ih;rw [show (x != x)=false by simp,b7,ih];simp
  .rw [show (x != y)=true by simpa using e,ca];simp [e]
theorem ajN(a b:zl)(ha:a.length<1000000000):ia a b=some (a==b):=by
 unfold ia;by_cases hl:a.length=b.length
 .rw [show ((List.length a:Int) != (List.length b:Int))=false by rw [hl];simp,b7];exact aaG a b hl ha a [] b rfl rfl an (by show _<2^64;omega)
 .rw [show ((List.length a:Int) != (List.length b:Int))=true by simp;omega,ca,beq_eq_false_iff_ne.2 (λe=>hl (by rw [e]))]
def vm(v:zl):Nat->w8->Int
 |_,[]=> -1
 |k,x::r=>if x=v then (k:Int) else vm v (k+1) r
theorem Pg{v:zl}:∀{l:w8} {k:Nat},vm v k l<0↔v∉l
 |[],k=>by simp [vm]
 |x::r,k=>by
  unfold vm;by_cases e:x=v
  .rw [du e];constructor
   .intro h;omega
   .intro h;exact absurd (by rw [e];simp) h
  .rw [dk e,Pg (l:=r)];simp only [qe,not_or];exact ⟨λh=>⟨λa=>e a.symm,h⟩,λh=>h.2⟩
def uR(S:xb)(v:zl):Bool:=decide (v.length=S.length)&&fits S v
theorem ou{S:xb}:uR S v=true↔sH S v:=by unfold uR;rw [au,er];exact ⟨λh=>⟨h.1,h.2⟩,λh=>⟨h.len,h.fit⟩⟩
structure GQ(S:xb)(C:List Sy.aT):Prop extends SafeS S C where
 rguard:∀c∈C,fv (S.length:Int) c.2.1=true/\(rt c.2.1).1=2
 rsets:∀c∈C,∀s∈c.2.2,fv (S.length:Int) s.2=true/\(rt s.2).1=1
theorem aqa{m:Sy.bk}(h:Sy.Wf m):GQ m.2.1 m.2.2.2.2:=by
 have d:=h.schema;have g:=h.some_;have f:=h.names;have e:=h.cmds;refine { pos:=by omega,df:=by omega,field:=h.fields,cmds:=by omega,guard:=λc a=>?_,sets:=λc a=>⟨(h.cmd c a).len,λs b=>?_⟩,rguard:=λc a=>?_,rsets:=λc a s b=>?_ }
 .have:=(h.cmd c a).sz;omega
 .have k:=(h.cmd c a).sets s b;have:=k.var;have:=k.sz;refine ⟨by omega,by omega,by omega⟩
 .have k:=h.cmd c a;rw [d];exact ⟨k.may,k.typ.2⟩
 .have k:=(h.cmd c a).sets s b;rw [d];exact ⟨k.may,k.typ.2⟩
theorem aeI:∀{S:xb} {v:zl},(∀(i:Nat) (f:Int×Int) (n:Int),S[i]? =some f->v[i]? =some n->f.1<=n/\n<=f.2)->fits S v=true
 |[],[],_=>rfl
 |[],_::_,_=>rfl
 |_::_,[],_=>rfl
 |s::S,x::v,h=>by have c:=h 0 s x rfl rfl;simp only [fits,au,er];exact ⟨c,aeI λi f n b a=>h (i+1) f n (by simpa using b) (by simpa using a)⟩
theorem ao0{m:Sy.bk}(h:Sy.Wf m):sH m.2.1 m.2.2.1:=⟨by rw [h.init,h.schema],aeI h.first⟩
theorem abg(text:aE):∃q,na text=some q/\(q.2=true->Sy.Wf q.1):=by
 unfold na;by_cases h:(600:Int)<(text.length:Int)
 .rw [cb h,ca];exact ⟨_,rfl,λh=>by cases h⟩
 .rw [cy h,b7,Sy.alo,ah];refine ⟨_,rfl,λh=>?_⟩;cases a:Sy.RN text with
  |ok m=>
   exact Sy.aj8 a
  |error e=>
   rw [a] at h;exact absurd (by simpa [Sy.Sk] using h) (Sy.alG a)
end Sp
namespace Sp
theorem Uc(l:w8)(v:zl)(hl:l.length<1000000000)(a:∀w∈l,w.length<1000000000):∀(r pre:w8),l=pre++r->∀M,r.length<M->aj (jf l v) M (pre.length:Int)=some (vm v pre.length r)
 |[],pre,h,M,hM=>by
  obtain ⟨k,rfl⟩:∃k,M=k+1:=⟨M-1,by simp at hM;omega⟩;rw [ao];simp only [jf,Sy.uS h,b7,vm]
 |x::r,pre,h,M,hM=>by
  obtain ⟨k,rfl⟩:∃k,M=k+1:=⟨M-1,by omega⟩;rw [ao];have b:pre.length+r.length+1=l.length:=by rw [h];simp;omega
  have ih:=Uc l v hl a r (pre++[x]) (by rw [h];simp) k (by simp at hM;omega);rw [show ((pre++[x]).length:Int)=((pre.length+1:Nat):Int) by simp,show (pre++[x]).length=pre.length+1 by simp] at ih;simp only [jf,Sy.vg h,ca,Sy.lr h,ah,Pa.bP (show pre.length<4611686018427387904 by omega)];rw [ajN x v (a x (by rw [h];simp)),ah,vm];by_cases e:x=v
  .rw [du e,show (x==v)=true by simpa using e,ca]
  .rw [dk e,show (x==v)=false by simpa using e,b7];exact ih
theorem xj(l:w8)(v:zl)(hl:l.length<1000000000)(a:∀w∈l,w.length<1000000000):fF l v=some (vm v 0 l):=
 Uc l v hl a l [] rfl an (by show _<2^64;omega)
end Sp
theorem alC(op n C:Int)(l:List Ex)(v:zl)(a b:Int)(c:15<=op->(a=0\/a=1)/\(b=0\/b=1)):lK (.mk op n C l) v a b=some (PX op n v a b):=by
 have d:(op=1\/op=2\/op=3\/op=4\/op=5\/op=6\/op=7\/op=8\/op=9\/op=10\/op=11\/op=12\/op=13\/op=15\/op=16\/op=17\/op=18\/op=19)\/(op<1\/op=14\/19<op):=by omega
 rcases d with d|d
 .rcases d with rfl|rfl|rfl|rfl|rfl|rfl|rfl|rfl|rfl|rfl|rfl|rfl|rfl|rfl|rfl|rfl|rfl|rfl
  .rfl
  .show (bif (decide (0<=n)&&decide (n<(List.length v:Int))) then (idx v n).bind (λz=>some z) else some 0)=some (bif decide (n<0)||decide ((List.length v:Int)<=n) then 0 else v.getD n.toNat 0);by_cases e:0<=n
   .by_cases r:n<(List.length v:Int)
    .rw [cb e,cb r,cy (by omega),cy (by omega)];have:idx v n=some (v.getD n.toNat 0):=by unfold idx;rw [du e,b9 (by omega)];simp [List.getD,b9 (show n.toNat<v.length by omega)]
     rw [this];rfl
    .rw [cb e,cy r,cy (by omega),cb (by omega)];rfl
   .rw [cy e,cb (show n<0 by omega)];rfl
  .rfl
  .rfl
  .rfl
  .rfl
  .show (bd (a==b)).bind (λz=>some z)=some (tr ((a==b) != false));cases (a==b) <;> rfl
  .show (bd (!(a==b))).bind (λz=>some z)=some (tr ((a==b) != true));cases (a==b) <;> rfl
  .show (bd (decide (a<b))).bind (λz=>some z)=some (tr (decide (a<b) != false));cases decide (a<b) <;> rfl
  .show (bd (decide (a<=b))).bind (λz=>some z)=some (tr (decide (a<=b) != false));cases decide (a<=b) <;> rfl
  .show (bd (decide (b<a))).bind (λz=>some z)=some (tr (decide (a<=b) != true));by_cases h:a<=b
   .rw [cb h,cy (by omega)];rfl
   .rw [cy h,cb (by omega)];rfl
  .show (bd (decide (b<=a))).bind (λz=>some z)=some (tr (decide (a<b) != true));by_cases h:a<b
   .rw [cb h,cy (by omega)];rfl
   .rw [cy h,cb (by omega)];rfl
  .rfl
  .obtain ⟨ha,hb⟩:=c (by omega);rcases ha with rfl|rfl <;> rfl
  .obtain ⟨ha,hb⟩:=c (by omega);rcases ha with rfl|rfl <;> rcases hb with rfl|rfl <;> rfl
  .obtain ⟨ha,hb⟩:=c (by omega);rcases ha with rfl|rfl <;> rcases hb with rfl|rfl <;> rfl
  .obtain ⟨ha,hb⟩:=c (by omega);rcases ha with rfl|rfl <;> rcases hb with rfl|rfl <;> rfl
  .show (bd (a==b)).bind (λz=>some z)=some (tr ((a==b) != false));cases (a==b) <;> rfl
 .have B:(op==1)=false:=beq_eq_false_iff_ne.2 (by omega);have A:(op==2)=false:=beq_eq_false_iff_ne.2 (by omega);have y:(op==3)=false:=beq_eq_false_iff_ne.2 (by omega);have x:(op==4)=false:=beq_eq_false_iff_ne.2 (by omega);have w:(op==5)=false:=beq_eq_false_iff_ne.2 (by omega);have u:(op==6)=false:=beq_eq_false_iff_ne.2 (by omega);have t:(op==7)=false:=beq_eq_false_iff_ne.2 (by omega);have b8:(op==8)=false:=beq_eq_false_iff_ne.2 (by omega);have s:(op==9)=false:=beq_eq_false_iff_ne.2 (by omega);have q:(op==10)=false:=beq_eq_false_iff_ne.2 (by omega);have p:(op==11)=false:=beq_eq_false_iff_ne.2 (by omega);have o:(op==12)=false:=beq_eq_false_iff_ne.2 (by omega);have m:(op==13)=false:=beq_eq_false_iff_ne.2 (by omega);have k:(op==15)=false:=beq_eq_false_iff_ne.2 (by omega);have j:(op==16)=false:=beq_eq_false_iff_ne.2 (by omega);have i:(op==17)=false:=beq_eq_false_iff_ne.2 (by omega);have g:(op==18)=false:=beq_eq_false_iff_ne.2 (by omega);have f:(op==19)=false:=beq_eq_false_iff_ne.2 (by omega);simp only [lK,Ex.op,PX,B,A,y,x,w,u,t,b8,s,q,p,o,m,k,j,i,g,f,b7]
theorem ao9(k:Ex×zl->zd)(e:Ex)(v:zl)(hk:∀x∈e.l,k (x,v)=some (ev v x))(b:15<=e.op->(CN v e.l=0\/CN v e.l=1)/\(FF v e.l=0\/FF v e.l=1)):
  mw k e v=some (ev v e):=by
 obtain ⟨op,n,a,l⟩:=e;rw [ahP];have key:=alC op n a l v (CN v l) (FF v l) b;rw [show PX (Ex.mk op n a l).op (Ex.mk op n a l).n v (CN v (Ex.mk op n a l).l) (FF v (Ex.mk op n a l).l)=PX op n v (CN v l) (FF v l) from rfl,<-key]
 match l,hk with
 |[],_=>simp only [CN,FF];rfl
 |[x],hk=>
  have hx:=hk x (by simp [Ex.l]);simp only [CN,FF];show (k (x,v)).bind _=_;rw [hx];rfl
 |x::y::r,hk=>
  have hx:=hk x (by simp [Ex.l]);have c:=hk y (by simp [Ex.l]);simp only [CN,FF];have d0:decide ((0:Int)<(List.length (x::y::r):Int))=true:=cb (by simp only [eb];omega);have d1:decide ((1:Int)<(List.length (x::y::r):Int))=true:=cb (by simp only [eb];omega);show (bif decide ((0:Int)<(List.length (x::y::r):Int)) then _ else _)=_;rw [d0];show (k (x,v)).bind _=_;rw [hx];show (bif decide ((1:Int)<(List.length (x::y::r):Int)) then _ else _)=_;rw [d1];show (k (y,v)).bind _=_;rw [c];rfl
theorem af4{a:Int}(v:zl):∀(N:Nat) (e:Ex),e.sz<=N->fv a e=true->((rt e).1=1\/(rt e).1=2)->aj (λk (s:Ex×zl)=>mw k s.1 s.2) N (e,v)=some (ev v e):=by
 intro N
 induction N with
 |zero=>intro e h;have:=pg e;omega
 |succ N ih=>
  intro e h hm ht;rw [ao];refine ao9 _ e v (λx hx=>ih x (by have:=mJ hx;omega) ((Ot hm).2.2.2.2 x hx) (adh hm ht x hx)) (λb=>aq4 v (λx hx=>?_));rw [rt_eq] at ht;have c:(tD e.op e.at_ (e.l.length:Int) e.l 0 0 0).1=2:=by
   rcases ht with h|h
   .have:=Wj _ _ _ _ _ _ _ h;omega
   .exact h
  exact arM v x.sz x (cK _) (OJ _ _ _ b (O2 _ _ _ _ _ _ _ c).2 _ _ _ _ (by omega) c x hx).1
theorem RA{a:Int}(v:zl)(e:Ex)(h:e.sz<1152921504606846)(hm:fv a e=true)(ht:(rt e).1=1\/(rt e).1=2):eV e v=some (ev v e):=af4 v an e (by show e.sz<=2^64;omega) hm ht
namespace Sp
theorem Xy(m:Sy.bk)(w:zl)(hn:w.length=m.2.1.length)(d:w.length<1000):∀(r pre:zl) (rs ps:xb),w=pre++r->m.2.1=ps++rs->ps.length=pre.length->rs.length=r.length->
  ∀M,r.length<M->aj (iX m w) M (pre.length:Int)=some (bif fits rs r then (w,0) else ([],6))
 |[],pre,rs,ps,h,hS,hl,hr,M,hM=>by
  obtain ⟨m,rfl⟩:∃m,M=m+1:=⟨M-1,by simp at hM;omega⟩;rw [ao];simp only [iX,Sy.uS h,b7];have:rs=[]:=et hr;subst this;rfl
 |x::r,pre,[],ps,h,hS,hl,hr,M,hM=>by simp at hr
 |x::r,pre,s::rs,ps,h,hS,hl,hr,M,hM=>by
  obtain ⟨k,rfl⟩:∃k,M=k+1:=⟨M-1,by omega⟩;rw [ao];have e:idx m.2.1 (pre.length:Int)=some s:=by rw [<-hl];exact Sy.lr hS
  have a:pre.length+r.length+1=w.length:=by rw [h];simp;omega
  have ih:=Xy m w hn d r (pre++[x]) rs (ps++[s]) (by rw [h];simp) (by rw [hS];simp) (by simp;omega) (by simpa using hr) k (by simp at hM;omega);rw [show ((pre++[x]).length:Int)=((pre.length+1:Nat):Int) by simp] at ih;simp only [iX,Sy.vg h,ca,Sy.lr h,ah,e,Pa.bP (show pre.length<4611686018427387904 by omega),ih,fits,aK,ao4];by_cases c:x<s.1
  .rw [cb c,v7,ca,cy (show ¬s.1<=x by omega)];rfl
  .rw [cy c,cb (show s.1<=x by omega)];simp only [iN,ca,mE,fj];by_cases b:s.2<x
   .rw [cb b,cy (show ¬x<=s.2 by omega)];rfl
   .rw [cy b,cb (show x<=s.2 by omega)];rfl
theorem UO(m:Sy.bk)(v:zl)(hm:GQ m.2.1 m.2.2.2.2)(hn:v.length=m.2.1.length)(k:Int)(e:Sy.aT)(hk:idx m.2.2.2.2 k=some e)(a:e∈m.2.2.2.2):
  ∀(r pre:List (Int×Ex)),e.2.2=pre++r->∀(w:zl) (M:Nat),w.length=v.length->r.length<M->
   aj (lv m v k) M (w,(pre.length:Int))=some (fin m.2.1 (r.foldl (Nn v) w))
 |[],pre,h,w,M,hw,hM=>by
  obtain ⟨n,rfl⟩:∃n,M=n+1:=⟨M-1,by simp at hM;omega⟩;rw [ao];have i:v.length<1000:=by have:=hm.df;omega
  simp only [lv,hk,ah,Sy.uS h,b7,List.foldl_nil,fin];exact Xy m w (by omega) (by omega) w [] m.2.1 [] rfl rfl rfl (by omega) an (by show _<2^64;omega)
 |s::r,pre,h,w,M,hw,hM=>by
  obtain ⟨n,rfl⟩:∃n,M=n+1:=⟨M-1,by omega⟩;rw [ao];have b:s∈e.2.2:=by rw [h];simp
  obtain ⟨g,o,l⟩:=(hm.sets e a).2 s b;obtain ⟨f,d⟩:=hm.rsets e a s b;have j:=(hm.sets e a).1;have c:pre.length+r.length+1=e.2.2.length:=by rw [h];simp;omega
  obtain ⟨x,hx,_⟩:=sM w s.1 g (by omega);have ih:=UO m v hm hn k e hk a r (pre++[s]) (by rw [h];simp) (Nn v w s) n (by rw [RW,hw]) (by simp at hM;omega);rw [show ((pre++[s]).length:Int)=((pre.length+1:Nat):Int) by simp] at ih;simp only [lv,hk,ah,Sy.vg h,ca,Sy.lr h];rw [RA v s.2 (by omega) f (.inl d)];simp only [ah,hx,Pa.bP (show pre.length<4611686018427387904 by omega)];exact ih
theorem alf{m:Sy.bk}(hm:GQ m.2.1 m.2.2.2.2)(hn:v.length=m.2.1.length)(k:Int):oN m v k=some (O1 m.2.1 m.2.2.2.2 v k):=by
 have e:v.length<1000:=by have:=hm.df;omega
 unfold oN;simp only [aK];unfold O1;by_cases hk:k<0\/(m.2.2.2.2.length:Int)<=k
 .rw [du hk];rw [show (decide (k<0)||decide ((List.length m.2.2.2.2:Int)<=k))=true by rw [eZ,er,er];exact hk,ca]
 .rw [dk hk];rw [show (decide (k<0)||decide ((List.length m.2.2.2.2:Int)<=k))=false by rw [qj];intro h;rw [eZ,er,er] at h;exact hk h,b7];obtain ⟨c,d,b⟩:=sM m.2.2.2.2 k (by omega) (by omega);rw [Sy.aO (Sy.cC (by simp;omega) (by simp;omega)),p5];have a:c∈m.2.2.2.2:=fm b;have:=UO m v hm hn k c d a c.2.2 [] rfl v an rfl (by have:=(hm.sets c a).1;show _<2^64;omega);rw [show (0:Int)=((([]:List (Int×Ex)).length:Nat):Int) from rfl,this];unfold fq;rw [b];rfl
theorem acL(m:Sy.bk)(v:zl)(hm:GQ m.2.1 m.2.2.2.2):∀(r pre:List Sy.aT),m.2.2.2.2=pre++r->∀(out:zl) (M:Nat),out.length<=pre.length->r.length<M->
  aj (jq m v) M (out,(pre.length:Int))=some (out++nk v pre.length r)
 |[],pre,h,out,M,b,hM=>by
  obtain ⟨k,rfl⟩:∃k,M=k+1:=⟨M-1,by simp at hM;omega⟩;rw [ao];simp only [jq,Sy.uS h,b7,nk,ko]
 |c::r,pre,h,out,M,b,hM=>by
  obtain ⟨k,rfl⟩:∃k,M=k+1:=⟨M-1,by omega⟩;rw [ao];have d:pre.length+r.length+1=m.2.2.2.2.length:=by rw [h];simp;omega
  have i:=hm.cmds;have g:=hm.guard c (by rw [h];simp);obtain ⟨f,e⟩:=hm.rguard c (by rw [h];simp);simp only [jq,Sy.vg h,ca,Sy.lr h,ah];rw [RA v c.2.1 (by omega) f (.inr e),ah];have ih:=λout b=>acL m v hm r (pre++[c]) (by rw [h];simp) out k b (by simp at hM;omega);rw [show ((pre++[c]).length:Int)=((pre.length+1:Nat):Int) by simp,show (pre++[c]).length=pre.length+1 by simp] at ih;simp only [Pa.bP (show pre.length<4611686018427387904 by omega),nk];by_cases a:ev v c.2.1=1
  .rw [du a,show (ev v c.2.1==1)=true by simpa using a,ca,Sy.aO (Sy.cC (by simp;omega) (by simp;omega)),ih _ (by simp;omega),cx];rfl
  .rw [dk a,show (ev v c.2.1==1)=false by simpa using a,b7,ih _ (by omega)]
theorem aq5{m:Sy.bk}(hm:GQ m.2.1 m.2.2.2.2):rA m v=some (nk v 0 m.2.2.2.2):=
 acL m v hm m.2.2.2.2 [] rfl [] an (cK _) (by have:=hm.cmds;show _<2^64;omega)
theorem Ea{l:w8}:(vm v 0 l<0->iy l v=l++[v])/\(¬vm v 0 l<0->iy l v=l):=by
 unfold iy;constructor
 .intro h;rw [Pg] at h;rw [dk (by simpa using h)]
 .intro h;rw [Pg] at h;rw [du (by simpa using h)]
theorem UA(m:Sy.bk)(v:zl)(hm:GQ m.2.1 m.2.2.2.2)(hn:v.length=m.2.1.length)(L:zl)(n:∀i∈L,0<=i/\i<m.2.2.2.2.length)(g:L.length<=300):
  ∀(r pre:zl),L=pre++r->∀(l:w8) (M:Nat),(∀w∈l,sH m.2.1 w)->l.length<=pre.length->r.length<M->
   aj (lI m v L) M (l,(pre.length:Int))=some (bif (r.map (fq m.2.2.2.2 v)).all (fits m.2.1) then (dm l (r.map (fq m.2.2.2.2 v)),0) else ([],6))
 |[],pre,h,l,M,hs,hl,hM=>by
  obtain ⟨k,rfl⟩:∃k,M=k+1:=⟨M-1,by simp at hM;omega⟩;rw [ao];simp only [lI,Sy.uS h,b7];rfl
 |i::r,pre,h,l,M,hs,hl,hM=>by
  obtain ⟨k,rfl⟩:∃k,M=k+1:=⟨M-1,by omega⟩;rw [ao];have j:pre.length+r.length+1=L.length:=by rw [h];simp;omega
  obtain ⟨e,d⟩:=n i (by rw [h];simp);simp only [lI,Sy.vg h,ca,Sy.lr h,ah];rw [alf hm hn i];unfold O1;rw [dk (by omega),ah];unfold fin;rw [e9,qp];obtain ⟨c,_,q⟩:=sM m.2.2.2.2 i e d;have f:(fq m.2.2.2.2 v i).length=m.2.1.length:=by unfold fq;rw [q,<-hn];exact MI v c
  cases p:fits m.2.1 (fq m.2.2.2.2 v i)
  .rfl
  .have b:sH m.2.1 (fq m.2.2.2.2 v i):=⟨f,p⟩;simp only [ca,fj];rw [show ((0:Int) != 0)=false from rfl,b7,xj l _ (by omega) (λw a=>(hs w a).short hm.toSafeS),ah];have o:=FK l (fq m.2.2.2.2 v i);have ih:=UA m v hm hn L n g r (pre++[i]) (by rw [h];simp) (iy l (fq m.2.2.2.2 v i)) k (λw a=>by
    rcases acB.1 a with h|h
    .exact hs w h
    .rw [h];exact b) (by simp;omega) (by simp at hM;omega)
   rw [show ((pre++[i]).length:Int)=((pre.length+1:Nat):Int) by simp] at ih;simp only [Pa.bP (show pre.length<4611686018427387904 by omega),List.foldl_cons,dm] at ih ⊢;by_cases hp:vm (fq m.2.2.2.2 v i) 0 l<0
   .rw [cb hp,ca,Sy.aO (Sy.cC (by simp;omega) (by simp;omega)),<-Ea.1 hp];exact ih
   .rw [cy hp,b7];rw [Ea.2 hp] at ih ⊢;exact ih
theorem alF{m:Sy.bk}(hm:GQ m.2.1 m.2.2.2.2)(g:sH m.2.1 v):oH m v=some (fa m.2.1 m.2.2.2.2 v):=by
 have b:=I9 v m.2.2.2.2 0;have d:(nk v 0 m.2.2.2.2).length<=300:=by rw [I9];have:=qV (λc:Sy.aT=>decide (ev v c.2.1=1)) m.2.2.2.2;have:=hm.cmds;unfold enC;omega
 have a:(nk v 0 m.2.2.2.2).map (fq m.2.2.2.2 v)=goes v m.2.2.2.2:=Vv v m.2.2.2.2 m.2.2.2.2 [] rfl;have j:=UA m v hm g.len (nk v 0 m.2.2.2.2) (λi hi=>ajL hi) d (nk v 0 m.2.2.2.2) [] rfl [] an (λw k=>by cases k) (cK _) (by show _<2^64;omega);rw [a,show ((([]:zl).length:Nat):Int)=0 from rfl] at j;unfold oH;rw [aq5 hm,ah,j,p5,Sy.aO (Sy.cC (by have:=g.short hm.toSafeS;simp;omega) (by have:=g.short hm.toSafeS;simp;omega))];unfold fa Pb;by_cases f:goes v m.2.2.2.2=[]
 .have h:(nk v 0 m.2.2.2.2).length=0:=by rw [b];unfold goes at f;have:=congrArg List.length f;simpa using this
  rw [du f,show ((List.length (nk v 0 m.2.2.2.2):Int)==0)=true by rw [h];rfl,ca]
 .have h:(nk v 0 m.2.2.2.2).length≠0:=by rw [b];intro e;apply f;unfold goes;rw [et e];rfl
  rw [dk f,show ((List.length (nk v 0 m.2.2.2.2):Int)==0)=false by simp;simpa using h,b7]
end Sp
mutual
def ht:Ex->Nat
 | .mk _ _ _ l=>ZK l+1
def ZK:List Ex->Nat
 |[]=>0
 |x::r=>max (ht x) (ZK r)
end
theorem asZ(e:Ex):ht e=ZK e.l+1:=by cases e;simp only [ht,Ex.l]
theorem Ui(k:Ex×Int->zd)(e:Ex)(most:Int)(hm: -1000<=most/\most<=1000)(hk:∀x∈e.l,∀m:Int,-1001<=m->m<=1000->∃d:Int,k (x,m)=some d/\1<=d/\d<=x.sz/\(d<m->(ht x:Int)<=d))(hl:e.sz<4611686018427387904):
  ∀(r pre:List Ex),e.l=pre++r->∀(M:Nat) (d:Int),1<=d->d<=e.sz->r.length<M->∃v:Int,aj (bV k e most) M (d,(pre.length:Int))=some v/\d<=v/\v<=e.sz/\(v<most->(ZK r:Int)+1<=v)
 |[],pre,h,M,d,h1,h2,hM=>by
  obtain ⟨m,rfl⟩:∃m,M=m+1:=⟨M-1,by simp at hM;omega⟩;rw [ao];simp only [bV,vT h,aK,lk,b7];exact ⟨_,rfl,qc _,h2,λ_=>by simp only [ZK];omega⟩
 |x::r,pre,h,M,d,h1,h2,hM=>by
  obtain ⟨m,rfl⟩:∃m,M=m+1:=⟨M-1,by omega⟩;rw [ao];have u:IntKind.i64.wrap (most-1)=most-1:=bB (by omega);have a:x∈e.l:=by rw [h];simp
  have q:=mJ a;obtain ⟨g,hx,t,s,b⟩:=hk x a (most-1) (by omega) (by omega);have w:=yq e;have c:pre.length<4611686018427387904:=by have n:=congrArg List.length h;simp at n;omega
  have ih:=λd=>Ui k e most hm hk hl r (pre++[x]) (by rw [h];simp) m d;rw [show ((pre++[x]).length:Int)=((pre.length+1:Nat):Int) by simp] at ih;simp only [bV,kY h,aK,fj];cases j:decide (1<most)
  .simp only [b7];refine ⟨_,rfl,qc _,h2,λf=>?_⟩;simp only [pA] at j;omega
  .have i:IntKind.i64.wrap (1+g)=1+g:=bB (by omega);simp only [ca,oz h,ah,u,hx,mT c,i];cases hd:decide (d<1+g)
   .simp only [b7];simp only [pA] at hd;obtain ⟨v,o,p,e3,e4⟩:=ih d h1 h2 (by simp at hM;omega);refine ⟨v,o,p,e3,λf=>?_⟩;have:=e4 f;have:=b (by omega);simp only [ZK];omega
   .simp only [ca];simp only [er] at hd;obtain ⟨v,o,p,e3,e4⟩:=ih (1+g) (by omega) (by omega) (by simp at hM;omega);refine ⟨v,o,by omega,e3,λf=>?_⟩;have:=e4 f;have:=b (by omega);simp only [ZK];omega
theorem aly:∀(N:Nat) (e:Ex) (most:Int),e.sz<=N->e.sz<4611686018427387904-> -1000<=most->most<=1000->∃d:Int,aj (λk (s:Ex×Int)=>jw k s.1 s.2) N (e,most)=some d/\1<=d/\d<=e.sz/\(d<most->(ht e:Int)<=d):=by
 intro N
 induction N with
 |zero=>intro e _ h;have:=pg e;omega
 |succ N ih=>
  intro e most h hb i g;rw [ao];show ∃d:Int,aj (bV _ e most) an (1,0)=some d/\_;have hl:=yq e;have hp:=pg e;by_cases hm:most= -1000
  . -- none is asked
   refine ⟨1,?_,qc _,by omega,by omega⟩;rw [show an=18446744073709551615+1 from rfl,ao];simp only [bV,aK,hm,show decide ((1:Int)< -1000)=false from rfl,qK,b7]
  obtain ⟨v,n,j,e3,e4⟩:=Ui (aj (λk (s:Ex×Int)=>jw k s.1 s.2) N) e most ⟨i,g⟩ (λx hx m f a=>by
   by_cases c:m< -1000
   .obtain rfl:m= -1001:=by omega
    refine ⟨1,?_,qc _,by have:=pg x;omega,by omega⟩;obtain ⟨K,rfl⟩:∃K,N=K+1:=⟨N-1,by have:=mJ hx;have:=pg x;omega⟩;rw [ao];show aj (bV _ x (-1001)) an (1,0)=some 1;rw [show an=18446744073709551615+1 from rfl,ao];simp only [bV,aK,show decide ((1:Int)< -1001)=false from rfl,qK,b7]
   .exact ih x m (by have:=mJ hx;omega) (by have:=mJ hx;omega) (by omega) a) hb e.l [] rfl an 1 (qc _) (by omega) (by show e.l.length<2^64;omega)
  exact ⟨v,n,j,e3,λb=>by rw [asZ];have:=e4 b;omega⟩
theorem akZ(e:Ex)(h:e.sz<4611686018427387904){most:Int}(b: -1000<=most)(a:most<=1000):∃d:Int,la e most=some d/\1<=d/\d<=e.sz/\(d<most->(ht e:Int)<=d):=aly an e most (by show e.sz<=2^64;omega) h b a
theorem UF(k:Ex×Int->zd)(e:Ex)(most:Int)(hk:∀x∈e.l,∃d:Int,k (x,most)=some d/\1<=d/\d<=x.sz/\(d<most->d=x.sz))(hl:e.sz<4611686018427387904):
  ∀(r pre:List Ex),e.l=pre++r->∀(M:Nat) (d:Int),1<=d->d+xx r<=e.sz->r.length<M->∃v:Int,aj (cW k e most) M (d,(pre.length:Int))=some v/\d<=v/\v<=d+xx r/\(v<most->v=d+xx r)
 |[],pre,h,M,d,h1,h2,hM=>by
  obtain ⟨m,rfl⟩:∃m,M=m+1:=⟨M-1,by simp at hM;omega⟩;rw [ao];simp only [cW,vT h,aK,lk,b7];exact ⟨_,rfl,qc _,by simp only [xx];omega,λ_=>by simp only [xx];omega⟩
 |x::r,pre,h,M,d,h1,h2,hM=>by
  obtain ⟨m,rfl⟩:∃m,M=m+1:=⟨M-1,by omega⟩;rw [ao];obtain ⟨i,hx,o,n,b⟩:=hk x (by rw [h];simp);have p:=yq e;have a:pre.length<4611686018427387904:=by have g:=congrArg List.length h;simp at g;omega
  have ih:=λd=>UF k e most hk hl r (pre++[x]) (by rw [h];simp) m d;rw [show ((pre++[x]).length:Int)=((pre.length+1:Nat):Int) by simp] at ih;simp only [xx] at h2 ⊢;simp only [cW,kY h,aK,fj];cases f:decide (d<most)
  .simp only [b7];refine ⟨_,rfl,qc _,by omega,λj=>?_⟩;simp only [pA] at f;omega
  .have c:IntKind.i64.wrap (d+i)=d+i:=bB (by omega);simp only [ca,oz h,ah,hx,mT a,c];obtain ⟨v,q,s,e3,e4⟩:=ih (d+i) (by omega) (by omega) (by simp at hM;omega);refine ⟨v,q,by omega,by omega,λj=>?_⟩;have:=e4 j;have:=b (by omega);omega
theorem amh:∀(N:Nat) (e:Ex) (most:Int),e.sz<=N->e.sz<4611686018427387904->∃d:Int,aj (λk (s:Ex×Int)=>jG k s.1 s.2) N (e,most)=some d/\1<=d/\d<=e.sz/\(d<most->d=e.sz):=by
 intro N
 induction N with
 |zero=>intro e _ h;have:=pg e;omega
 |succ N ih=>
  intro e most h hb;rw [ao];show ∃d:Int,aj (cW _ e most) an (1,0)=some d/\_;have hl:=yq e;have f:=Ex.af1 e;obtain ⟨v,c,b,e3,e4⟩:=UF (aj (λk (s:Ex×Int)=>jG k s.1 s.2) N) e most (λx hx=>ih x most (by have:=mJ hx;omega) (by have:=mJ hx;omega)) hb e.l [] rfl an 1 (qc _) (by omega) (by show e.l.length<2^64;omega);exact ⟨v,c,b,by omega,λa=>by have:=e4 a;omega⟩
theorem akV(e:Ex)(h:e.sz<4611686018427387904)(most:Int):∃d:Int,ld e most=some d/\1<=d/\d<=e.sz/\(d<most->d=e.sz):=amh an e most (by show e.sz<=2^64;omega) h
theorem ajh{e:Ex}(h:e.sz<4611686018427387904)(a:cE e=some true):ht e<=44/\e.sz<=299:=by
 obtain ⟨d,d1,d2,g,b⟩:=akZ e h (most:=45) (by omega) (by omega);obtain ⟨m,m1,f,c,m4⟩:=akV e h 300;unfold cE at a;rw [d1,m1] at a;have:(decide (d<45)&&decide (m<300))=true:=by injection a
 simp only [au,er] at this;have:=b this.1;have:=m4 (by omega);omega
theorem ab4(k:Ex×Int->za)(e:Ex)(a:Int)(hk:∀x∈e.l,k (x,a)=some (fv a x))(hl:e.l.length<4611686018427387904):
  ∀(r pre:List Ex),e.l=pre++r->∀(M:Nat),r.length<M->aj (jD k e a (e.l.length:Int)) M (pre.length:Int)=some (vS a r)
 |[],pre,h,M,hM=>by
  obtain ⟨m,rfl⟩:∃m,M=m+1:=⟨M-1,by simp at hM;omega⟩;rw [ao];simp only [jD,vT h,b7,vS]
 |x::r,pre,h,M,hM=>by
  obtain ⟨m,rfl⟩:∃m,M=m+1:=⟨M-1,by omega⟩;rw [ao];have hx:=hk x (by rw [h];simp);have b:pre.length<4611686018427387904:=by rw [h] at hl;simp at hl;omega
  have ih:=ab4 k e a hk hl r (pre++[x]) (by rw [h];simp) m (by simp at hM;omega);rw [show ((pre++[x]).length:Int)=((pre.length+1:Nat):Int) by simp] at ih;simp only [jD,kY h,ca,oz h,ah,hx,mT b,vS];cases fv a x
  .rfl
  .simp only [py,b7,fj];exact ih
theorem arq(k:Ex×Int->za)(e:Ex)(a b:Int)(hk:∀x∈e.l,k (x,a)=some (fv a x))(hl:e.l.length<4611686018427387904):
  mh k e a b=some (vL e.op e.n (e.l.length:Int) b a&&vS a e.l):=by
 have c:((e.l.length:Int) != b)=false->aj (jD k e a b) an 0=some (vS a e.l):=λd=>by
  have d:(e.l.length:Int)=b:=by simpa using d
  rw [<-d];exact ab4 k e a hk hl e.l [] rfl an (by show e.l.length<2^64;omega)
 unfold mh vL;simp only [aK];generalize decide (e.op<1)=c1;generalize decide (24<e.op)=g;generalize ((e.l.length:Int) != b)=c3 at*;generalize ((e.op==1)&&(decide (e.n<0)||decide (1073741824<e.n))||(e.op==2)&&(decide (e.n<0)||decide (a<=e.n))||decide (2<e.op)&&e.n != 0)=f;cases c1 <;> cases g <;> cases c3 <;> cases f <;> first|exact c rfl|rfl
theorem asV(k:Ex×Int->za)(e:Ex)(a:Int):iq k e a=mh k e a (oM e.op):=by
 unfold iq rW yO oM;generalize (e.op==1)=c1;generalize (e.op==2)=j;generalize (e.op==13)=i;generalize (e.op==14)=h;generalize (e.op==6)=g;generalize (e.op==15)=f;generalize (e.op==20)=d;generalize (e.op==21)=c;generalize (e.op==22)=b;cases c1
 .cases j
  .cases i
   .cases h
    .cases g
     .cases f
      .cases d
       .cases c
        .cases b <;> rfl
        .rfl
       .rfl
      .rfl
     .rfl
    .rfl
   .rfl
  .rfl
 .rfl
theorem anE:∀(N:Nat) (e:Ex) (a:Int),e.sz<=N->e.sz<4611686018427387904->aj (λk (s:Ex×Int)=>iq k s.1 s.2) N (e,a)=some (fv a e):=by
 intro N
 induction N with
 |zero=>intro e _ h;have:=pg e;omega
 |succ N ih=>
  intro e a h hb;rw [ao];show iq _ e a=_;have hl:=yq e;rw [asV,arq _ e a _ (λx hx=>ih x a (by have:=mJ hx;omega) (by have:=mJ hx;omega)) (by omega),Wv]
theorem asr(e:Ex)(h:e.sz<4611686018427387904)(a:Int):pW e a=some (fv a e):=anE an e a (by show e.sz<=2^64;omega) h
namespace Ns
theorem nH{σ ρ:Type}{F:(σ->Option ρ)->σ->Option ρ}(f:Nat->σ)(P:Nat->Prop)(R:Option ρ->Prop)(n:Nat)(hn:n<9223372036854775807)
  (e:∀i,i<n->(∀j,j<i->P j)->∀k,R (F k (f i))\/(P i/\F k (f i)=k (f (i+1)))) (h:(∀j,j<n->P j)->∀k,R (F k (f n))):R (aj F an (f 0)):=by
 have key:∀(d i m:Nat),i+d=n->d<m->(∀j,j<i->P j)->R (aj F m (f i)):=λd=>by
  induction d with
  |zero=>
   intro i m c b a;obtain ⟨m,rfl⟩:∃q,m=q+1:=⟨m-1,by omega⟩;grind [ao]
  |succ d ih=>
   intro i m c b a;obtain ⟨m,rfl⟩:∃q,m=q+1:=⟨m-1,by omega⟩;rw [ao];grind
 exact key n 0 an (by omega) (by show n<2^64;omega) (λj g=>by omega)
theorem bG{α:Type}{l:List α}{i:Nat}(h:i<l.length):idx l (i:Int)=some l[i]:=by simp_all [idx]
def Be(Q:Prop)(x:za):Prop:= ∃b,x=some b/\(b=true->Q)
theorem ui{Q:Prop}:Be Q (some false):=⟨false,rfl,λh=>by cases h⟩
theorem OA{l:V}(hl:l.length<=1048576)(n:Int):Be (∀q∈l,0<=q/\q<n) (fk l n):=by
 refine nH (λi=>(i:Int)) (λi=>∀q,l[i]? =some q->0<=q/\q<n) _ l.length (by omega) (λi hi _ k=>?_) (λh k=>?_)
 .unfold nV;simp [So.aK];rw [cb (by omega),ca,bG hi,So.ah];by_cases a:l[i]<0
  .refine .inl ?_;rw [cb a];exact ui
  .rw [cy a];show Be _ ((some l[i]).bind _)\/_/\(some l[i]).bind _=_;grind [So.ah,decide_eq_true,ui,List.getElem?_eq_getElem,decide_eq_false,Pa.bP]
 .unfold nV;rw [cy (by omega),b7];exact ⟨true,rfl,λ_ q b=>by grind [List.mem_iff_getElem?,List.getElem?_eq_some_iff]⟩
structure Qc(a:Au):Prop where
 l0:a.1.length<=1048576
 l1:∀l∈a.1,l.length<=1048576/\∀e∈l,e.sz<=1048576
 n0:a.2.1.length<=1048576
 n1:∀l∈a.2.1,l.length<=1048576
 i0:a.2.2.1.length<=1048576
 c0:a.2.2.2.length<=1048576
 c1:∀l∈a.2.2.2,l.length<=1048576
theorem ar7(e:Ex)(h:e.sz<=1048576):lZ e=some ((rt e).2.1==0&&(rt e).1==2):=by unfold lZ;rw [show dO e=some (rt e) from Vs an e (by show e.sz<=2^64;omega) (by omega),So.ah];rfl
theorem anD{a:Au}(hb:Qc a):Be ((∀q∈a.2.2.1,0<=q/\q<(a.1.length:Int))/\a.2.1.length=a.1.length/\(∀l∈a.2.1,∀q∈l,0<=q/\q<(a.1.length:Int))/\(∀l∈a.1,∀e∈l,(rt e).1=2)) (nN a):=by
 unfold nN;obtain ⟨b,s,r⟩:=OA hb.i0 (a.1.length);rw [s,So.ah];simp [So.aK];cases b with
 |false=>exact ui
 |true=>
  by_cases hl:a.2.1.length=a.1.length
  .rw [show ((a.2.1.length:Int) != (a.1.length))=false by rw [hl];simp];show Be _ (aj (kS a) an 0);refine nH (λi=>(i:Int)) (λi=>(∀l,a.2.1[i]? =some l->∀q∈l,0<=q/\q<(a.1.length))/\∀l,a.1[i]? =some l->∀e∈l,(rt e).1=2) _ a.1.length (by have:=hb.l0;omega) (λi hi _ k=>?_) (λh k=>?_)
   .have d:i<a.2.1.length:=by omega
    unfold kS;rw [cb (by omega),ca,bG d,So.ah];obtain ⟨u,n,p⟩:=OA (hb.n1 _ (c9 d)) (a.1.length);rw [n,So.ah];cases u with
    |false=>exact .inl ui
    |true=>
     have hx:=hb.l1 _ (c9 hi);refine nH (F:=kO a (i) k) (λj=>(j)) (λj=>∀e,a.1[i][j]? =some e->(rt e).1=2) (λx=>Be _ x\/_/\x=k ((i+1:Nat))) a.1[i].length (by omega) (λj c _ g=>?_) (λh g=>?_)
     .unfold kO;rw [bG hi,So.ah,cb (by omega),ca,So.ah,bG c,So.ah,ar7 _ (hx.2 _ (c9 c)),So.ah];cases o:((rt a.1[i][j]).2.1==0&&(rt a.1[i][j]).1==2) with
      |false=>exact .inl (.inl ui)
      |true=>
       refine .inr ⟨λe f=>?_,?_⟩
       .rw [b9 c] at f;cases f;simp at o;exact o.2
       .rw [Pa.bP (by omega)];rfl
     .unfold kO;rw [bG hi,So.ah,cy (by omega),b7,Pa.bP (by have:=hb.l0;omega)];refine .inr ⟨⟨λl hl=>?_,λl hl=>?_⟩,rfl⟩
      .rw [b9 d] at hl;cases hl;exact p rfl
      .rw [b9 hi] at hl;cases hl;exact λe f=>by
        obtain ⟨j,c⟩:=List.mem_iff_getElem?.1 f;exact h j (List.getElem?_eq_some_iff.1 c).1 e c
   .unfold kS;rw [cy (by omega),b7];refine nH (F:=iD a) (λj=>(j)) (λ_=>True) _ a.2.2.2.length (by have:=hb.c0;omega) (λj c _ g=>?_) (λ_ g=>?_)
    .unfold iD;rw [cb (by omega),ca,bG c,So.ah];obtain ⟨t,n,p⟩:=OA (hb.c1 _ (c9 c)) (a.1.length);rw [n,So.ah];cases t with
     |false=>exact .inl ui
     |true=>exact .inr ⟨trivial,by have:=hb.c0;rw [Pa.bP (by omega)];rfl⟩
    .unfold iD;rw [cy (by omega),b7];refine ⟨true,rfl,λ_=>⟨r rfl,hl,λl m=>?_,λl m=>?_⟩⟩
     .grind [List.mem_iff_getElem?,List.getElem?_eq_some_iff]
     grind [List.mem_iff_getElem?,List.getElem?_eq_some_iff]
  .rw [show ((a.2.1.length:Int) != (a.1.length))=true by simp;omega,Bool.or_true];exact ui
end Ns
theorem XP(k:Ex×Int->zd)(e:Ex)(most:Int)(hk:∀x∈e.l,∀m,∃d,k (x,m)=some d)(hl:e.l.length<4611686018427387904):
  ∀(r pre:List Ex),e.l=pre++r->∀(M:Nat) (d:Int),r.length<M->∃v,aj (bV k e most) M (d,(pre.length:Int))=some v
 |[],pre,h,M,d,hM=>by
  obtain ⟨m,rfl⟩:∃m,M=m+1:=⟨M-1,by simp at hM;omega⟩;rw [ao];simp only [bV,vT h,aK,lk,b7];exact ⟨_,rfl⟩
 |x::r,pre,h,M,d,hM=>by
  obtain ⟨m,rfl⟩:∃m,M=m+1:=⟨M-1,by omega⟩;rw [ao];obtain ⟨b,hx⟩:=hk x (by rw [h];simp) (IntKind.i64.wrap (most-1));have a:pre.length<4611686018427387904:=by rw [h] at hl;simp at hl;omega
  have ih:=λd=>XP k e most hk hl r (pre++[x]) (by rw [h];simp) m d (by simp at hM;omega);rw [show ((pre++[x]).length:Int)=((pre.length+1:Nat):Int) by simp] at ih;simp only [bV,kY h,aK,fj];cases decide (1<most)
  .simp only [b7];exact ⟨_,rfl⟩
  .simp only [ca,oz h,ah,hx,mT a];cases decide (d<IntKind.i64.wrap (1+b))
   .simp only [b7];exact ih _
   .simp only [ca];exact ih _
theorem aiH:∀(N:Nat) (e:Ex) (most:Int),e.sz<=N->e.sz<4611686018427387904->∃d,aj (λk (s:Ex×Int)=>jw k s.1 s.2) N (e,most)=some d:=by
 intro N
 induction N with
 |zero=>intro e _ h;have:=pg e;omega
 |succ N ih=>
  intro e most h hb;rw [ao];show ∃d,aj (bV _ e most) an (1,0)=some d;have hl:=yq e;exact XP _ e most (λx hx m=>ih x m (by have:=mJ hx;omega) (by have:=mJ hx;omega)) (by omega) e.l [] rfl an 1 (by show e.l.length<2^64;omega)
theorem XI(k:Ex×Int->zd)(e:Ex)(most:Int)(hk:∀x∈e.l,∀m,∃d,k (x,m)=some d)(hl:e.l.length<4611686018427387904):
  ∀(r pre:List Ex),e.l=pre++r->∀(M:Nat) (d:Int),r.length<M->∃v,aj (cW k e most) M (d,(pre.length:Int))=some v
 |[],pre,h,M,d,hM=>by
  obtain ⟨m,rfl⟩:∃m,M=m+1:=⟨M-1,by simp at hM;omega⟩;rw [ao];simp only [cW,vT h,aK,lk,b7];exact ⟨_,rfl⟩
 |x::r,pre,h,M,d,hM=>by
  obtain ⟨m,rfl⟩:∃m,M=m+1:=⟨M-1,by omega⟩;rw [ao];obtain ⟨b,hx⟩:=hk x (by rw [h];simp) most;have a:pre.length<4611686018427387904:=by rw [h] at hl;simp at hl;omega
  have ih:=λd=>XI k e most hk hl r (pre++[x]) (by rw [h];simp) m d (by simp at hM;omega);rw [show ((pre++[x]).length:Int)=((pre.length+1:Nat):Int) by simp] at ih;simp only [cW,kY h,aK,fj];cases decide (d<most)
  .simp only [b7];exact ⟨_,rfl⟩
  .simp only [ca,oz h,ah,hx,mT a];exact ih _
theorem aii:∀(N:Nat) (e:Ex) (most:Int),e.sz<=N->e.sz<4611686018427387904->∃d,aj (λk (s:Ex×Int)=>jG k s.1 s.2) N (e,most)=some d:=by
 intro N
 induction N with
 |zero=>intro e _ h;have:=pg e;omega
 |succ N ih=>
  intro e most h hb;rw [ao];show ∃d,aj (cW _ e most) an (1,0)=some d;have hl:=yq e;exact XI _ e most (λx hx m=>ih x m (by have:=mJ hx;omega) (by have:=mJ hx;omega)) (by omega) e.l [] rfl an 1 (by show e.l.length<2^64;omega)
theorem anO(e:Ex)(h:e.sz<4611686018427387904):∃b,cE e=some b:=by obtain ⟨d,hd⟩:=aiH an e 45 (by show e.sz<=2^64;omega) h;obtain ⟨m,hm⟩:=aii an e 300 (by show e.sz<=2^64;omega) h;refine ⟨decide (d<45)&&decide (m<300),?_⟩;unfold cE la ld;rw [hd,hm];rfl
namespace Ns
def dM{α:Type}:List (List α)->Nat
 |[]=>0
 |x::l=>x.length+dM l
theorem rR{α:Type}:∀{l:List (List α)} {i:Nat} (h:i<l.length),dM (l.take (i+1))=dM (l.take i)+l[i].length
 |x::l,0,_=>by simp [dM]
 |x::l,i+1,h=>by have:=rR (by simpa using h);grind [dM]
theorem La{α:Type}{x:List α}:∀{l:List (List α)},x∈l->x.length<=dM l
 |y::l,h=>by
  unfold dM;rcases List.mem_cons.1 h with rfl|h
  .omega
  .have:=La h;omega
theorem ar8{a:Au}(hb:Qc a){n:Nat}(hn:n<=100000000):Be (n<4000/\dM a.1<4000/\(∀l∈a.1,∀e∈l,cE e=some true)/\a.1.length<=40) (aj (ju a 40) an ((n:Int),0)):=by
 have c:=hb.l0;refine nH (F:=ju a 40) (λi:Nat=>(((n+dM (a.1.take i):Nat)),(i))) (λi=>n+dM (a.1.take i)<4000/\∀l,a.1[i]? =some l->∀e∈l,cE e=some true) _ a.1.length (by omega) (λi hi _ k=>?_) (λh k=>?_)
 .unfold ju;simp [So.aK];rw [cb (by omega)];by_cases g:n+dM (a.1.take i)<4000
  .rw [cb (by omega),Bool.and_true,ca,bG hi,So.ah];have hx:=hb.l1 _ (c9 hi);refine nH (F:=me a ((n+dM (a.1.take i):Nat)) (i) k a.1[i]) (λj=>(j)) (λj=>∀e,a.1[i][j]? =some e->cE e=some true) (λx=>Be _ x\/_/\x=k (((n+dM (a.1.take (i+1)):Nat)),((i+1:Nat)))) a.1[i].length (by omega) (λj d _ b=>?_) (λh b=>?_)
   .unfold me;rw [bG hi,So.ah,cb (by omega),ca,So.ah,bG d,So.ah];grind [anO,List.getElem_mem,So.ah,ui,List.getElem?_eq_getElem,Pa.bP]
   .unfold me;rw [bG hi,So.ah,cy (by omega),b7,Pa.bP (by omega),rR hi];grind [List.getElem?_eq_getElem,List.mem_iff_getElem?,List.getElem?_eq_some_iff,bB]
  grind [decide_eq_false,dM,ui]
 .unfold ju;simp only [So.aK];rw [cy (by omega),lk,b7,qx];refine ⟨_,rfl,λf=>?_⟩;grind [List.mem_iff_getElem?,List.getElem?_eq_some_iff]
theorem arP{a:Au}(hb:Qc a):Be (dM a.2.1<4000/\dM a.2.2.2<4000/\a.2.2.1.length<4000/\dM a.1<4000/\(∀l∈a.1,∀e∈l,cE e=some true)/\a.1.length<=40) (pU a 40):=by
 unfold pU;have o:=hb.i0;have p:=hb.c0;have m:=hb.n0;rw [bB (by omega)];have s:((a.2.2.1.length:Int)+(a.2.2.2.length:Int),(0:Int))=(λi:Nat=>(((a.2.2.1.length+a.2.2.2.length+dM (a.2.1.take i):Nat):Int),(i:Int))) 0:=by simp [dM]
 rw [s];have two:∀n:Nat,n<=10000000->Be (n<4000/\dM a.2.2.2<4000/\dM a.1<4000/\(∀l∈a.1,∀e∈l,cE e=some true)/\a.1.length<=40) (aj (js a 40) an ((n:Int),0)):=λn hn=>by
  have r:((n:Int),(0:Int))=(λi:Nat=>(((n+dM (a.2.2.2.take i):Nat):Int),(i:Int))) 0:=by simp [dM]
  rw [r];refine nH (F:=js a 40) (λi:Nat=>(((n+dM (a.2.2.2.take i):Nat):Int),(i:Int))) (λi=>n+dM (a.2.2.2.take i)<4000) _ a.2.2.2.length (by omega) (λi hi hp k=>?_) (λhp k=>?_)
  .have f:n+dM (a.2.2.2.take i)<=20000000:=by
    cases i with
    |zero=>simp [dM];omega
    |succ i=>
     have:=hp i (by omega);have d:=hb.c1 _ (c9 (l:=a.2.2.2) (n:=i) (by omega));rw [rR (by omega)];omega
   unfold js;simp only [So.aK];rw [cb (show (i:Int)<(a.2.2.2.length:Int) by omega)];by_cases h:n+dM (a.2.2.2.take i)<4000
   .rw [cb (show ((n+dM (a.2.2.2.take i):Nat):Int)<4000 by omega),Bool.and_true,ca,bG hi,So.ah,Pa.bP (by omega)];have d:=hb.c1 _ (c9 hi);refine .inr ⟨h,?_⟩;rw [rR hi,bB (by omega)];congr 2;omega
   .rw [cy (show ¬((n+dM (a.2.2.2.take i):Nat):Int)<4000 by omega),qK,b7];obtain ⟨b,g,d⟩:=ar8 hb (n:=n+dM (a.2.2.2.take i)) (by omega);exact .inl ⟨b,g,λc=>absurd (d c).1 h⟩
  .have f:n+dM a.2.2.2<=20000000:=by
    cases j:a.2.2.2.length with
    |zero=>rw [List.length_eq_zero_iff.1 j];simp [dM];omega
    |succ i=>
     have:=hp i (by omega);have d:=hb.c1 _ (c9 (l:=a.2.2.2) (n:=i) (by omega));have q:=rR (l:=a.2.2.2) (i:=i) (by omega);rw [<-j,qx] at q;omega
   unfold js;simp only [So.aK];rw [cy (show ¬(a.2.2.2.length:Int)<(a.2.2.2.length:Int) by omega),lk,b7,qx];obtain ⟨b,g,d⟩:=ar8 hb (n:=n+dM a.2.2.2) (by omega);exact ⟨b,g,λc=>⟨by have:=(d c).1;omega,by have:=(d c).1;omega,(d c).2⟩⟩
 refine nH (F:=mA a 40) (λi:Nat=>(((a.2.2.1.length+a.2.2.2.length+dM (a.2.1.take i):Nat)),(i))) (λi=>a.2.2.1.length+a.2.2.2.length+dM (a.2.1.take i)<4000) _ a.2.1.length (by omega) (λi hi hp k=>?_) (λhp k=>?_)
 .have f:a.2.2.1.length+a.2.2.2.length+dM (a.2.1.take i)<=4000000:=by
   cases i with
   |zero=>simp [dM];omega
   |succ i=>
    have:=hp i (by omega);have d:=hb.n1 _ (c9 (n:=i) (by omega));rw [rR (by omega)];omega
  unfold mA;simp [So.aK];rw [cb (by omega)];by_cases h:a.2.2.1.length+a.2.2.2.length+dM (a.2.1.take i)<4000
  .rw [cb (by omega),Bool.and_true,ca,bG hi,So.ah,Pa.bP (by omega)];have d:=hb.n1 _ (c9 hi);refine .inr ⟨h,?_⟩;rw [rR hi,bB (by omega)];congr 2;omega
  .rw [cy (by omega),qK,b7];obtain ⟨b,g,d⟩:=two _ (by omega:a.2.2.1.length+a.2.2.2.length+dM (a.2.1.take i)<=10000000);exact .inl ⟨b,g,λc=>absurd (d c).1 h⟩
 .have f:a.2.2.1.length+a.2.2.2.length+dM a.2.1<=4000000:=by
   cases j:a.2.1.length with
   |zero=>grind
   |succ i=>
    have d:=hb.n1 _ (c9 (n:=i) (by omega));grind [rR,List.take_length]
  unfold mA;simp only [So.aK];rw [cy (by omega),lk,b7,qx];obtain ⟨b,g,d⟩:=two _ (by omega:a.2.2.1.length+a.2.2.2.length+dM a.2.1<=10000000);exact ⟨b,g,λc=>⟨by grind,(d c).2.1,by grind,(d c).2.2⟩⟩
theorem amn{a:Au}(hb:Qc a)(b:Int):Be (∀l∈a.1,∀e∈l,fv b e=true) (vP a b):=by
 have d:=hb.l0;refine nH (F:=mn a b) (λi=>(i)) (λi=>∀l,a.1[i]? =some l->∀e∈l,fv b e=true) _ a.1.length (by omega) (λi hi _ k=>?_) (λh k=>?_)
 .unfold mn;rw [cb (by omega),ca];have hx:=hb.l1 _ (c9 hi);refine nH (F:=mI a b (i) k) (λj=>(j)) (λj=>∀e,a.1[i][j]? =some e->fv b e=true) (λx=>Be _ x\/_/\x=k ((i+1:Nat))) a.1[i].length (by omega) (λj f _ c=>?_) (λh c=>?_)
  .unfold mI;rw [bG hi,So.ah,cb (by omega),ca,So.ah,bG f,So.ah,asr _ (by grind),So.ah];grind [fv,ui,List.getElem?_eq_getElem,Pa.bP]
  .unfold mI;rw [bG hi,So.ah,cy (by omega),b7,Pa.bP (by omega)];grind [List.getElem?_eq_getElem,List.mem_iff_getElem?,List.getElem?_eq_some_iff]
 .unfold mn;rw [cy (by omega),b7];exact ⟨true,rfl,λ_ l hl=>by grind [List.mem_iff_getElem?,List.getElem?_eq_some_iff]⟩
theorem alx{m:bk}(hS:m.2.1.length<=1048576)(e:∀f∈m.2.1,0<=f.2-f.1/\f.2-f.1<=100000000/\ -2000000000<=f.1/\f.2<=2000000000):∃b,fC m 200=some b:=by
 have key:∀(d i M:Nat) (n:Int),i+d=m.2.1.length->d<M->0<=n->n<=100000000000->∃b,aj (cn m 200) M (n,(i))=some b:=λd=>by
  induction d with
  |zero=>
   intro i M n j h c g;obtain ⟨M,rfl⟩:∃q,M=q+1:=⟨M-1,by omega⟩;rw [ao];unfold cn;simp only [So.aK];rw [cy (by omega),lk,b7];exact ⟨_,rfl⟩
  |succ d ih=>
   intro i M n j h c g;obtain ⟨M,rfl⟩:∃q,M=q+1:=⟨M-1,by omega⟩;have hi:i<m.2.1.length:=by omega
   have o:=e _ (c9 hi);have a:=λn=>ih (i+1) M n (by omega) (by omega);rw [ao];generalize aj (cn m 200) M=k at a ⊢;unfold cn;simp only [So.aK];rw [cb (by omega),fj];by_cases hn:n<=200
   .rw [cb hn,ca,bG hi,So.ah,So.ah,Pa.bP (by omega)];have l:IntKind.i64.wrap (IntKind.i64.wrap (m.2.1[i].2-m.2.1[i].1)+1)=m.2.1[i].2-m.2.1[i].1+1:=by grind [bB]
    have r:0<=n*(m.2.1[i].2-m.2.1[i].1+1):=Int.mul_nonneg c (by omega);have p:n*(m.2.1[i].2-m.2.1[i].1+1)<=200*100000001:=Int.mul_le_mul hn (by omega) (by omega) (by omega);rw [l,bB (by omega)];grind
   grind
 exact key m.2.1.length 0 an 1 (by omega) (by show m.2.1.length<2^64;omega) (by omega) (by omega)
end Ns
namespace Ns
open Sp
structure jI(m:bk)(a:Au):Prop where
 hm:GQ m.2.1 m.2.2.2.2
 hi:sH m.2.1 m.2.2.1
 ha:Pd.vx a a.1.length
 lit:∀l∈a.1,∀e∈l,fv (m.1.length:Int) e=true/\(rt e).1=2/\e.sz<1000000
 df:Zz a
variable {m : bk} {a : Au}
theorem asz(h:jI m a){q:Int}(g:0<=q/\q<(a.1.length:Int))(v:V):tW a q v=some (Pd.oP a q v):=by
 obtain ⟨i,rfl⟩:∃i:Nat,q=(i):=⟨q.toNat,by omega⟩;have hi:i<a.1.length:=by omega
 have hl:=(h.ha.row _ (c9 hi)).1;have c:Pd.oP a (i) v=a.1[i].all λe=>ev v e==1:=by grind [Pd.oP,Pd.aao]
 rw [c];refine nH (F:=ll a (i) v) (λj=>(j)) (λj=>∀e,a.1[i][j]? =some e->ev v e=1) (λx=>x=some (a.1[i].all λe=>ev v e==1)) a.1[i].length (by omega) (λj b _ k=>?_) (λl k=>?_)
 .unfold ll;obtain ⟨f,d,o⟩:=h.lit _ (c9 hi) _ (c9 b);rw [bG hi,So.ah,cb (by omega),ca,So.ah,bG b,So.ah,RA v _ (by omega) f (.inr d),So.ah];by_cases n:ev v a.1[i][j]=1
  .grind [List.getElem?_eq_getElem,Pa.bP]
  grind
 .unfold ll;rw [bG hi,So.ah,cy (by omega),b7];grind [List.all_eq_true,List.mem_iff_getElem?,List.getElem?_eq_some_iff]
theorem ah1(v:V)(p q:zl):Pd.dS a v (p++q)=Pd.dS a v p++Pd.dS a v q:=by simp [Pd.dS]
theorem ov{A R:Type}{d:A}{x:Option A}{f:A->Option R}:bm true d x f=x.bind f:=rfl
theorem DT{A R:Type}{d:A}{x:Option A}{b:A->Bool}{p q:Option R}:(bm false d x λr=>ai (b r) λc=>ai (false&&c) λe=>bif e then p else q)=q:=rfl
theorem aoB(h:jI m a){v:V}(p:v.length<1000000){qs:zl}(n:∀q∈qs,0<=q/\q<(a.1.length:Int))(j:qs.length<=5000){l:List V}(hl:l.length<=20000000)(g:∀w∈l,w.length<2000000):
  mF l a v qs=some (dm l (Pd.dS a v qs)):=by
 have c:∀i,(dm l (Pd.dS a v (qs.take i))).length<=l.length+i:=λi=>by grind [sb,Pd.dS,Pd.GC]
 have e:∀i,∀w∈dm l (Pd.dS a v (qs.take i)),w.length<2000000:=λi w b=>by
  rcases nt.1 b with d|d
  .exact g w d
  .obtain ⟨q,_,_,rfl⟩:=Pd.GO d;simp;omega
 refine nH (F:=kb a v qs) (λi=>(dm l (Pd.dS a v (qs.take i)),(i))) (λ_=>True) (λx=>x=some (dm l (Pd.dS a v qs))) qs.length (by omega) (λi hi _ k=> .inr ⟨trivial,?_⟩) (λ_ k=>?_)
 .unfold kb;dsimp only;have d:=c i;rw [cb (by omega),ca,bG hi,So.ah,Sy.aO (Sy.cC (by simp;omega) (by simp;omega)),Sy.aO (Sy.cC (by simp;omega) (by simp;omega)),So.ah,asz h (n _ (c9 hi)),So.ah,p5,Pa.bP (by omega)];rw [show qs.take (i+1)=qs.take i++[qs[i]] from n4 hi,ah1,Pd.JW];cases f:Pd.oP a qs[i] v with
  |false=>
   have:Pd.dS a v [qs[i]]=[]:=by simp [Pd.dS,f]
   rw [this,show dm (dm l (Pd.dS a v (qs.take i))) []=dm l (Pd.dS a v (qs.take i)) from rfl];rw [DT]
  |true=>
   have o:Pd.dS a v [qs[i]]=[v++[qs[i]]]:=by simp [Pd.dS,f]
   rw [o];rw [ov,xj _ _ (by omega) (λw b=>by grind),So.ah];simp only [So.aK,fj];have hd:dm (dm l (Pd.dS a v (qs.take i))) [v++[qs[i]]]=iy (dm l (Pd.dS a v (qs.take i))) (v++[qs[i]]):=rfl;rw [hd];by_cases hp:vm (v++[qs[i]]) 0 (dm l (Pd.dS a v (qs.take i)))<0
   .rw [cb hp,ca,Ea.1 hp,Sy.aO (Sy.cC (by simp;omega) (by simp;omega))]
   .rw [cy hp,b7,Ea.2 hp]
 simp_all [kb,b7]
theorem Na(h:jI m a){v:V}(b:sH m.2.1 v):v.length<1000000:=by have d:=b.len;have c:=h.hm.df;omega
theorem arv(h:jI m a):lf m a=some (xn m a):=by unfold lf;have:=h.ha.init;rw [aoB h (Na h h.hi) this.2 this.1 (by simp) (λw b=>by cases b)];rfl
theorem Vi(h:jI m a){x:V}(hx:Pd.St m a.1.length x):x.length<1000001:=by obtain ⟨v,q,rfl,b,_⟩:=hx;grind [Na]
theorem aiC(h:jI m a){x:V}(hx:Pd.St m a.1.length x):ja m a x=some (Pd.bR m a x):=by
 obtain ⟨v,q,rfl,g,A⟩:=hx;rw [Pd.KD];have s:=Na h g;unfold ja Pd.Hk;have r:IntKind.i64.wrap ((List.length (v++[q]))-1)=(v.length):=by grind [bB]
 have y:aV (v++[q]) 0 (v.length)=v:=by unfold aV;simp
 rw [r,Sy.aO (by grind [db]),y,alF h.hm g,So.ah];have o:=Oi (S:=m.2.1) (cmds:=m.2.2.2.2) v;have t:=h.hm.cmds;by_cases n:(fa m.2.1 m.2.2.2.2 v).2=0
 .rw [du n,show ((fa m.2.1 m.2.2.2.2 v).2 != 0)=false by simp [n],b7];obtain ⟨i,rfl⟩:∃i:Nat,q=(i):=⟨q.toNat,by omega⟩;have hi:i<a.2.1.length:=by have:=h.ha.next;omega
  have l:Pd.wy a (i)=a.2.1[i]:=by grind [Pd.wy]
  have c:=h.ha.nxt _ (c9 hi);have f:∀w∈(fa m.2.1 m.2.2.2.2 v).1,w.length<1000000:=λw b=>Na h (Rv g w b);have d:∀j,j<=(fa m.2.1 m.2.2.2.2 v).1.length->(dm [] (Pd.wC a a.2.1[i] ((fa m.2.1 m.2.2.2.2 v).1.take j))).length<=5000*j:=λj e=>by grind [sb,Pd.wC,fa,Pd.N8,min]
  rw [l];refine nH (F:=lA a (v++[(i:Int)]) (fa m.2.1 m.2.2.2.2 v)) (λj=>(dm [] (Pd.wC a a.2.1[i] ((fa m.2.1 m.2.2.2.2 v).1.take j)),(j))) (λ_=>True) (λx=>x=some (dm [] (Pd.wC a a.2.1[i] (fa m.2.1 m.2.2.2.2 v).1),0)) (fa m.2.1 m.2.2.2.2 v).1.length (by omega) (λj e _ k=> .inr ⟨trivial,?_⟩) (λ_ k=>?_)
  .unfold lA;dsimp only;have e3:idx (v++[(i:Int)]) (v.length)=some (i:Int):=by grind [bG]
   rw [cb (by omega),ca,bG e,So.ah,r,e3,So.ah,bG hi,So.ah];have B:=d j (by omega);rw [aoB h (f _ (c9 e)) c.2 c.1 (by omega) (λw b=>?_),So.ah,Pa.bP (by omega),show (fa m.2.1 m.2.2.2.2 v).1.take (j+1)=(fa m.2.1 m.2.2.2.2 v).1.take j++[(fa m.2.1 m.2.2.2.2 v).1[j]] from n4 e]
   .grind [Pd.wC,Pd.JW]
   .rcases nt.1 b with b|b
    .cases b
    .obtain ⟨u,z,b⟩:=List.mem_flatMap.1 b;obtain ⟨p,_,_,rfl⟩:=Pd.GO b;grind
  simp_all [lA,b7]
 grind
end Ns
namespace Ns
open Sp
variable {m : bk} {a : Au}
structure amp(m:bk)(a:Au)(Us:List V):Prop where
 st:∀x∈Us,Pd.St m a.1.length x
 xn:∀x∈xn m a,x∈Us
 code:∀x∈Us,(Pd.bR m a x).2=0
 next:∀x∈Us,∀y∈(Pd.bR m a x).1,y∈Us
theorem Uw(h:jI m a):∀x∈xn m a,Pd.St m a.1.length x:=λx hx=>by
 rcases nt.1 hx with hx|hx
 .cases hx
 .obtain ⟨q,b,_,rfl⟩:=Pd.GO hx;exact ⟨_,q,rfl,h.hi,h.ha.init.2 q b⟩
theorem Wn(h:jI m a):(xn m a).length<=5000:=by have d:=sb (Pd.dS a m.2.2.1 a.2.2.1) [];have c:=Pd.GC (a:=a) (v:=m.2.2.1) (qs:=a.2.2.1);have b:=h.ha.init.1;grind [xn]
def afi(m:bk)(a:Au)(most:Nat)(x:Option (List V×Int)):Prop:= ∃r,x=some r/\(r.2=0->r.1.length<=most/\amp m a r.1)
theorem apo(h:jI m a){most:Nat}(u:most<=1000):afi m a most (nG m a (most:Int)):=by
 unfold nG;rw [arv h,So.ah];have key:∀(d i M:Nat) (l:List V),i+d=most+1->d<M->l.length<=10000000->i<=l.length->(∀x∈l,Pd.St m a.1.length x)->(∀x∈xn m a,x∈l)->(∀x∈l.take i,(Pd.bR m a x).2=0/\∀y∈(Pd.bR m a x).1,y∈l)->
   afi m a most (aj (iw m a (most:Int)) M (l,(i:Int))):=λd=>by
  induction d with
  |zero=>
   intro i M l J I H G f z g;obtain ⟨M,rfl⟩:∃q,M=q+1:=⟨M-1,by omega⟩;rw [ao];generalize aj _ M=k;unfold iw;dsimp only;rw [cb (show (most:Int)<(l.length:Int) by omega)];refine ⟨([],7),?_,λp=>by cases p⟩;cases decide ((i:Int)<(l.length:Int)) <;> rfl
  |succ d ih=>
   intro i M l J I H G f z g;obtain ⟨M,rfl⟩:∃q,M=q+1:=⟨M-1,by omega⟩;have n:=λl=>ih (i+1) M l (by omega) (by omega);rw [ao];generalize aj (iw m a (most:Int)) M=k at n ⊢;unfold iw;dsimp only;by_cases C:most<l.length
   .rw [cb (show (most:Int)<(l.length:Int) by omega)];refine ⟨([],7),?_,λp=>by cases p⟩;cases decide ((i:Int)<(l.length)) <;> rfl
   .rw [cy (show ¬(most:Int)<(l.length) by omega)];by_cases hi:i<l.length
    .rw [cb (by omega),ca,b7,bG hi,So.ah,aiC h (f _ (c9 hi)),So.ah];by_cases r:(Pd.bR m a l[i]).2=0
     .rw [show ((Pd.bR m a l[i]).2 != 0)=false by simp [r],b7];have B:=Pd.G2 h.hm.toSafeS h.ha (f _ (c9 hi));have c:=Pd.QU h.ha (f _ (c9 hi));have v:aj (iC (i) k (Pd.bR m a l[i])) an (l,0)=k (dm l (Pd.bR m a l[i]).1,((i+1:Nat))):=by
       refine nH (F:=iC (i) k (Pd.bR m a l[i])) (λj=>(dm l ((Pd.bR m a l[i]).1.take j),(j))) (λ_=>True) (λx=>x=k (dm l (Pd.bR m a l[i]).1,((i+1:Nat)))) (Pd.bR m a l[i]).1.length (by omega) (λj A _ D=> .inr ⟨trivial,?_⟩) (λ_ D=>?_)
       .have e:=sb ((Pd.bR m a l[i]).1.take j) l;simp at e;unfold iC;dsimp only;rw [cb (by omega),ca,bG A,So.ah,xj _ _ (by omega) (λw o=>by
         rcases nt.1 o with o|o
         .have:=Vi h (f w o);omega
         .have:=Vi h (c w (qX o));omega),So.ah,Pa.bP (by omega),So.ah]
        rw [show (Pd.bR m a l[i]).1.take (j+1)=(Pd.bR m a l[i]).1.take j++[(Pd.bR m a l[i]).1[j]] from n4 A,Pd.JW];rw [show dm (dm l ((Pd.bR m a l[i]).1.take j)) [(Pd.bR m a l[i]).1[j]]=iy (dm l ((Pd.bR m a l[i]).1.take j)) (Pd.bR m a l[i]).1[j] from rfl];by_cases hp:vm (Pd.bR m a l[i]).1[j] 0 (dm l ((Pd.bR m a l[i]).1.take j))<0
        .rw [cb hp,ca,Ea.1 hp,Sy.aO (Sy.cC (by simp;omega) (by simp;omega))]
        .rw [cy hp,b7,Ea.2 hp]
       .unfold iC;dsimp only;rw [cy (by omega),b7,qx,Pa.bP (by omega)]
      rw [v];have b:∀x∈l,x∈dm l (Pd.bR m a l[i]).1:=λx hx=>nt.2 (.inl hx);have e:=sb (Pd.bR m a l[i]).1 l;refine n _ (by omega) ?_ (λx hx=>?_) (λx hx=>b x (z x hx)) (λx hx=>?_)
      .have:=(Sn (Pd.bR m a l[i]).1 l).length_le;omega
      .rcases nt.1 hx with hx|hx
       .exact f x hx
       .exact c x hx
      .have t:(dm l (Pd.bR m a l[i]).1).take (i+1)=l.take i++[l[i]]:=by obtain ⟨q,E⟩:=Sn (Pd.bR m a l[i]).1 l;rw [<-E,List.take_append_of_le_length (by omega),n4 hi]
       rw [t] at hx;rcases List.mem_append.1 hx with hx|hx
       .exact ⟨(g x hx).1,λy s=>b y ((g x hx).2 y s)⟩
       .rw [List.mem_singleton.1 hx];exact ⟨r,λy s=>nt.2 (.inr s)⟩
     .rw [show ((Pd.bR m a l[i]).2 != 0)=true by simpa using r,ca];exact ⟨_,rfl,λp=>absurd p r⟩
    .rw [cy (by omega),b7,b7];rw [fb (by omega)] at g;exact ⟨_,rfl,λ_=>⟨by grind,f,z,λx hx=>(g x hx).1,λx hx=>(g x hx).2⟩⟩
 have hl:=Wn h;exact key (most+1) 0 an (xn m a) (by omega) (by show most+1<2^64;omega) (by omega) (by omega) (Uw h) (λ_ h=>h) (λx hx=>by simp at hx)
def CX(S:List So.Fd)(cap:Int)(Us W G:List V)(t:St):Prop:=
 (∃(L:List V) (g:So.Gf),So.OkS t S cap L g/\L.Nodup/\(∀x∈L,x∈Us)/\(∀x∈W,x∈L)/\∀x∈G,g true x=true)\/
 (∃(M K:Nat) (seed:Int) (p0 p1 p2:Nat->Bool),So.OkL t S M K seed p0 p1 p2/\(∀x∈W,So.ahl S x seed K M p0=true)/\∀x∈G,(So.X9 S x seed K M).all p2=true)
structure OY(S:List So.Fd)(Us:List V):Prop where
 right:So.ka S
 mem:∀x∈Us,So.In S x/\x.length<100000000
theorem Rr{p:Nat->Bool}{l:zm}(q:zm)(h:l.all p=true):l.all (So.xK p q)=true:=by simp_all [So.xK]
theorem V7(p:Nat->Bool)(l:zm):l.all (So.xK p l)=true:=by simp_all [So.xK,List.contains_iff_mem]
theorem akm{S:List So.Fd}{Us:List V}(hS:OY S Us){cap:Int}{Bd:Er->Prop}(h:cap<(Us.length:Int)->Bd (.inl (7,[])))(W G:List V)(t:St)(x:V)(ht:CX S cap Us W G t)(hx:x∈Us):
  (∃e,GW t x=some (.error e)/\Bd (.inl e))\/(∃t',GW t x=some (.ok (false,t'))/\CX S cap Us (x::W) G t')\/(∃t',GW t x=some (.ok (true,t'))/\CX S cap Us (x::W) G t'/\x∉W):=by
 obtain ⟨f,hl⟩:=hS.mem x hx;have l:=So.sF.2 f;unfold GW;rcases ht with ⟨L,g,i,n,p,d,c⟩|⟨M,K,seed,p0,p1,p2,i,d,c⟩
 .obtain ⟨t',j,a,_⟩:=So.asd hS.right i x hl;rw [j,So.ah];unfold So.Wz at a ⊢;rw [du l] at a ⊢;unfold So.yC at a ⊢;by_cases hm:x∈L
  .rw [du hm] at a ⊢;exact .inr (.inl ⟨t',rfl,.inl ⟨L,g,a,n,p,λz b=>by
    grind,c⟩⟩)
  .rw [dk hm] at a ⊢;by_cases o:cap<=(L.length)
   .have:=Df.Je (List.nodup_cons.2 ⟨hm,n⟩) (m:=Us) (λz b=>by grind)
    grind
   .rw [dk o] at a ⊢;refine .inr (.inr ⟨t',rfl,.inl ⟨_,g,a,?_,λz b=>?_,λz b=>?_,c⟩,λk=>hm (d x k)⟩)
    .grind
    .grind
    grind
 .obtain ⟨t',j,a⟩:=So.aqE (So.ka.fds hS.right) i x hl;rw [j,So.ah];rw [du l] at a ⊢;cases hm:So.ahl S x seed K M p0 with
  |true=>
   refine .inr (.inl ⟨t',rfl,.inr ⟨M,K,seed,_,p1,p2,a,λz b=>?_,c⟩⟩);rcases List.mem_cons.1 b with rfl|b
   .exact V7 _ _
   .exact Rr _ (d z b)
  |false=>
   refine .inr (.inr ⟨t',rfl,.inr ⟨M,K,seed,_,p1,p2,a,λz b=>?_,c⟩,λk=>by grind⟩);rcases List.mem_cons.1 b with rfl|b
   .exact V7 _ _
   .exact Rr _ (d z b)
theorem ara{S:List So.Fd}{Us:List V}(hS:OY S Us){cap:Int}{Bd:Er->Prop}(f:cap<(Us.length:Int)->Bd (.inl (7,[])))(W G:List V)(t:St)(x:V)(ht:CX S cap Us W G t)(hx:x∈Us):
  (∃e,L6 t x=some (.error e)/\Bd (.inl e))\/(∃t',L6 t x=some (.ok (false,t'))/\CX S cap Us W G t')\/(∃t',L6 t x=some (.ok (true,t'))/\CX S cap Us W (x::G) t'/\x∉G):=by
 obtain ⟨l,hl⟩:=hS.mem x hx;have s:=So.sF.2 l;have key:∀{t':St} {b:Bool},GW t x=some (.ok (b,t'))->CX S cap Us (x::W) G t'->(∃t'',L6 t x=some (.ok (false,t''))/\CX S cap Us W G t'')\/(∃t'',L6 t x=some (.ok (true,t''))/\CX S cap Us W (x::G) t''/\x∉G):=λ{t' b} r q=>by
  unfold L6;rw [r];show ((∃t'',(dR t' x 1).bind _=_/\_))\/(∃t'',(dR t' x 1).bind _=_/\_);rcases q with ⟨L,g,d,h,p,i,k⟩|⟨M,K,seed,p0,p1,p2,d,i,k⟩
  .have a:So.GS S L x 1=0:=by unfold So.GS So.gP;rw [du s,dk (by omega),du (i x (c8 ..))]
   rw [So.arW hS.right d x hl 1,So.ah];obtain ⟨t2,n,j,_⟩:=So.aqI hS.right d x hl 1;unfold So.amF;unfold So.alQ at j;rw [du a] at j ⊢;cases m:g ((1:Int)==1) x with
   |true=>exact .inl ⟨t',rfl,.inl ⟨L,g,d,h,p,λz c=>i z (cp _ c),k⟩⟩
   |false=>
    rw [b7,n,So.ah];refine .inr ⟨t2,rfl,.inl ⟨L,_,j,h,p,λz c=>i z (cp _ c),λz c=>?_⟩,λo=>by have:=k x o;rw [show ((1:Int)==1)=true from rfl,this] at m;cases m⟩;unfold So.mM;rcases List.mem_cons.1 c with rfl|c
    .simp
    .rw [k z c,v7]
  .have a:So.DE S x seed K M p0 1=0:=by simp_all [So.DE,So.AM,So.ahl,So.X9]
   rw [So.ap7 (So.ka.fds hS.right) d x hl 1,So.ah];obtain ⟨t2,n,j⟩:=So.ao8 (So.ka.fds hS.right) d x hl 1;rw [du a,du rfl];rw [dk (by omega),du ⟨a,rfl⟩] at j;cases m:(So.X9 S x seed K M).all p2 with
   |true=>exact .inl ⟨t',rfl,.inr ⟨M,K,seed,p0,p1,p2,d,λz c=>i z (cp _ c),k⟩⟩
   |false=>
    rw [b7,n,So.ah];refine .inr ⟨t2,rfl,.inr ⟨M,K,seed,p0,p1,_,j,λz c=>i z (cp _ c),λz c=>?_⟩,λo=>by grind⟩;rcases List.mem_cons.1 c with rfl|c
    .exact V7 _ _
    grind [Rr]
 rcases akm hS f W G t x ht hx with ⟨e,d,h⟩|⟨t',d,h⟩|⟨t',d,h,_⟩
 .refine .inl ⟨e,?_,h⟩;unfold L6;rw [d];rfl
 .exact .inr (key d h)
 grind
end Ns
namespace Ns
open Sp
variable {m : bk} {a : Au} {Us : List V} {Bd : Er -> Prop} {cap most : Int}
structure Ends(m:bk)(a:Au)(Us:List V)(cap most:Int)(Bd:Er->Prop):Prop where
 st:∀x∈Us,Pd.St m a.1.length x
 next:∀x∈Us,(Pd.bR m a x).2=0->∀y∈(Pd.bR m a x).1,y∈Us
 full:cap<(Us.length:Int)->Bd (.inl (7,[]))
 stack:most<(Us.length:Int)->Bd (.inl (8,[]))
 code:∀x∈Us,(Pd.bR m a x).2≠0->Bd (.inl ((Pd.bR m a x).2,x.dropLast))
 found:∀p:List V×List V,(∀x∈p.1,x∈Us)->(∀x∈p.2,x∈Us)->p.2≠[]->p.1.length<=Us.length->p.2.length<=Us.length->Bd (.inr p)
theorem D8(h:jI m a)(b:Ends m a Us cap most Bd):akr Us 2000000 Bd (xD m a most):=λn y d hn=>by
 unfold xD;by_cases e:most<=(n)
 .rw [du e];exact .inl ⟨_,rfl,b.stack (by omega)⟩
 .rw [dk e];by_cases c:(Pd.bR m a y).2=0
  .rw [du c];exact .inr ⟨_,rfl,b.next y d c,Pd.G2 h.hm.toSafeS h.ha (b.st y d)⟩
  .rw [dk c];exact .inl ⟨_,rfl,b.code y d c⟩
theorem ab1{x:V}(hx:x∈Us){l:List V}(hl:∀z∈l,z∈Us):DK Us [(x,l)]:=
 ⟨λf a=>by grind,λf a=>by grind,by simp⟩
theorem aet{K:List V}{x:V}{l:List V}(a:Us.length<=1000000)(hl:l.length<=2000000):mu Us K*(2000000+2)+wt [(x,l)]<an:=by have b:=arY (Us:=Us) (K:=K);show _<2^64;simp [wt,e9,List.map_nil,List.sum_cons,List.sum_nil];omega
theorem akj(h:jI m a){S:List So.Fd}(hS:OY S Us)(j:Ends m a Us cap most Bd)(D:Us.length<=1000000){W:List V}{t:St}(ht:CX S cap Us W [] t){s:lW}(k:DK Us s)(n:s≠[]):
  S4 (λK t=>CX S cap Us K [] t) Bd W (inn m a most an t s):=by
 match s,n with
 |(x,l)::r,_=>
  have hx:=k.st _ (c8 ..);unfold inn;dsimp only;cases meet a x with
  |false=>exact .inr ⟨W,t,rfl,ht,λ_ h=>h⟩
  |true=>
   unfold allI;rcases D8 h j 0 x hx (List.length_pos_of_mem hx) with ⟨e,q,p⟩|⟨l',q,p,E⟩
   .simp [q];exact .inl ⟨_,rfl,p⟩
   .simp only [q];have C:=MX (nw:=L6) (se:=seI x ((x,l)::r).reverse) (bot:=some x)
     (λK t y hi A=>by
      rcases ara hS j.full W K t y hi A with ⟨e,d,c⟩|⟨t',d,c⟩|⟨t',d,c,H⟩
      .grind
      .grind
      grind)
     (λy w e A B hn i=>by
      unfold seI at i;split at i
      .cases i;refine j.found _ (λz b=>?_) (λz b=>?_) (by simpa using hn) (by have:=k.df;simp at this ⊢; omega) (by have:=B.df;simpa using this)
       .obtain ⟨f,o,rfl⟩:=List.mem_map.1 b;exact k.st f (List.mem_reverse.1 ((List.dropLast_sublist _).subset o))
       .obtain ⟨f,o,rfl⟩:=List.mem_map.1 b;exact B.st f (List.mem_reverse.1 o)
      .cases i)
     (λy w i I=>by grind [seI,Option.some.inj])
     (λK t w hi _ _=> .inr ⟨K,t,rfl,hi,λ_ h=>h⟩)
     (D8 h j) an t [(x,l')] [] ht (ab1 hx p) (λz b=>by grind) (aet D E)
    rcases C with ⟨e,d,c⟩|⟨J,t',d,c,_⟩
    .exact .inl ⟨e,d,c⟩
    .refine .inr ⟨W,t',d,c.imp (λ⟨L,g,v,G,F,u,_⟩=>⟨L,g,v,G,F,u,λz b=>by cases b⟩) (λ⟨M,K,s,p0,p1,p2,v,u,_⟩=>⟨M,K,s,p0,p1,p2,v,u,λz b=>by cases b⟩),λ_ h=>h⟩
theorem UI{S:List So.Fd}(hS:OY S Us)(f:Ends m a Us cap most Bd):an7 Us (λK t=>CX S cap Us K [] t) Bd GW:=λK t y hi d=>by
 rcases akm hS f.full K [] t y hi d with ⟨e,c,b⟩|⟨t',c,b⟩|⟨t',c,b,g⟩
 .grind
 .grind
 grind
theorem aki(h:jI m a){S:List So.Fd}(hS:OY S Us)(b:Ends m a Us cap most Bd)(l:Us.length<=1000000):∀(L:List V),(∀x∈L,x∈Us)->∀(W:List V) (t:St),CX S cap Us W [] t->S4 (λK t=>CX S cap Us K [] t) Bd W (ol m a most L t)
 |[],_,W,t,ht=> .inr ⟨W,t,rfl,ht,λ_ h=>h⟩
 |x::r,hL,W,t,ht=>by
  have hx:=hL x (c8 ..);have ih:=λG t' k=>aki h hS b l r (λy w=>hL y (cp _ w)) G t' k;unfold ol;rcases UI hS b W t x ht hx with ⟨e,d,c⟩|⟨g,t',d,c,j⟩|⟨g,t',d,c,j,J,I⟩
  .rw [d];exact .inl ⟨_,rfl,c⟩
  .rw [d];rcases ih g t' c with ⟨e,r1,r2⟩|⟨u,t2,r1,r2,i⟩
   .exact .inl ⟨e,r1,r2⟩
   .exact .inr ⟨u,t2,r1,r2,λz f=>i z (j z f)⟩
  .rw [d];rcases D8 h b 0 x hx (List.length_pos_of_mem hx) with ⟨e,o,n⟩|⟨l',o,n,E⟩
   .simp [o];exact .inl ⟨_,rfl,n⟩
   .simp [o];have A:S4 (λK t=>CX S cap Us K [] t) Bd g (wkO m a most an t' [(x,l')]):=MX (bot:=none)
     (UI hS b) (λ_ _ _ _ _ _ C=>by cases C) (λ_ _ _ D=>by cases D) (λK t s hi B hn=>akj h hS b l hi B hn) (D8 h b) an t' [(x,l')] g c (ab1 hx n) (λz f=>by grind) (aet l E)
    rcases A with ⟨e,q,p⟩|⟨u,t2,q,p,F⟩
    .rw [q];exact .inl ⟨e,rfl,p⟩
    .rw [q];rcases ih u t2 p with ⟨e,r1,r2⟩|⟨H,v,r1,r2,i⟩
     .exact .inl ⟨e,r1,r2⟩
     .exact .inr ⟨H,v,r1,r2,λz f=>i z (F z (j z f))⟩
end Ns
namespace Ns
open Sp
theorem apf:tu=some true:=by kernel_rfl
theorem aqg{m:bk}{a:Au}(f:Sy.Wf m)(hb:Qc a)(d:(∀q∈a.2.2.1,0<=q/\q<(a.1.length:Int))/\a.2.1.length=a.1.length/\(∀l∈a.2.1,∀q∈l,0<=q/\q<(a.1.length:Int))/\(∀l∈a.1,∀e∈l,(rt e).1=2))
  (j:dM a.2.1<4000/\dM a.2.2.2<4000/\a.2.2.1.length<4000/\dM a.1<4000/\(∀l∈a.1,∀e∈l,cE e=some true)/\a.1.length<=40)
  (i:∀l∈a.1,∀e∈l,fv (m.1.length:Int) e=true) (h:a.2.2.2.length=1):jI m a:=by
 have c:∀l∈a.1,∀e∈l,e.sz<1000000:=λl hl e b=>by have:=(ajh (by have:=(hb.l1 l hl).2 e b;omega) (j.2.2.2.2.1 l hl e b)).2;omega
 refine ⟨aqa f,ao0 f,⟨rfl,d.2.1,by omega,λl hl=>⟨by have:=La hl;omega,c l hl⟩,⟨by omega,d.1⟩,λl hl=>⟨by have:=La hl;omega,d.2.2.1 l hl⟩⟩,λl hl e b=>⟨i l hl e b,d.2.2.2 l hl e b,c l hl e b⟩,⟨?_⟩⟩;cases g:a.2.2.2 with
 |nil=>rw [g] at h;cases h
 |cons A r=>exact ⟨A,r,rfl,by have:=La (l:=a.2.2.2) (x:=A) (by rw [g];simp);omega⟩
theorem abx{m:bk}{a:Au}(hb:Qc a):Be (Sy.Wf m->jI m a) (mC m a):=by
 unfold mC;obtain ⟨i,h,f⟩:=arP hb;rw [h,So.ah];cases i with
 |false=>exact ui
 |true=>
  obtain ⟨k,g,e⟩:=anD hb;obtain ⟨j,e3,d⟩:=amn hb (m.1.length:Int);rw [g,So.ah,e3,So.ah];refine ⟨_,rfl,λb c=>?_⟩;simp only [au,n6] at b;exact aqg c hb (e b.1.1) (f rfl) (d b.1.2) (by have:=b.2;omega)
theorem aiY(text:aE){a:Au}(hb:Qc a):∃q,gK text a=some q/\(q.2=true->jI q.1 a/\a.1.length<=12):=by
 unfold gK;obtain ⟨q,h,g⟩:=abg text;rw [h,So.ah];cases e:q.2 with
 |false=>exact ⟨(q.1,false),rfl,λc=>by cases c⟩
 |true=>
  have b:=g e;obtain ⟨n,k,i⟩:=abx (m:=q.1) hb;rw [ov,k,So.ah];simp only [So.aK,fj];cases n with
  |false=>exact ⟨(q.1,false),rfl,λc=>by cases c⟩
  |true=>
   by_cases hl:a.1.length<=12
   .rw [cb (show (a.1.length:Int)<=12 by omega)];obtain ⟨l,j⟩:=alx (m:=q.1) (by have:=b.names;have:=b.schema;omega) (λf d=>by have:=b.fields f d;have:=this.le;have:=b.fields f d;have:=this.lo;have:=b.fields f d;have:=this.hi;have:=b.fields f d;have:=this.wide;omega);show ∃q',bm true _ _ _=_/\_;rw [ov,j,So.ah];exact ⟨(q.1,l),rfl,λ_=>⟨i rfl b,hl⟩⟩
   .rw [cy (show ¬(a.1.length:Int)<=12 by omega)];exact ⟨(q.1,false),rfl,λc=>by cases c⟩
abbrev xk(m:bk)(a:Au):List So.Fd:=m.2.1++[(0,max 0 ((a.1.length:Int)-1))]
theorem oC{m:bk}{a:Au}(h:jI m a):So.ka (xk m a):=by
 have hk:=h.ha.df;have e:=h.hm.pos;have d:=h.hm.df;refine ⟨by simp [xk],by simp [xk];omega,λf b=>?_⟩;rcases List.mem_append.1 b with b|b
 .have c:=h.hm.field f b;exact ⟨c.lo,c.hi,c.le,c.wide⟩
 .rw [List.mem_singleton.1 b];dsimp only;omega
theorem AL{m:bk}{a:Au}(h:jI m a):So.FI (xk m a):=λf b=>by have:=(oC h).each f b;exact ⟨⟨by omega,by omega⟩,⟨by omega,by omega⟩⟩
theorem XZ{m:bk}{a:Au}(h:jI m a):wz m a=some (xk m a,0):=by
 have hk:=h.ha.df;have d:=h.hm.df;unfold wz;rw [bB (by omega)];have c:So.FI [((0:Int),max 0 ((a.1.length:Int)-1))]:=λf b=>by rw [List.mem_singleton.1 b];exact ⟨⟨by dsimp only;omega,by dsimp only;omega⟩,⟨by dsimp only;omega,by dsimp only;omega⟩⟩
 rw [So.Rw c,So.ah,So.Mz.2 ⟨by simp,by simp,λf b=>by rw [List.mem_singleton.1 b];dsimp only;omega⟩];show (cP m.2.1).bind _=_;rw [So.NH (by omega),So.ah,Sy.aO (Sy.cC (by simp;omega) (by simp;omega))]
theorem Zu:∀{S:xb} {v:zl},fits S v=true->∀(i:Nat) (h:i<S.length) (a:i<v.length),S[i].1<=v[i]/\v[i]<=S[i].2
 |s::S,n::w,h,0,_,_=>by
  simp only [fits,au,er] at h;exact h.1
 |s::S,n::w,h,i+1,h1,h2=>by simp only [fits,au,er] at h;exact Zu h.2 i (by simpa using h1) (by simpa using h2)
theorem asK{m:bk}{a:Au}(h:jI m a){x:V}(hx:Pd.St m a.1.length x):So.In (xk m a) x/\x.length<100000000:=by
 refine ⟨?_,by have:=Vi h hx;omega⟩;obtain ⟨v,q,rfl,b,f⟩:=hx;have hl:=b.len;refine ⟨by simp [xk,hl],λi hi=>?_⟩;have d:i<m.2.1.length+1:=by simpa [xk] using hi
 by_cases c:i<m.2.1.length
 .have:=Zu b.fit i c (by omega);rw [List.getElem_append_left c,List.getElem_append_left (by omega)];exact this
 .have e:i=m.2.1.length:=by omega
  subst e;rw [List.getElem_append_right (by omega),List.getElem_append_right (by omega)];simp only [hl,Nat.sub_self,List.getElem_cons_zero];omega
theorem asY{m:bk}{a:Au}(h:jI m a){Us:List V}(b:∀x∈Us,Pd.St m a.1.length x):OY (xk m a) Us:=⟨oC h,λx hx=>asK h (b x hx)⟩
theorem amG{m:bk}{a:Au}(h:jI m a){Us:List V}{Bd:Er->Prop}(o:So.Op)(hk:0<=o.1/\o.1<5)(d:0<=o.2.1/\o.2.1<=1048576)(kl:1<=o.2.2.1/\o.2.2.1<=1048576)(hl:o.1=4->1<=o.2.2.2.2.1/\o.2.2.2.2.1<=4194304/\1<=o.2.2.2.2.2/\o.2.2.2.2.2<=16)
  (i:Ends m a Us o.2.1 o.2.2.1 Bd) (l:Us.length<=1000000) (hi:∀x∈xn m a,x∈Us):(∃e,fG m a o=CM (some (.error e))/\Bd e)\/fG m a o=some (false,([],[]),0,[]):=by
 have hS:=asY h i.st;have n:=λ(t:St) (c:Int) (hN:dv (xk m a) o=some (t,c))=>ad1 h.hm.toSafeS h.hi h.ha h.df (by have:=Wn h;omega) (Uw h) o (XZ h) hN;have run:∀t,dv (xk m a) o=some (t,0)->CX (xk m a) o.2.1 Us [] [] t->(∃e,fG m a o=CM (some (.error e))/\Bd e)\/fG m a o=some (false,([],[]),0,[]):=λt hN ht=>by
  rw [n t 0 hN,du ⟨rfl,kl.1,kl.2⟩];rcases aki h hS i l (xn m a) hi [] t ht with ⟨e,b,k⟩|⟨s,t',b,_⟩
  .rw [b];exact .inl ⟨e,rfl,k⟩
  .rw [b];exact .inr rfl
 by_cases j:o.1=4
 .obtain ⟨l1,r,q,p⟩:=hl j;obtain ⟨t,g,f⟩:=So.aeu (AL h) (oC h) (M:=o.2.2.2.2.1.toNat) (K:=o.2.2.2.2.2.toNat) (by omega) (by omega) o j d (by omega) (by omega);exact run t g (.inr ⟨_,_,_,_,_,_,f,nofun,nofun⟩)
 .obtain ⟨t,g,f,_⟩:=(So.Wq (AL h) (oC h) o (by omega)).2 d.1 d.2;exact run t g (.inl ⟨[],_,f,by simp,nofun,nofun,nofun⟩)
end Ns
namespace Ns
open Sp
theorem runM{σ τ ρ:Type}{F:(σ->Option ρ)->σ->Option ρ}{K:τ->Option ρ}(Inv:σ->Prop)(μ:σ->Nat)(bh:τ->Prop)
  (c:∀s,Inv s->∀k,(∃o,F k s=K o/\bh o)\/(∃a,F k s=k a/\Inv a/\μ a<μ s)):∀(n:Nat) (s:σ),Inv s->μ s<n->∃o,aj F n s=K o/\bh o
 |0,_,_,h=>by omega
 |n+1,s,hi,h=>by
  rw [ao];rcases c s hi (aj F n) with b|⟨a,b,d,e⟩
  .exact b
  .rw [b];exact runM Inv μ bh c n a d (by omega)
def dV(l:zk):Nat:=l.countP id
theorem ai8(l:zk):dV l<=l.length:=List.countP_le_length
theorem ae9{l:zk}{i:Nat}(h:i<l.length)(b:Bool)(hb:l[i]= !b):if b then dV (l.set i b)=dV l+1 else dV (l.set i b)+1=dV l:=by
 induction l generalizing i with
 |nil=>simp at h
 |cons x l ih=>
  cases i with
  |zero=>
   simp only [List.getElem_cons_zero] at hb;subst hb;cases b <;> simp [dV]
  |succ i=>
   have:=ih (i:=i) (by simpa using h) (by simpa using hb);cases b <;> simp only [dV,List.set_cons_succ,List.countP_cons] at this ⊢ <;> simp only [eT,qn,qU] at this ⊢ <;> omega
theorem wF{l:List α}{i:Int}(b:0<=i)(a:i<(l.length:Int)):idx l i=some (l[i.toNat]'(by omega)):=by obtain ⟨n,rfl⟩:∃n:Nat,i=n:=⟨i.toNat,by omega⟩;rw [bG (by omega)];simp
structure Gr(next:w8)(n:Nat):Prop where
 len:next.length=n
 df:n<=1000
 row:∀r∈next,r.length<=2000000/\∀j∈r,0<=j/\j<(n:Int)
variable {next : w8} {n : Nat} {sets : List zk}
theorem atc(g:Gr next n){f:zk}(hl:f.length=n){h:Int}(hk:0<=h/\h<(sets.length:Int))(q:∀s∈sets,s.length=n){a:Int}(hi:0<=a/\a<(n:Int))(c0:Nat){ag:(zk×Bool×Int)->Option zk}(l:zk)(b:Bool)(D:l.length=n)(C:c0<=dV l)(B:b=true->c0<dV l):
  ∃o:zk×Bool,aj (p6 next sets f h a ag) an (l,b,0)=ag (o.1,o.2,a+1)/\(o.1.length=n/\c0<=dV o.1/\(o.2=true->c0<dV o.1)):=by
 have z:=g.len;have A:=g.df;have m:=g.row _ (c9 (l:=next) (n:=a.toNat) (by omega));refine runM (K:=λo:zk×Bool=>ag (o.1,o.2,a+1)) (λs=>s.1.length=n/\c0<=dV s.1/\(s.2.1=true->c0<dV s.1)/\0<=s.2.2/\s.2.2<=2000000) (λs=>(2000001-s.2.2).toNat) _ (λs ⟨p,t,r,w,E⟩ k=>?_) an (l,b,0) ⟨D,C,B,by simp⟩ (by show _<2^64;simp);obtain ⟨c,d,j⟩:=s;dsimp only at p t r w E ⊢;have u:IntKind.i64.wrap (a+1)=a+1:=bB (by omega);unfold p6;dsimp only;simp only [wF hi.1 (show a<(next.length:Int) by omega),So.ah,So.aK];by_cases v:j<(next[a.toNat].length:Int)
 .have y:IntKind.i64.wrap (j+1)=j+1:=bB (by omega);have hx:=m.2 _ (c9 (l:=next[a.toNat]) (n:=j.toNat) (by omega));rw [cb v,ov,wF hi.1 (show a<(f.length:Int) by omega),So.ah,fj];cases F:f[a.toNat] with
  |false=>
   simp only [DT,lk,b7,u];exact .inl ⟨(c,d),rfl,p,t,r⟩
  |true=>
   rw [ov,wF hi.1 (show a<(c.length:Int) by omega),So.ah,fj];cases ht:c[a.toNat] with
   |true=>
    simp only [py,b7,u];exact .inl ⟨(c,d),rfl,p,t,r⟩
   |false=>
    simp only [iN,ca];rw [wF w v,So.ah,wF hx.1 (by omega),So.ah];have step:(∃s',k (c,d,IntKind.i64.wrap (j+1))=k s'/\(s'.1.length=n/\c0<=dV s'.1/\(s'.2.1=true->c0<dV s'.1)/\0<=s'.2.2/\s'.2.2<=2000000)/\(2000001-s'.2.2).toNat<(2000001-j).toNat):=
     ⟨_,rfl,⟨p,t,r,by dsimp only;omega,by dsimp only;have:=m.1;omega⟩,by dsimp only;omega⟩
    have e:(∃s',k (List.set c (Int.toNat a) true,true,IntKind.i64.wrap (j+1))=k s'/\(s'.1.length=n/\c0<=dV s'.1/\(s'.2.1=true->c0<dV s'.1)/\0<=s'.2.2/\s'.2.2<=2000000)/\(2000001-s'.2.2).toNat<(2000001-j).toNat):=by have:=ae9 (l:=c) (i:=a.toNat) (by omega) true ht;simp only [qU] at this;exact ⟨_,rfl,⟨by simpa using p,by dsimp only;omega,λ_=>by dsimp only;omega,by dsimp only;omega,by dsimp only;have:=m.1;omega⟩,by dsimp only;omega⟩
    have G:=q _ (c9 (l:=sets) (n:=h.toNat) (by omega));cases x:f[(next[a.toNat][j.toNat]).toNat] with
    |false=>
     simp only [DT,lk,b7];exact .inr step
    |true=>
     rw [ov,wF hk.1 hk.2,So.ah,ov,wF hx.1 (by omega),So.ah,fj];cases H:sets[h.toNat][(next[a.toNat][j.toNat]).toNat] with
     |true=>
      simp only [py,DT,v7,fj,ca];exact .inr e
     |false=>
      rw [iN,ov,wF hx.1 (by omega),So.ah];cases c[(next[a.toNat][j.toNat]).toNat] with
      |true=>
       simp only [Bool.or_true,fj,ca];exact .inr e
      |false=>
       simp only [Bool.or_false,fj,b7];exact .inr step
 .rw [cy v];simp only [DT,lk,b7,u];exact .inl ⟨(c,d),rfl,p,t,r⟩
theorem asQ(g:Gr next n){c:zk}(hl:c.length=n){a:Int}(hk:0<=a/\a<(sets.length:Int))(d:∀s∈sets,s.length=n){ag:(zk×Bool)->Option zk}(l:zk)(t:l.length=n):
  ∃o:zk×Bool,aj (rG next sets c a ag) an (l,false,0)=ag o/\(o.1.length=n/\dV l<=dV o.1/\(o.2=true->dV l<dV o.1)):=by
 have q:=g.len;have r:=g.df;refine runM (λs=>s.1.length=n/\dV l<=dV s.1/\(s.2.1=true->dV l<dV s.1)/\0<=s.2.2/\s.2.2<=(n:Int)) (λs=>((n:Int)-s.2.2).toNat) _ (λs ⟨m,j,h,p,x⟩ k=>?_) an (l,false,0) ⟨t,cK _,nofun,by simp,by simp⟩ (by show _<2^64;dsimp only;omega);obtain ⟨f,b,i⟩:=s;dsimp only at m j h p x ⊢;unfold rG;dsimp only;by_cases hi:i<(n:Int)
 .rw [cb (show i<(next.length:Int) by omega),ca];obtain ⟨o,e,w,v,u⟩:=atc g hl hk d ⟨p,hi⟩ (dV l) (ag:=k) f b m j h;exact .inr ⟨_,e,⟨w,v,u,by dsimp only;omega,by dsimp only;omega⟩,by dsimp only;omega⟩
 .rw [cy (show ¬i<(next.length:Int) by omega),b7];exact .inl ⟨_,rfl,m,j,h⟩
theorem asD{d e:zk}(hn:n<=1000)(u:e.length=n){a:Int}(hk:0<=a/\a<1000){ag:(zk×Bool×Int)->Option zk}(b:Bool)(c0:Nat)(w:d.length=n)(v:dV d<=c0)(r:b=true->dV d<c0):
  ∃o:zk×Bool,aj (p7 a ag e) an (d,b,0)=ag (o.1,o.2,a+1)/\(o.1.length=n/\dV o.1<=c0/\(o.2=true->dV o.1<c0)):=by
 have q:IntKind.i64.wrap (a+1)=a+1:=bB (by omega);refine runM (K:=λo:zk×Bool=>ag (o.1,o.2,a+1)) (λs=>s.1.length=n/\dV s.1<=c0/\(s.2.1=true->dV s.1<c0)/\0<=s.2.2/\s.2.2<=(n:Int)) (λs=>((n:Int)-s.2.2).toNat) _ (λs ⟨f,h,g,m,x⟩ k=>?_) an (d,b,0) ⟨w,v,r,by simp,by simp⟩ (by show _<2^64;dsimp only;omega);obtain ⟨c,t,i⟩:=s;dsimp only at f h g m x ⊢;unfold p7;dsimp only;by_cases hi:i<(n:Int)
 .have j:IntKind.i64.wrap (i+1)=i+1:=bB (by omega);rw [cb (show i<(c.length:Int) by omega),ca,wF m (by omega),So.ah,j];cases p:c[i.toNat] with
  |false=>
   simp only [DT,So.aK,lk,b7];exact .inr ⟨_,rfl,⟨f,h,g,by dsimp only;omega,by dsimp only;omega⟩,by dsimp only;omega⟩
  |true=>
   rw [ov,wF m (by omega),So.ah];cases e[i.toNat] with
   |true=>
    simp only [So.aK,py,qK,b7];exact .inr ⟨_,rfl,⟨f,h,g,by dsimp only;omega,by dsimp only;omega⟩,by dsimp only;omega⟩
   |false=>
    have:=ae9 (l:=c) (i:=i.toNat) (by omega) false p;simp only [eT,qn] at this;simp only [So.aK,iN,Bool.and_true,ca,So.ah];exact .inr ⟨_,rfl,⟨by simpa using f,by dsimp only;omega,λ_=>by dsimp only;omega,by dsimp only;omega,by dsimp only;omega⟩,by dsimp only;omega⟩
 .rw [cy (show ¬i<(c.length:Int) by omega),b7,q];exact .inl ⟨(c,t),rfl,f,h,g⟩
theorem asE(g:Gr next n){c:zk}(hl:c.length=n){b:Int}(hk:0<=b/\b<(sets.length:Int))(p:sets.length<=1000)(f:∀s∈sets,s.length=n){ag:(zk×Bool×Int)->Option zk}(a:Bool)(c0:Nat)(r:dV c<=c0)(q:a=true->dV c<c0)(l:zk)(t:l.length=n):
  ∃o:zk×Bool,aj (rF next sets c a b ag) an (l,true)=ag (o.1,o.2,b+1)/\(o.1.length=n/\dV o.1<=c0/\(o.2=true->dV o.1<c0)):=by
 have i:=g.df;refine runM (K:=λo:zk×Bool=>ag (o.1,o.2,b+1)) (λs=>s.1.length=n) (λs=>2*(n-dV s.1)+s.2.toNat) _ (λs j k=>?_) an (l,true) t (by show _<2^64;simp;omega);obtain ⟨h,d⟩:=s;dsimp only at j ⊢;unfold rF;dsimp only;cases d with
 |true=>
  rw [ca];obtain ⟨o,e,v,w,u⟩:=asQ g hl hk f (ag:=k) h j;have:=ai8 o.1;refine .inr ⟨o,e,v,?_⟩;cases m:o.2 with
  |true=>have:=u m;simp only [Bool.toNat_true];omega
  |false=>simp only [Bool.toNat_true,Bool.toNat_false];omega
 |false=>
  rw [b7];exact .inl (asD i j (by omega) a c0 hl r q)
theorem as6(g:Gr next n)(c:sets.length<=1000)(b:∀s∈sets,s.length=n){ag:(zk×Bool)->Option zk}(l:zk)(r:l.length=n):
  ∃o:zk×Bool,aj (rh next sets ag) an (l,false,0)=ag o/\(o.1.length=n/\dV o.1<=dV l/\(o.2=true->dV o.1<dV l)):=by
 have p:=g.len;have q:=g.df;refine runM (λs=>s.1.length=n/\dV s.1<=dV l/\(s.2.1=true->dV s.1<dV l)/\0<=s.2.2/\s.2.2<=(sets.length:Int)) (λs=>((sets.length:Int)-s.2.2).toNat) _ (λs ⟨h,f,d,j,w⟩ k=>?_) an (l,false,0) ⟨r,cK _,nofun,by simp,by simp⟩ (by show _<2^64;dsimp only;omega);obtain ⟨m,a,i⟩:=s;dsimp only at h f d j w ⊢;unfold rh;dsimp only;by_cases hi:i<(sets.length:Int)
 .rw [cb hi,ca,Sy.aO (cb (by omega)),Sy.aO (Sy.cC (by omega) (by omega))];obtain ⟨o,e,v,u,t⟩:=asE g h ⟨j,hi⟩ c b (ag:=k) a (dV l) f d (List.replicate (Int.toNat (next.length:Int)) false) (by simp;omega);exact .inr ⟨_,e,⟨v,u,t,by dsimp only;omega,by dsimp only;omega⟩,by dsimp only;omega⟩
 .rw [cy hi,b7];exact .inl ⟨_,rfl,h,f,d⟩
theorem aqp(g:Gr next n)(d:sets.length<=1000)(b:∀s∈sets,s.length=n){on:zk}(c:on.length=n):∃z,oF next on sets=some z/\z.length=n:=by
 have i:=g.df;unfold oF;rw [Sy.aO (Sy.cC (by simp only [qf];omega) (by simp only [qf];omega))];refine runM (K:=some) (λs=>s.1.length=n) (λs=>2*dV s.1+s.2.toNat) _ (λs f k=>?_) an ([]++on,true) (by simpa using c) (by have:=ai8 ([]++on);show _<2^64;simp at this ⊢; omega);obtain ⟨l,a⟩:=s;dsimp only at f ⊢;unfold xF;dsimp only;cases a with
 |true=>
  rw [ca];obtain ⟨o,e,m,p,j⟩:=as6 g d b (ag:=k) l f;refine .inr ⟨o,e,m,?_⟩;cases h:o.2 with
  |true=>have:=j h;simp only [Bool.toNat_true];omega
  |false=>simp only [Bool.toNat_true,Bool.toNat_false];omega
 |false=>
  rw [b7];exact .inl ⟨_,rfl,f⟩
end Ns
namespace Ns
open Sp
variable {m : bk} {a : Au}
theorem akE{v:V}:∀{l:List V} {k:Nat},vm v k l<(k+l.length:Nat)+0
 |[],k=>by simp [vm];omega
 |x::r,k=>by
  unfold vm;split
  .simp;omega
  .have:=akE (v:=v) (l:=r) (k:=k+1);simp at this ⊢; omega
theorem aqd(h:jI m a){x:V}(hx:Pd.St m a.1.length x):∃b,kc a x=some b:=by
 obtain ⟨A,r,c,hl⟩:=h.df.acc;obtain ⟨v,q,rfl,f,_⟩:=hx;have d:=Na h f;unfold kc;refine nH (F:=kI a (v++[q])) (λi=>(i:Int)) (λ_=>True) (λx=>∃b,x=some b) A.length (by omega) (λi hi _ k=>?_) (λ_ k=>?_)
 .unfold kI;rw [c,show idx (A::r) 0=some A from rfl,So.ah,cb (by omega),ca,So.ah,bG hi,So.ah];have e:IntKind.i64.wrap (((v++[q]).length:Int)-1)=(v.length:Int):=by rw [bB (by simp;omega)];simp
  rw [e,Sy.lr (pre:=v) (r:=[]) rfl,So.ah];cases A[i]==q with
  |true=>exact .inl ⟨_,rfl⟩
  |false=>exact .inr ⟨trivial,by rw [b7,Pa.bP (by omega)]⟩
 .unfold kI;rw [c,show idx (A::r) 0=some A from rfl,So.ah,cy (by omega),b7];exact ⟨_,rfl⟩
def sQ(m:bk)(a:Au)(l:List V):w8:=l.map λx=>(Pd.bR m a x).1.map λy=>vm y 0 l
theorem ajp(h:jI m a){l:List V}(hl:l.length<=1000)(b:amp m a l):Gr (sQ m a l) l.length:=by refine ⟨by simp [sQ],hl,λr d=>?_⟩;obtain ⟨x,hx,rfl⟩:=List.mem_map.1 d;refine ⟨by simpa using Pd.G2 h.hm.toSafeS h.ha (b.st x hx),λj e=>?_⟩;obtain ⟨y,c,rfl⟩:=List.mem_map.1 e;have g:¬vm y 0 l<0:=λhn=>Pg.1 hn (b.next x hx y c);have f:=akE (v:=y) (l:=l) (k:=0);simp at f;omega
theorem aqn(h:jI m a){most:Nat}(d:most<=1000):∃l z c,nL m a (most:Int)=some (l,z,c)/\(c=0->l.length<=most/\amp m a l/\Gr z l.length):=by
 unfold nL;obtain ⟨⟨l,c⟩,A,q⟩:=apo h d;rw [A,So.ah];dsimp only at q ⊢;by_cases g:c=0
 .subst g;obtain ⟨f,b⟩:=q rfl;rw [show ((0:Int) != 0)=false from rfl,b7];have n:∀u∈l,u.length<100000000:=λu t=>by have:=Vi h (b.st u t);omega
  have key:aj (iB m a (l,0)) an ([],0)=some (l,sQ m a l,0):=by
   refine nH (F:=iB m a (l,0)) (λi=>((sQ m a l).take i,(i:Int))) (λ_=>True) (λx=>x=some (l,sQ m a l,0)) l.length (by omega) (λi hi _ k=> .inr ⟨trivial,?_⟩) (λ_ k=>?_)
   .unfold iB;dsimp only;have hx:=b.st _ (c9 hi);have p:=Pd.G2 h.hm.toSafeS h.ha hx;have e:(sQ m a l)[i]'(by simp [sQ];exact hi)=(Pd.bR m a l[i]).1.map λy=>vm y 0 l:=by simp [sQ]
    rw [cb (by omega),ca,bG hi,So.ah,aiC h hx,So.ah];refine nH (F:=kK (l,0) ((sQ m a l).take i) (i:Int) k (Pd.bR m a l[i])) (λj=>(((Pd.bR m a l[i]).1.map λy=>vm y 0 l).take j,(j:Int))) (λ_=>True) (λx=>x=k ((sQ m a l).take (i+1),((i+1:Nat):Int))) (Pd.bR m a l[i]).1.length (by omega) (λj o _ r=> .inr ⟨trivial,?_⟩) (λ_ r=>?_)
    .unfold kK;dsimp only;rw [cb (by omega),ca,bG o,So.ah,xj _ _ (by omega) (λw s=>by have:=n w s;omega),So.ah,Sy.aO (Sy.cC (by simp;omega) (by simp;omega)),Pa.bP (by omega)];rw [n4 (l:=(Pd.bR m a l[i]).1.map λy=>vm y 0 l) (by simpa using o),List.getElem_map]
    .unfold kK;dsimp only;rw [cy (by omega),b7,fb (l:=(Pd.bR m a l[i]).1.map λy=>vm y 0 l) (by simp),Sy.aO (Sy.cC (by simp;omega) (by simp;omega)),Pa.bP (by omega),<-e,<-n4]
   .unfold iB;dsimp only;rw [cy (by omega),b7,fb (by simp [sQ])]
  exact ⟨l,sQ m a l,0,key,λ_=>⟨f,b,ajp h (by omega) b⟩⟩
 .rw [show (c != 0)=true by simpa using g,ca];exact ⟨_,_,_,rfl,λv=>absurd v g⟩
theorem al4(h:jI m a):∃r,my m a 80=some r:=by
 unfold my;obtain ⟨l,z,c,G,E⟩:=aqn h (most:=80) (by omega);rw [show (80:Int)=((80:Nat):Int) from rfl,G,So.ah];by_cases p:c=0
 .subst p;obtain ⟨q,d,C⟩:=E rfl;dsimp only;rw [show ((0:Int) != 0)=false from rfl,b7,Sy.aO (cb (by omega)),Sy.aO (Sy.cC (by omega) (by omega))];have:=runM (F:=ob a (l,z,0)) (K:=some) (λs=>s.1.length=s.2.2.toNat/\s.2.1.length=l.length/\0<=s.2.2/\s.2.2<=(l.length:Int)) (λs=>((l.length:Int)-s.2.2).toNat) (λ_=>True) (λs ⟨I,g,f,H⟩ k=>?_) an ([],List.replicate (Int.toNat (l.length:Int)) false,0) ⟨rfl,by simp,by simp,by simp⟩ (by show _<2^64;dsimp only;omega)
  .obtain ⟨o,e,_⟩:=this;exact ⟨o,e⟩
  obtain ⟨t,on,i⟩:=s;dsimp only at I g f H ⊢;unfold ob;dsimp only;by_cases hi:i<(l.length:Int)
  .obtain ⟨b,hb⟩:=aqd h (d.st _ (c9 (l:=l) (n:=i.toNat) (by omega)));rw [cb hi,ca,wF f hi,So.ah,hb,So.ah,Sy.aO (Sy.cC (by simp;omega) (by simp;omega)),wF f (by omega),So.ah,bB (by omega)];exact .inr ⟨_,rfl,⟨by simp;omega,by simpa using g,by dsimp only;omega,by dsimp only;omega⟩,by dsimp only;omega⟩
  .rw [cy hi,b7];obtain ⟨w,D,J⟩:=aqp (sets:=[t]) C (by simp) (λs v=>by rw [List.mem_singleton.1 v];omega) (on:=on) g;rw [D,So.ah];have y:∃o,aj (gQ (l,z,0) w) an 0=some o:=by
    refine nH (F:=gQ (l,z,0) w) (λi=>(i:Int)) (λ_=>True) (λx=>∃o,x=some o) w.length (by omega) (λj B _ u=>?_) (λ_ u=>?_)
    .unfold gQ;rw [cb (by omega),ca,bG B,So.ah];cases w[j] with
     |true=>exact .inl ⟨_,rfl⟩
     |false=>exact .inr ⟨trivial,by rw [b7,Pa.bP (by omega)]⟩
    .unfold gQ;rw [cy (by omega),b7];exact ⟨_,rfl⟩
   obtain ⟨o,A⟩:=y;exact .inl ⟨o,A,trivial⟩
 .dsimp only;rw [show (c != 0)=true by simpa using p,ca];exact ⟨_,rfl⟩
end Ns
namespace Ns
open Sp
def N6:xb->List V
 |[]=>[[]]
 |s::S=>(List.range (s.2-s.1+1).toNat).flatMap λ(k:Nat)=>(N6 S).map λv=>(s.1+(k:Int))::v
def G6:xb->Int
 |[]=>1
 |s::S=>(s.2-s.1+1)*G6 S
theorem Lv:∀{S:xb} {v:V},v∈N6 S↔sH S v
 |[],v=>by
  constructor
  .intro h;rw [List.mem_singleton.1 h];exact ⟨rfl,rfl⟩
  .intro h;have:=List.length_eq_zero_iff.1 h.len;rw [this];exact List.mem_singleton.2 rfl
 |s::S,v=>by
  unfold N6;constructor
  .intro h;obtain ⟨k,hk,h⟩:=List.mem_flatMap.1 h;obtain ⟨w,b,rfl⟩:=List.mem_map.1 h;have ih:=Lv.1 b;have hk:=List.mem_range.1 hk;refine ⟨by simp [ih.len],?_⟩;unfold fits;rw [ih.fit,cb (by omega),cb (by omega)];rfl
  .intro h
   match v,h with
   |[],h=>exact absurd h.len (by simp)
   |n::w,h=>
    have a:=h.fit;unfold fits at a;simp only [au,er] at a;exact List.mem_flatMap.2 ⟨(n-s.1).toNat,List.mem_range.2 (by omega),List.mem_map.2 ⟨w,Lv.2 ⟨by simpa using h.len,a.2⟩,by congr 1;omega⟩⟩
theorem Sl{α β:Type}{f:α->List β}{c:Nat}:∀{l:List α},(∀x∈l,(f x).length=c)->(l.flatMap f).length=l.length*c
 |[],_=>by simp
 |x::l,h=>by rw [qO,eF,h x (c8 ..),Sl (λy a=>h y (cp _ a)),eb,qL];omega
theorem acJ:∀{S:xb},(∀s∈S,0<=s.2-s.1)->((N6 S).length:Int)=G6 S
 |[],_=>rfl
 |s::S,h=>by unfold N6 G6;rw [Sl (c:=(N6 S).length) (λk _=>by simp),List.length_range,<-acJ (λx hx=>h x (cp _ hx)),Int.natCast_mul];have:=h s (c8 ..);congr 1;omega
def Su(m:bk)(k:Nat):List V:=(N6 m.2.1).flatMap λv=>(List.range k).map λ(q:Nat)=>v++[(q:Int)]
theorem Km{m:bk}{x:V}:x∈Su m k↔Pd.St m k x:=by
 constructor
 .intro h;obtain ⟨v,a,h⟩:=List.mem_flatMap.1 h;obtain ⟨q,b,rfl⟩:=List.mem_map.1 h;have:=List.mem_range.1 b;exact ⟨v,q,rfl,Lv.1 a,by omega,by omega⟩
 .rintro ⟨v,q,rfl,a,d,c⟩;exact List.mem_flatMap.2 ⟨v,Lv.2 a,List.mem_map.2 ⟨q.toNat,List.mem_range.2 (by omega),by congr 2;omega⟩⟩
theorem amc{m:bk}(h:∀s∈m.2.1,0<=s.2-s.1)(hp:G6 m.2.1<=200)(hk:k<=12):(Su m k).length<=2400:=by
 unfold Su;rw [Sl (c:=k) (λv _=>by simp)];have:=acJ h;have a:(N6 m.2.1).length<=200:=by omega
 exact dx (Nat.mul_le_mul a hk) (cK _)
theorem apH{m:bk}(hS:m.2.1.length<=1048576)(e:∀f∈m.2.1,0<=f.2-f.1/\f.2-f.1<=100000000/\ -2000000000<=f.1/\f.2<=2000000000)(h:fC m 200=some true):G6 m.2.1<=200:=by
 unfold fC at h;have key:∀(d i M:Nat) (n:Int),i+d=m.2.1.length->d<M->0<=n->n<=100000000000->aj (cn m 200) M (n,(i:Int))=some true->n*G6 (m.2.1.drop i)<=200:=λd=>by
  induction d with
  |zero=>
   intro i M n o l c j a;obtain ⟨M,rfl⟩:∃q,M=q+1:=⟨M-1,by omega⟩;rw [ao] at a;generalize aj _ M=k at a;unfold cn at a;simp only [So.aK] at a;rw [cy (show ¬(i:Int)<(m.2.1.length:Int) by omega),lk,b7] at a;rw [si (by omega)];have:=qB (gj a);simp only [G6];omega
  |succ d ih=>
   intro i M n o l c j a;obtain ⟨M,rfl⟩:∃q,M=q+1:=⟨M-1,by omega⟩;have hi:i<m.2.1.length:=by omega
   have r:=e _ (c9 hi);have b:=λn=>ih (i+1) M n (by omega) (by omega);rw [ao] at a;generalize aj (cn m 200) M=k at b a;unfold cn at a;simp only [So.aK] at a;rw [cb (show (i:Int)<(m.2.1.length:Int) by omega),fj] at a;by_cases hn:n<=200
   .rw [cb hn,ca,bG hi,So.ah,So.ah,Pa.bP (by omega)] at a;have p:IntKind.i64.wrap (IntKind.i64.wrap (m.2.1[i].2-m.2.1[i].1)+1)=m.2.1[i].2-m.2.1[i].1+1:=by rw [bB (x:=m.2.1[i].2-m.2.1[i].1) (by omega),bB (by omega)]
    have g:0<=n*(m.2.1[i].2-m.2.1[i].1+1):=Int.mul_nonneg c (by omega);have s:n*(m.2.1[i].2-m.2.1[i].1+1)<=200*100000001:=Int.mul_le_mul hn (by omega) (by omega) (by omega);rw [p,bB (by omega)] at a;have:=b _ g (by omega) a;rw [nJ hi];unfold G6;rw [<-Int.mul_assoc];exact this
   .rw [cy hn,b7] at a;cases a
 have:=key m.2.1.length 0 an 1 (by omega) (by show _<2^64;omega) (by omega) (by omega) h;rw [n9] at this;omega
end Ns
namespace Ns
open Sp
theorem ahS(text:aE){a:Au}(hb:Qc a):∃q,gK text a=some q/\(q.2=true->jI q.1 a/\(Su q.1 a.1.length).length<=2400):=by
 obtain ⟨q,c,l⟩:=aiY text hb;refine ⟨q,c,λd=>?_⟩;obtain ⟨h,hk⟩:=l d;refine ⟨h,?_⟩;have i:∀f∈q.1.2.1,0<=f.2-f.1/\f.2-f.1<=100000000/\ -2000000000<=f.1/\f.2<=2000000000:=λf j=>by have e:=h.hm.field f j;have:=e.le;have:=e.lo;have:=e.hi;have:=e.wide;omega
 refine amc (λs g=>(i s g).1) (apH (by have:=h.hm.df;omega) i ?_) hk;obtain ⟨m,b⟩:=q;dsimp only at d;subst d;unfold gK at c;obtain ⟨q,e,o⟩:=abg text;rw [e,So.ah] at c;cases d:q.2 with
 |false=>rw [d] at c;cases c
 |true=>
  obtain ⟨n,k,_⟩:=abx (m:=q.1) hb;rw [d,ov,k,So.ah] at c;simp only [So.aK,fj] at c;cases n with
  |false=>cases c
  |true=>
   cases hd:decide ((a.1.length:Int)<=12) with
   |false=>rw [hd] at c;cases c
   |true=>
    rw [hd] at c;change bm true _ _ _=_ at c;rw [ov] at c;cases g:fC q.1 200 with
    |none=>rw [g] at c;cases c
    |some p=>
     rw [g,So.ah] at c;cases c;exact g
variable {m : bk} {a : Au}
theorem ah0{x:V}(hx:(Pd.bR m a x).2≠0):(Pd.bR m a x).2=6:=by
 unfold Pd.bR Pd.Hk at hx ⊢;by_cases h:(fa m.2.1 m.2.2.2.2 x.dropLast).2=0
 .rw [du h] at hx;exact absurd rfl hx
 .rw [dk h];dsimp only;unfold fa Pb at h ⊢;split at h
  .exact absurd rfl h
  .rename_i c;rw [dk c];cases b:(goes x.dropLast m.2.2.2.2).all (fits m.2.1) with
   |true=>rw [b] at h;exact absurd rfl h
   |false=>rfl
def Cd(e:Er):Prop:= ∀c,e= .inl c->c.1≠0/\c.1≠1
theorem amB(h:jI m a)(cap most:Int):Ends m a (Su m a.1.length) cap most Cd:=
 ⟨λx hx=>Km.1 hx,λx hx _ y d=>Km.2 (Pd.QU h.ha (Km.1 hx) y d),λ_ c b=>by cases b;decide,λ_ c b=>by cases b;decide,λx _ hx c b=>by cases b;rw [ah0 hx];exact ⟨show (6:Int)≠0 by decide,show (6:Int)≠1 by decide⟩,λp _ _ _ _ _ c b=>by cases b⟩
end Ns
namespace Ns
open Sp
def MN(o:So.Op):Bool:=(!(((((decide (o.1<0)||decide (4<o.1))||decide (o.2.1<0))||decide (1048576<o.2.1))||decide (o.2.2.1<1))||decide (1048576<o.2.2.1)))&&(decide (o.1<4)||(((decide (1<=o.2.2.2.2.1)&&decide (o.2.2.2.2.1<=4194304))&&decide (1<=o.2.2.2.2.2))&&decide (o.2.2.2.2.2<=16)))
theorem aif(o:So.Op):oJ o=some (MN o):=by unfold oJ MN;simp only [So.aK];generalize (((((decide (o.1<0)||decide (4<o.1))||decide (o.2.1<0))||decide (1048576<o.2.1))||decide (o.2.2.1<1))||decide (1048576<o.2.2.1))=b;cases b <;> rfl
theorem ame{s:List So.Fd}(b:So.FI s)(a:So.ka s)(o:So.Op)(c:o.1=4)(h:¬(0<=o.2.1/\o.2.1<=1048576/\1<=o.2.2.2.2.1/\o.2.2.2.2.1<=4194304/\1<=o.2.2.2.2.2/\o.2.2.2.2.2<=16)):dv s o=some (So.aa7,1):=by
 rw [(So.Rk b a o).2.2.2.2 c];unfold jQ;simp only [So.aK];by_cases d:0<=o.2.1/\o.2.1<=1048576
 .rw [cy (show ¬o.2.1<0 by omega),cy (show ¬ 1048576<o.2.1 by omega),tA,b7];unfold El;simp only [So.aK];have hb:(((decide (o.2.2.2.2.1<1)||decide (4194304<o.2.2.2.2.1))||decide (o.2.2.2.2.2<1))||decide (16<o.2.2.2.2.2))=true:=by simp only [eZ,er];omega
  rw [hb];rfl
 .have hb:(decide (o.2.1<0)||decide (1048576<o.2.1))=true:=by simp only [eZ,er];omega
  rw [hb];rfl
theorem amj{m:bk}{a:Au}(h:jI m a)(o:So.Op)(hb:MN o=false):fG m a o=some (false,([],[]),1,[]):=by
 have f:=λ(t:St) (c:Int) (hN:dv (xk m a) o=some (t,c))=>ad1 h.hm.toSafeS h.hi h.ha h.df (by have:=Wn h;omega) (Uw h) o (XZ h) hN;have b:dv (xk m a) o=some (So.aa7,1)->fG m a o=some (false,([],[]),1,[]):=λhN=>by rw [f _ _ hN,dk (by omega)]
 have st:∀t,dv (xk m a) o=some (t,0)-> ¬(1<=o.2.2.1/\o.2.2.1<=1048576)->fG m a o=some (false,([],[]),1,[]):=λt hN i=>by rw [f _ _ hN,dk (by omega)]
 have j:¬(0<=o.1/\o.1<=4/\0<=o.2.1/\o.2.1<=1048576/\1<=o.2.2.1/\o.2.2.1<=1048576/\(o.1<4\/1<=o.2.2.2.2.1/\o.2.2.2.2.1<=4194304/\1<=o.2.2.2.2.2/\o.2.2.2.2.2<=16)):=λd=>by
  have:MN o=true:=by unfold MN;simp only [au,l9,l5,eZ,er,pA];omega
  rw [this] at hb;cases hb
 by_cases hk:0<=o.1/\o.1<5
 .by_cases g:o.1=4
  .by_cases hl:0<=o.2.1/\o.2.1<=1048576/\1<=o.2.2.2.2.1/\o.2.2.2.2.1<=4194304/\1<=o.2.2.2.2.2/\o.2.2.2.2.2<=16
   .obtain ⟨t,e,_⟩:=So.aeu (AL h) (oC h) (M:=o.2.2.2.2.1.toNat) (K:=o.2.2.2.2.2.toNat) (by omega) (by omega) o g (by omega) (by omega) (by omega);exact st t e (by omega)
   .exact b (ame (AL h) (oC h) o g hl)
  .by_cases d:0<=o.2.1/\o.2.1<=1048576
   .obtain ⟨t,e,_⟩:=(So.Wq (AL h) (oC h) o (by omega)).2 d.1 d.2;exact st t e (by omega)
   .exact b ((So.Wq (AL h) (oC h) o (by omega)).1 (by omega))
 .exact b (So.ao1 (AL h) o (λd=>hk d.2))
theorem aid{m:bk}{a:Au}(h:jI m a)(f:(Su m a.1.length).length<=2400)(o:So.Op)(hb:MN o=true):∃x,fG m a o=some x/\x.2.2.1≠1:=by
 unfold MN at hb;simp only [au,l9,l5,eZ,er,pA] at hb;rcases amG h (Us:=Su m a.1.length) (Bd:=Cd) o (by omega) (by omega) (by omega) (λ_=>by omega) (amB h _ _) (by omega) (λx hx=>Km.2 (Uw h x hx)) with ⟨e,b,d⟩|b
 .rw [b];cases e with
  |inl c=>exact ⟨_,rfl,(d c rfl).2⟩
  |inr p=>exact ⟨_,rfl,show (0:Int)≠1 by decide⟩
 .rw [b];exact ⟨_,rfl,show (0:Int)≠1 by decide⟩
theorem akc(text:aE)(a:Au)(o:So.Op)(hb:Qc a):kE text a o=some true:=by
 unfold kE;rw [apf,So.ah];obtain ⟨q,f,e⟩:=ahS text hb;rw [f,So.ah];simp only [So.aK];cases c:q.2 with
 |false=>rfl
 |true=>
  obtain ⟨h,d⟩:=e c;generalize (((!true||decide (300<(text.length:Int)))||(decide (2000<o.2.2.2.2.1)&&decide (o.2.2.2.2.1<=4194304))))=g;cases g with
  |true=>rfl
  |false=>
   rw [b7];obtain ⟨r,k⟩:=al4 h;rw [k,So.ah];cases r.2.2==7 with
   |true=>rfl
   |false=>
    rw [b7];cases b:MN o with
    |true=>
     obtain ⟨x,j,i⟩:=aid h d o b;rw [j,So.ah,aif,So.ah,b,ca,show (x.2.2.1 != 1)=true by simpa using i];rfl
    |false=>
     rw [amj h o b,So.ah,aif,So.ah,b,b7];rfl
end Ns
variable {w : World}
open Go.Lib Go.ChangeAt Go.ChangeShapes Go.WideShapes Go.RowKit
theorem ad9{P:Program}{w:World}:∀(l:List (String×DataW Unit)) (ps:List MemPlace),DataW.LaidVars P w l ps->∀(i:Nat) (n:String) (d:DataW Unit),l[i]? =some (n,d)->
  ∃g t cs a p,P.globalNamed n=some g/\(P.globals[g]?).map (·.type)=some t/\w.var? P n=some cs/\DataW.trod (λ_=>()) P w 0 (λ_=>true) false a t cs.toList=some (d,p)
 |[],_,_,i,n,d,h=>by simp at h
 |(n0,d0)::l,ps,h,i,n,d,hi=>by
  obtain ⟨g,t,cs,a,p,q,j,f,e,c,b,_⟩:=h;cases i with
  |zero=>
   simp only [ql,ej,q7] at hi;obtain ⟨rfl,rfl⟩:=hi;exact ⟨g,t,cs,a,p,j,f,e,c⟩
  |succ i=>exact ad9 l q b i n d (by simpa using hi)
theorem afP{P:Program}{laid:List (String×DataW Unit)}(a:(laid.filter λx=>x.2.handleName?.isSome)=[])(h:laidMetH P laid w):laidMet P laid w:=by unfold laidMetH at h;rw [a] at h;exact h
theorem apr{P:Program}{laid:List (String×DataW Unit)}{Γ:Ctx}(h:laidMet P laid w)(i:Nat){n:String}{kd:IntKind}{zs:zl}{g:Nat}{t e:TypeId}{k:Nat}
  (hi:laid[i]? =some (n,tabData kd zs)) (m:P.globalNamed n=some g) (b:(P.globals[g]?).map (·.type)=some t)
  (ht:P.underlying t=some (.array k e)) (q:P.underlying e=some (.int kd)) (l:P.cellsOf e=1) (j:P.cellsOf t=k) (r:¬ Γ.M g):(gl g (zs.map (Value.int kd))).P Γ.M w:=by
 obtain ⟨ps,hl,_⟩:=h;obtain ⟨u,t',cs,o,p,f,d,a,hd⟩:=ad9 _ _ hl i n _ hi;obtain rfl:=gj (m.symm.trans f);obtain rfl:=gj (b.symm.trans d);have s:=cells_of_tab ht q l j hd;refine ⟨r,?_⟩;unfold World.var? at a;rw [m] at a;simp only [Option.bind_some] at a;split at a
 next c ty fr hb=>obtain rfl:=gj a;exact ⟨ty,fr,by rw [hb,<-s]⟩
 .cases a
def Xg(Γ:Ctx):Prop:= ∀b,¬ Γ.M b
theorem afc:Xg []:=λb h=>by obtain ⟨it,h,_⟩:=h;cases h
theorem aaU{it:Item}{Γ:Ctx}(hp:it.own=[])(h:Xg Γ):Xg (it::Γ):=λb hb=>by
 rcases Ctx.Fk.1 hb with a|a
 .rw [hp] at a;cases a
 .exact h b a
theorem ajS(w:World):Sat [kept w (λ_=>False)] w:=Sat.nil.add rfl ⟨jc.refl w,cK _,λb _ _=>⟨afc b,rfl⟩⟩
theorem ai6(w:World):Xg [kept w (λ_=>False)]:=aaU rfl afc
theorem anN{Γ:Ctx}(h:Xg Γ):Mv (λ_=>False) w Γ.M w:=⟨cK _,λb _ _=>⟨h b,rfl⟩⟩
theorem ail{w':World}{Γ:Ctx}{i:Nat}(h:Sat Γ w')(hi:Γ[i]? =some (kept w (λ_=>False))):Below w.heap.size w w':=by obtain ⟨a,c,b⟩:=h.kept hi;exact ⟨a.os,a.tape,a.output,c,λk hk=>(b k hk (λh=>h)).2⟩
theorem UQ{Y:Type}(R:Nat->Y->Ex->Prop):∀(ys:List Y),(∀i y,ys[i]? =some y->∃e,R i y e)->∃l:List Ex,l.length=ys.length/\∀i y e,ys[i]? =some y->l[i]? =some e->R i y e
 |[],_=>⟨[],rfl,λi y e h=>by simp at h⟩
 |y::ys,h=>by
  obtain ⟨e,d⟩:=h 0 y rfl;obtain ⟨l,hl,c⟩:=UQ (λi=>R (i+1)) ys (λi y a=>h (i+1) y (by simpa using a));refine ⟨e::l,by simp [hl],λi b e' a hx=>?_⟩;cases i with
  |zero=>
   simp only [ql,ej] at a hx;subst a;subst hx;exact d
  |succ i=>exact c i b e' (by simpa using a) (by simpa using hx)
theorem aiN{H:Type}:∀(l:List Ex) (ds:List (DataW H)),l.length=ds.length->(∀(i:Nat) (e:Ex) (d:DataW H),l[i]? =some e->ds[i]? =some d->e.sz<=Rows.uptoBulk d)->xx l<=Rows.uptoBulkAll ds
 |[],[],_,_=>cK _
 |e::l,d::ds,hl,h=>by
  have c:=h 0 e d rfl rfl;have b:=aiN l ds (by simpa using hl) (λi e d a hd=>h (i+1) e d (by simpa using a) (by simpa using hd));simp only [xx,Rows.uptoBulkAll];omega
 |[],_::_,h,_=>by simp at h
 |_::_,[],h,_=>by simp at h
theorem R5{H:Type}(d:DataW H):1<=Rows.uptoBulk d:=by
 cases d with
 |lit l=>cases l <;> simp [Rows.uptoBulk]
 |nil=>simp [Rows.uptoBulk]
 |ptr d=>simp [Rows.uptoBulk]
 |slice e b=>simp [Rows.uptoBulk]
 |agg c=>simp [Rows.uptoBulk]
 |iface t d=>simp [Rows.uptoBulk]
 |map a=>simp [Rows.uptoBulk]
 |held h=>simp [Rows.uptoBulk]
theorem uJ{H:Type}{d:DataW H}:∀{l:List (DataW H)},d∈l->Rows.uptoBulk d<=Rows.uptoBulkAll l
 |x::r,h=>by
  simp only [Rows.uptoBulkAll];rcases List.mem_cons.1 h with rfl|h
  .omega
  .have:=uJ h;omega
structure ai7(P:Program)(t:TypeId):Prop where
 fields:∃(fs:Array Field) (f0 f1 f2 f3:Field),P.underlying t=some (.struct fs)/\fs.size=4/\fs[0]? =some f0/\fs[1]? =some f1/\fs[2]? =some f2/\fs[3]? =some f3/\
  (f0.offset=0/\P.underlying f0.type=some (.int .i64)/\P.cellsOf f0.type=1)/\(f1.offset=1/\P.underlying f1.type=some (.int .i64)/\P.cellsOf f1.type=1)/\
  (f2.offset=2/\P.underlying f2.type=some (.int .i64)/\P.cellsOf f2.type=1)/\(f3.offset=3/\P.underlying f3.type=some (.slice t)/\P.cellsOf f3.type=1)
 cells:P.cellsOf t=4
theorem ar9{P:Program}{a:Nat}{t:TypeId}{v:Value}{b:Array Field}(ht:P.underlying t=some (.struct b))(h:Value.okWide P w .any a t v):
  ∃cs,v= .agg cs/\cs.size=P.cellsOf t/\Row.okWide P w .any a t cs:=by
 unfold Value.okWide at h;rw [ht] at h;exact h
theorem ahp{a:Addr}{v:Value}(h:w.cell? a=some v):a.spot=none/\∃cs e fr,w.heap[a.block]? =some (.cells cs e fr)/\cs[a.off]? =some v:=by
 unfold World.cell? at h;split at h
 .rename_i cs e fr hb;split at h
  .cases h
  next b=>exact ⟨by simpa using b,cs,e,fr,hb,h⟩
 .cases h
theorem ahy{H:Type}{enc:TypeId×Value->H}{P:Program}{W:World}{t:TypeId}(L:ai7 P t):∀(p:Nat) (cs:zc) (x:DataW H×List MemPlace),
  DataW.trod enc P W 0 (λ_=>true) true p t cs=some x->∃e,yW (λ_=>False) W cs e/\e.sz<=Rows.uptoBulk x.1:=by
 intro p
 induction p using Nat.strongRecOn with
 |ind p ih=>
 intro cs x h;obtain ⟨⟨fs,f0,f1,f2,f3,hT,hsz,g0,g1,g2,g3,⟨o0,u0,c0⟩,⟨o1,u1,c1⟩,⟨o2,u2,c2⟩,⟨o3,u3,c3⟩⟩,hc⟩:=L;obtain ⟨xs,n,rfl,rfl,hl,D,X⟩:=DataW.trod_struct hT h;rw [hc] at hl;rw [hsz] at D;obtain ⟨a0,V,U,C,rfl⟩:∃a0 V U C,cs=[a0,V,U,C]:=by
  match cs,hl with
  |[a,b,c,d],_=>exact ⟨a,b,c,d,rfl⟩
 obtain ⟨x0,x1,x2,A,rfl⟩:∃a0 V U C,xs=[a0,V,U,C]:=by
  match xs,D with
  |[a,b,c,d],_=>exact ⟨a,b,c,d,rfl⟩
 have Z:=X 0 f0 g0;have t1:=X 1 f1 g1;have t2:=X 2 f2 g2;have Y:=X 3 f3 g3;rw [o0,c0] at Z;rw [o1,c1] at t1;rw [o2,c2] at t2;rw [o3,c3] at Y;simp only [n9,q5,ua,List.drop_succ_cons,ql,hU] at Z t1 t2 Y;obtain ⟨z,e0,_,_⟩:=DataW.trod_int u0 Z;obtain ⟨w,e1,_,_⟩:=DataW.trod_int u1 t1;obtain ⟨v,e2,_,_⟩:=DataW.trod_int u2 t2;obtain rfl:a0= .int .i64 z:=by simpa using e0
 obtain rfl:V= .int .i64 w:=by simpa using e1
 obtain rfl:U= .int .i64 v:=by simpa using e2
 have hb:∀d,A.1=d->Rows.uptoBulk d+1<=Rows.uptoBulk (DataW.agg ([x0,x1,x2,A].map (·.1))):=λd hd=>by subst hd;have:=uJ (d:=A.1) (l:=[x0,x1,x2,A].map (·.1)) (by simp);simp only [Rows.uptoBulk];omega
 rcases DataW.trod_slice u3 Y with ⟨q,E⟩|⟨a,len,cap,f,rest,m,rfl,q,E,_,hlc,_,J,O,hsp,_⟩
 .obtain rfl:C= .slice none 0 0:=by simpa using q
  refine ⟨.mk z w v [],.nil z w v none,?_⟩;have:=hb _ rfl;have:=R5 A.1;simp only [Ex.sz,xx];omega
 .obtain rfl:C= .slice (some a) len cap:=by simpa using q
  obtain ⟨hrl,G⟩:=hsp rfl;rw [hc] at O G
  -- all of it is there
  have cell:∀i,i<cap->∃us y,W.cells? 0 (a.add (i*4)) 4=some us/\us.length=4/\(∀j,j<4->W.cell? ((a.add (i*4)).add j)=us[j]?)/\DataW.trod enc P W 0 (λ_=>true) true m t us=some y/\(i<len->f[i]? =some y):=λi hi=>by
   by_cases M:i<len
   .obtain ⟨y,r⟩:∃y,f[i]? =some y:=⟨f[i]'(by omega),b9 _⟩;have:=O i M;rw [r,q6] at this;obtain ⟨us,B,S⟩:=this;obtain ⟨_,q,u⟩:=World.cells?_some B;exact ⟨us,y,B,q,u,S,λ_=>r⟩
   .obtain ⟨y,r⟩:∃y,rest[i-len]? =some y:=⟨rest[i-len]'(by omega),b9 _⟩;have:=G (i-len) (by omega);rw [r,q6] at this;obtain ⟨us,B,S⟩:=this;have e:len+(i-len)=i:=by omega
    rw [e] at B;obtain ⟨_,q,u⟩:=World.cells?_some B;exact ⟨us,y,B,q,u,S,λh=>absurd h M⟩
  by_cases Q:cap=0
  .subst Q;obtain rfl:len=0:=by omega
   refine ⟨.mk z w v [],.nil z w v (some a),?_⟩;have:=hb _ rfl;have:=R5 A.1;simp only [Ex.sz,xx];omega
  .obtain ⟨us0,_,_,hl0,hc0,_⟩:=cell 0 (by omega);have T:=hc0 0 (by omega);rw [b9 (by omega)] at T;obtain ⟨hs,o,e',fr,R,_⟩:=ahp T;have F:a.spot=none:=by simpa [Addr.add] using hs
   have k:W.heap[a.block]? =some (.cells o e' fr):=by simpa [Addr.add] using R
   obtain ⟨b,g,sp⟩:=a;simp only at F k;subst F;have at_:∀i j,((⟨b,g,none⟩:Addr).add (i*4)).add j=⟨b,g+i*4+j,none⟩:=λi j=>by unfold Addr.add;split <;> split <;> simp_all
   have s:∀i,i<cap->∃us y,us.length=4/\(∀j,j<4->o[g+i*4+j]? =us[j]?)/\DataW.trod enc P W 0 (λ_=>true) true m t us=some y/\(i<len->f[i]? =some y):=λi hi=>by obtain ⟨us,y,_,q,u,h5,h6⟩:=cell i hi;refine ⟨us,y,q,λj K=>?_,h5,h6⟩;have:=u j K;rw [at_] at this;simpa [World.cell?,k] using this
   have hsize:g+cap*4<=o.size:=by obtain ⟨us,_,q,u,_⟩:=s (cap-1) (by omega);have:=u 3 (by omega);rw [b9 (by omega)] at this;have:=(Array.getElem?_eq_some_iff.1 this).1;omega
   have N:∀i y,f[i]? =some y->∃e,(yW (λ_=>False) W (((o.toList.drop g).drop (i*4)).take 4) e/\e.sz<=Rows.uptoBulk y.1):=λi y r=>by
    have hi:i<len:=by rw [<-J];exact (List.getElem?_eq_some_iff.1 r).1
    obtain ⟨us,y',q,u,h5,h6⟩:=s i (by omega);obtain rfl:y'=y:=by have:=h6 hi;rw [r] at this;exact (gj this).symm
    have hus:((o.toList.drop g).drop (i*4)).take 4=us:=by
     apply mm;intro j;by_cases K:j<4
     .rw [qk,du K,qw,qw,<-u j K];simp [q8]
     .rw [qk,dk K,ma (by omega)]
    rw [hus];exact ih m (by omega) us y' h5
   obtain ⟨l,hll,hR⟩:=UQ (λi y e=>yW (λ_=>False) W (((o.toList.drop g).drop (i*4)).take 4) e/\e.sz<=Rows.uptoBulk y.1) f N;have I:l.length=len:=by omega
   refine ⟨.mk z w v l,?_,?_⟩
   .rw [<-I];refine .some z w v l b g cap o e' fr (λh=>h) k (by omega) (by omega) ?_ (λi hi=>?_)
    .simp only [dq,j0,fi];omega
    .obtain ⟨y,r⟩:∃y,f[i]? =some y:=⟨f[i]'(by omega),b9 _⟩;have:=(hR i y l[i] r (b9 _)).1;rw [qy,qH];have e4:min 4 (l.length*4-i*4)=4:=by omega
     rw [e4];exact this
   .have B:=aiN l (f.map (·.1)) (by simp [hll]) (λi e d he hd=>by rw [qt,Option.map_eq_some_iff] at hd;obtain ⟨y,r,rfl⟩:=hd;exact (hR i y e r he).2)
    have S:A.1= .slice (f.map (·.1)) (rest.map (·.1)):=by rw [E]
    have q:=hb _ S;simp only [Ex.sz];have u:Rows.uptoBulk (DataW.slice (f.map (·.1)) (rest.map (·.1)))=Rows.uptoBulkAll (f.map (·.1))+Rows.uptoBulkAll (rest.map (·.1))+1:=by simp only [Rows.uptoBulk]
    omega
variable {Q : Nat -> Prop} {W : World}
open Go.ChangeMaps (open_string)
def wo:Ty->wi
 | .p a b=>wo a++wo b
 | .l _|.ex=>[none]
 |_=>[]
def aqX:Ty->Pt
 | .i k=> .int k
 | .bo=> .bool
 | .s=> .str
 | .l t=> .sli t
 |t=> .dat t (wo t)
def CT(Q:Nat->Prop):(t:Ty)->t.T->Prop
 | .i k,x=>(Lit.int k x).wf=true
 | .s,x=>x.length<=9223372036854775807
 | .p a b,x=>CT Q a x.1/\CT Q b x.2
 | .l t,x=>(List.length (α:=t.T) x<=9223372036854775807/\Q (List.length (α:=t.T) x))/\∀y:t.T,List.Mem y x->CT Q t y
 | .ex,x=>Q x.sz
 |_,_=>True
def MT(P:Program)(t:TypeId):Bool:=(match P.underlying t with
 |some (.int .i64)=>true
 |_=>false)&&P.cellsOf t==1
def exB(P:Program)(t:TypeId):Bool:=(match P.underlying t with
 |some (.struct fs)=>(match fs.toList with
  |[f0,f1,f2,f3]=>f0.offset==0&&MT P f0.type&&(f1.offset==1&&MT P f1.type)&&(f2.offset==2&&MT P f2.type)&&(f3.offset==3&&P.cellsOf f3.type==1&&(match P.underlying f3.type with
   |some (.slice e)=>e==t
   |_=>false))
  |_=>false)
 |_=>false)&&P.cellsOf t==4
def DG(P:Program)(fit:TypeId->Ty->Bool)(tot:Nat):List Field->Nat->Ty->Bool
 |[],_,_=>false
 |[f],off,t=>f.offset==off&&off+P.cellsOf f.type==tot&&P.cellsOf f.type==t.rep.n&&fit f.type t
 |f::g::fs,off,t=>match t with
  | .p a b=>f.offset==off&&P.cellsOf f.type==a.rep.n&&fit f.type a&&DG P fit tot (g::fs) (off+P.cellsOf f.type) b
  |_=>false
def fits(P:Program):Nat->TypeId->Ty->Bool
 |0,_,_=>false
 |n+1,i,t=>match P.underlying i with
  |some (.int k)=>(match t with
   | .i k'=>decide (k=k')
   |_=>false)
  |some .bool=>(match t with
   | .bo=>true
   |_=>false)
  |some .string=>(match t with
   | .s=>true
   |_=>false)
  |some (.slice e)=>(match t with
   | .l u=>P.cellsOf e==u.rep.n&&Nat.blt 0 u.rep.n&&fits P n e u
   |_=>false)
  |some (.struct fs)=>(match t with
   | .ex=>exB P i
   | .p a b=>DG P (fits P n) (P.cellsOf i) fs.toList 0 (.p a b)
   |_=>false)
  |_=>false
def XY:Ty->Bool
 | .n=>false
 | .p a b=>XY a&&XY b
 |_=>true
theorem NK{P:Program}{fit:TypeId->Ty->Bool}(h:∀i t,fit i t=true->XY t=true){d:Nat}:∀(j:List Field) (c:Nat) (t:Ty),DG P fit d j c t=true->XY t=true
 |[],_,_,e=>by cases e
 |[f],c,t,e=>by
  simp only [DG,au] at e;exact h _ _ e.2
 |f::g::j,c,t,e=>by
  unfold DG at e;split at e
  next a b=>simp only [au] at e;simp only [XY,au];exact ⟨h _ _ e.1.2,NK h (g::j) _ b e.2⟩
  .cases e
theorem abW{P:Program}:∀(n:Nat) (i:TypeId) (t:Ty),fits P n i t=true->XY t=true
 |0,_,_,e=>by cases e
 |n+1,i,t,e=>by
  unfold fits at e;split at e <;> (try cases e)
  .split at e
   .rfl
   .cases e
  .split at e
   .rfl
   .cases e
  .split at e
   .rfl
   .cases e
  .split at e
   .rfl
   .cases e
  .split at e
   .rfl
   .exact NK (λi t=>abW n i t) _ _ _ e
   .cases e
theorem xL{P:Program}{t:TypeId}(h:MT P t=true):P.underlying t=some (.int .i64)/\P.cellsOf t=1:=by
 unfold MT at h;simp only [au,n6] at h;refine ⟨?_,h.2⟩;revert h;split
 next h=>intro _;exact h
 .intro h;cases h.1
theorem aqR{P:Program}{t:TypeId}(h:exB P t=true):ai7 P t:=by
 unfold exB at h;simp only [au,n6] at h;obtain ⟨a,q⟩:=h;split at a
 .rename_i d b;split at a
  .rename_i k j f c hl;simp only [au,n6] at a;obtain ⟨⟨⟨⟨a0,n⟩,w,m⟩,v,l⟩,⟨u,r⟩,s⟩:=a;have g:∀i:Nat,d[i]? =[k,j,f,c][i]? :=λi=>by rw [<-hl,so]
   have o:P.underlying c.type=some (.slice t):=by
    revert s;split
    next e p=>intro hb;rw [p,(by simpa using hb:e=t)]
    .intro hb;cases hb
   refine ⟨⟨d,k,j,f,c,b,?_,g 0,g 1,g 2,g 3,⟨a0,(xL n).1,(xL n).2⟩,⟨w,(xL m).1,(xL m).2⟩,⟨v,(xL l).1,(xL l).2⟩,⟨u,o,r⟩⟩,q⟩;rw [<-fi,hl];rfl
  .cases a
 .cases a
theorem akR{a:Addr}{v:Value}(h:w.cell? a=some v):a.spot=none/\∃cs e fr,w.heap[a.block]? =some (.cells cs e fr)/\cs[a.off]? =some v:=by
 unfold World.cell? at h;split at h
 .rename_i cs e fr hb;split at h
  .cases h
  next b=>exact ⟨by simpa using b,cs,e,fr,hb,h⟩
 .cases h
theorem Qh{Y α:Type}(R:Nat->Y->α->Prop):∀(ys:List Y),(∀i y,ys[i]? =some y->∃e,R i y e)->∃l:List α,l.length=ys.length/\∀i y e,ys[i]? =some y->l[i]? =some e->R i y e
 |[],_=>⟨[],rfl,λi y e h=>by simp at h⟩
 |y::ys,h=>by
  obtain ⟨e,d⟩:=h 0 y rfl;obtain ⟨l,hl,c⟩:=Qh (λi=>R (i+1)) ys (λi y a=>h (i+1) y (by simpa using a));refine ⟨e::l,by simp [hl],λi b e' a hx=>?_⟩;cases i with
  |zero=>
   simp only [ql,ej] at a hx;subst a;subst hx;exact d
  |succ i=>exact c i b e' (by simpa using a) (by simpa using hx)
theorem Qs{H:Type}:∀(l:List (DataW H)),l.length<=Rows.uptoBulkAll l
 |[]=>pF _
 |d::l=>by have:=Qs l;have:=R5 d;simp only [eb,Rows.uptoBulkAll];omega
theorem aiZ{H:Type}{enc:TypeId×Value->H}{P:Program}{t e:TypeId}{A:fp α}{D:α->Prop}(ht:P.underlying t=some (.slice e))(hA:P.cellsOf e=A.n)(hn:0<A.n)
  (q:Nat) (cs:zc) (x:DataW H×List MemPlace) (hQ:∀n,n<=Rows.uptoBulk x.1->Q n)
  (he:∀(q:Nat) (us:zc) (y:DataW H×List MemPlace),(∀n,n<=Rows.uptoBulk y.1->Q n)->DataW.trod enc P W 0 (λ_=>true) true q e us=some y->∃z,A.rd (λ_=>False) W us z/\D z)
  (h:DataW.trod enc P W 0 (λ_=>true) true q t cs=some x):
  ∃(u:jU) (zs:List α),cs=[sl u]/\bT A (λ_=>False) W (sl u) zs/\(zs.length<=9223372036854775807/\Q zs.length)/\∀z∈zs,D z:=by
 rcases DataW.trod_slice ht h with ⟨p,_⟩|⟨a,len,cap,c,rest,m,rfl,p,hx,_,hlc,C,F,K,T,_⟩
 .exact ⟨(none,0,0),[],p,bT.nil,⟨by simp,hQ _ (pF _)⟩,by simp⟩
 .obtain ⟨hrl,B⟩:=T rfl;rw [hA] at K B;have C:cap<=9223372036854775807:=C;have hb:Rows.uptoBulk x.1=Rows.uptoBulkAll (c.map (·.1))+Rows.uptoBulkAll (rest.map (·.1))+1:=by rw [hx];simp only [Rows.uptoBulk]
  have hlb:len<=Rows.uptoBulk x.1:=by have:=Qs (c.map (·.1));simp only [nI] at this;omega
  have V:∀y∈c,∀n,n<=Rows.uptoBulk y.1->Q n:=λy o n hn=>hQ n (by have:=uJ (d:=y.1) (l:=c.map (·.1)) (List.mem_map.2 ⟨y,o,rfl⟩);omega)
  have cell:∀i,i<cap->∃us y,us.length=A.n/\(∀j,j<A.n->W.cell? ((a.add (i*A.n)).add j)=us[j]?)/\DataW.trod enc P W 0 (λ_=>true) true m e us=some y/\(i<len->c[i]? =some y):=λi hi=>by
   by_cases I:i<len
   .obtain ⟨y,o⟩:∃y,c[i]? =some y:=⟨c[i]'(by omega),b9 _⟩;have:=K i I;rw [o,q6] at this;obtain ⟨us,O,Z⟩:=this;obtain ⟨_,p,s⟩:=World.cells?_some O;exact ⟨us,y,p,s,Z,λ_=>o⟩
   .obtain ⟨y,o⟩:∃y,rest[i-len]? =some y:=⟨rest[i-len]'(by omega),b9 _⟩;have:=B (i-len) (by omega);rw [o,q6,show len+(i-len)=i by omega] at this;obtain ⟨us,O,Z⟩:=this;obtain ⟨_,p,s⟩:=World.cells?_some O;exact ⟨us,y,p,s,Z,λh=>absurd h I⟩
  by_cases L:cap=0
  .subst L;obtain rfl:len=0:=by omega
   exact ⟨(some a,0,0),[],p,bT.emp,⟨by simp,hQ _ (pF _)⟩,by simp⟩
  .obtain ⟨us0,_,hl0,U,_⟩:=cell 0 (by omega);have N:=U 0 hn;rw [b9 (by omega)] at N;obtain ⟨hs,g,e',fr,M,_⟩:=akR N;have w:a.spot=none:=by simpa [Addr.add] using hs
   have k:W.heap[a.block]? =some (.cells g e' fr):=by simpa [Addr.add] using M
   obtain ⟨b,f,sp⟩:=a;simp only at w k;subst w;have at_:∀i j,((⟨b,f,none⟩:Addr).add (i*A.n)).add j=⟨b,f+i*A.n+j,none⟩:=λi j=>by unfold Addr.add;split <;> split <;> simp_all
   have r:∀i,i<cap->∃us y,us.length=A.n/\(∀j,j<A.n->g[f+i*A.n+j]? =us[j]?)/\DataW.trod enc P W 0 (λ_=>true) true m e us=some y/\(i<len->c[i]? =some y):=λi hi=>by obtain ⟨us,y,p,s,Y,X⟩:=cell i hi;refine ⟨us,y,p,λj G=>?_,Y,X⟩;have:=s j G;rw [at_] at this;simpa [World.cell?,k] using this
   have v:f+cap*A.n<=g.size:=by
    obtain ⟨us,_,p,s,_⟩:=r (cap-1) (by omega);have:=s (A.n-1) (by omega);rw [b9 (by omega)] at this;have:=(Array.getElem?_eq_some_iff.1 this).1;have e1:cap*A.n=(cap-1)*A.n+A.n:=by
     have:cap=(cap-1)+1:=by omega
     conv=>lhs;rw [this]
     rw [qq,Nat.one_mul]
    omega
   have J:∀i y,c[i]? =some y->∃z,(A.rd (λ_=>False) W (((g.toList.drop f).drop (i*A.n)).take A.n) z/\D z):=λi y o=>by
    have hi:i<len:=by rw [<-F];exact (List.getElem?_eq_some_iff.1 o).1
    obtain ⟨us,R,p,s,Y,X⟩:=r i (by omega);obtain rfl:R=y:=by have:=X hi;rw [o] at this;exact (gj this).symm
    have S:((g.toList.drop f).drop (i*A.n)).take A.n=us:=by
     apply mm;intro j;by_cases G:j<A.n
     .rw [qk,du G,qw,qw,<-s j G];simp [q8]
     .rw [qk,dk G,ma (by omega)]
    rw [S];exact he m us R (V R (fm o)) Y
   obtain ⟨l,hll,hR⟩:=Qh (λi y z=>A.rd (λ_=>False) W (((g.toList.drop f).drop (i*A.n)).take A.n) z/\D z) c J;have E:l.length=len:=by omega
   have get:∀i (hi:i<l.length),A.rd (λ_=>False) W (((g.toList.drop f).drop (i*A.n)).take A.n) l[i]/\D l[i]:=λi hi=>by obtain ⟨y,o⟩:∃y,c[i]? =some y:=⟨c[i]'(by omega),b9 _⟩;exact hR i y l[i] o (b9 _)
   refine ⟨(some ⟨b,f,none⟩,len,cap),l,p,.inr ⟨b,f,cap,g,e',fr,by rw [E];rfl,(λh=>h),k,by omega,v,?_⟩,⟨by omega,hQ _ (by omega)⟩,λz hz=>?_⟩
   .have hle:l.length*A.n<=cap*A.n:=hV _ (by omega);refine ⟨?_,λi hi=>?_⟩
    .simp only [dq,j0,fi];omega
    .have O:i*A.n+A.n<=l.length*A.n:=by rw [<-qL];exact hV _ hi
     rw [qy,qH,iQ (by omega)];exact (get i hi).1
   .obtain ⟨i,hi,rfl⟩:=qR hz;exact (get i hi).2
theorem adK{H:Type}{enc:TypeId×Value->H}{P:Program}:∀(n:Nat) (i:TypeId) (t:Ty),fits P n i t=true->∀(o:Nat) (cs:zc) (x:DataW H×List MemPlace),
  (∀n,n<=Rows.uptoBulk x.1->Q n)->DataW.trod enc P W 0 (λ_=>true) true o i cs=some x->∃z:t.T,t.rep.rd (λ_=>False) W cs z/\CT Q t z:=by
 intro n
 induction n with
 |zero=>intro i t h;cases h
 |succ n ih=>
 intro i t c o cs x hQ h;unfold fits at c;split at c
 .rename_i k v;split at c
  .obtain ⟨z,q,_,w⟩:=DataW.trod_int v h;have e:=qB c;subst e;exact ⟨z,q,w⟩
  .cases c
 .rename_i v;split at c
  .obtain ⟨z,q,_⟩:=DataW.trod_bool v h;exact ⟨z,q,trivial⟩
  .cases c
 .rename_i v;split at c
  .obtain ⟨⟨⟨z⟩⟩,q,_,w⟩:=DataW.trod_string v h;exact ⟨z,q,w⟩
  .cases c
 .rename_i e v;split at c
  next u=>simp only [au,n6,j5] at c;obtain ⟨⟨q,G⟩,w⟩:=c;obtain ⟨p,zs,a1,a2,Z,Y⟩:=aiZ (A:=u.rep) (Q:=Q) (D:=CT Q u) v q G o cs x hQ (λo us y K h=>ih e u w o us y K h) h;exact ⟨zs,⟨p,a1,a2⟩,Z,Y⟩
  .cases c
 .rename_i C v;have key:∀t:Ty,DG P (fits P n) (P.cellsOf i) C.toList 0 t=true->∃z:t.T,t.rep.rd (λ_=>False) W cs z/\CT Q t z:=λt c=>by
   obtain ⟨xs,m,_,hx,hl,L,O⟩:=DataW.trod_struct v h;have hb:Rows.uptoBulk x.1=Rows.uptoBulkAll (xs.map (·.1))+1:=by rw [hx];simp only [Rows.uptoBulk]
   have R:∀y∈xs,∀n,n<=Rows.uptoBulk y.1->Q n:=λy K n hn=>hQ n (by have:=uJ (d:=y.1) (l:=xs.map (·.1)) (List.mem_map.2 ⟨y,K,rfl⟩);omega)
   have one:∀(j:Nat) (f:Field) (t:Ty),C.toList[j]? =some f->fits P n f.type t=true->∃z:t.T,t.rep.rd (λ_=>False) W ((cs.drop f.offset).take (P.cellsOf f.type)) z/\CT Q t z:=λj f t I ht=>by
    have F:C[j]? =some f:=by simpa using I
    have q:=O j f F;have N:j<xs.length:=by rw [L];exact (Array.getElem?_eq_some_iff.1 F).1
    rw [b9 N] at q;exact ih f.type t ht m _ _ (R _ (c9 _)) q
   have go:∀(r:List Field) (j s:Nat) (t:Ty),C.toList.drop j=r->DG P (fits P n) (P.cellsOf i) r s t=true->∃z:t.T,t.rep.rd (λ_=>False) W (cs.drop s) z/\CT Q t z:=λr=>by
    induction r with
    |nil=>intro j s t _ h;cases h
    |cons f r J=>
     intro j s t U c;have I:C.toList[j]? =some f:=by have:=congrArg (·[0]?) U;simpa [qw] using this
     have M:C.toList.drop (j+1)=r:=by rw [<-qz,U];rfl
     cases r with
     |nil=>
      simp only [DG,au,n6] at c;obtain ⟨⟨⟨q,G⟩,w⟩,S⟩:=c;obtain ⟨z,B,E⟩:=one j f t I S;rw [q,fb (by simp;omega)] at B;exact ⟨z,B,E⟩
     |cons g r=>
      unfold DG at c;split at c
      next a b=>simp only [au,n6] at c;obtain ⟨⟨⟨q,G⟩,w⟩,S⟩:=c;obtain ⟨z,B,E⟩:=one j f a I w;obtain ⟨y,X,V⟩:=J (j+1) _ b M S;rw [q] at B;refine ⟨(z,y),⟨_,_,?_,B,X⟩,E,V⟩;rw [<-qz];exact (qv ..).symm
      .cases c
   obtain ⟨z,B,E⟩:=go C.toList 0 0 t rfl c;exact ⟨z,by simpa using B,E⟩
  split at c
  .obtain ⟨e,q,G⟩:=ahy (aqR c) o cs x h;exact ⟨e,q,hQ _ G⟩
  .exact key _ c
  .cases c
 .cases c
def oq(W:World)(I:gf):Prop:= ∀it∈I,it.1=false/\it.2.cO=true/\∀M,Mv (λ_=>False) W M W->it.2.P M W
theorem oq.nil:oq W []:=λit h=>by cases h
theorem oq.app{I J:gf}(h:oq W I)(k:oq W J):oq W (I++J):=λit bI=>by
 rcases List.mem_append.1 bI with a|a
 .exact h it a
 .exact k it a
theorem oq.one{A:fp α}{p:jU}{l:List α}(h:bT A (λ_=>False) W (sl p) l):oq W [(false,Od true A p l false)]:=λit bI=>by
 rcases List.mem_singleton.1 bI with rfl
 exact ⟨rfl,rfl,λM hm _=>⟨h.mv hm,λh=>by cases h⟩⟩
theorem Kd{W:World}:∀(t:Ty) (cs:zc) (x:t.T),XY t=true->t.rep.rd (λ_=>False) W cs x->∀(o:wi) (N:List Nm),∃I N',QJ t x cs (wo t++o) N I N' o/\oq W I
 | .i k,cs,x,hn,h,o,N=>⟨[],N,⟨h,rfl,rfl,rfl⟩,.nil⟩
 | .bo,cs,x,hn,h,o,N=>⟨[],N,⟨h,rfl,rfl,rfl⟩,.nil⟩
 | .s,cs,x,hn,h,o,N=>⟨[],N,⟨h,rfl,rfl,rfl⟩,.nil⟩
 | .un,cs,x,hn,h,o,N=>⟨[],N,⟨h,rfl,rfl,rfl⟩,.nil⟩
 | .n,cs,x,hn,h,o,N=>by cases hn
 | .mp _ _,cs,x,hn,h,o,N=>absurd h id
 | .p a b,cs,x,hn,h,o,N=>by
  simp only [XY,au] at hn;obtain ⟨c1,e,d,c,r⟩:=h;obtain ⟨j,f,q,v⟩:=Kd a c1 x.1 hn.1 c (wo b++o) N;obtain ⟨g,N2,m,u⟩:=Kd b e x.2 hn.2 r o f;refine ⟨j++g,N2,⟨c1,e,f,j,g,wo b++o,?_,m,d,rfl⟩,v.app u⟩;rw [show wo (.p a b)++o=wo a++(wo b++o) by simp [wo]];exact q
 | .l t,cs,x,hn,h,o,N=>by
  obtain ⟨p,d,c⟩:=h;exact ⟨_,_,⟨⟨0,p,⟨0,0,none⟩,none,.bool false,⟨.un,()⟩⟩,d,rfl,.inl ⟨rfl,rfl⟩⟩,.one c⟩
 | .ex,cs,x,hn,h,o,N=>by obtain ⟨p,d,c⟩:=Ka h;exact ⟨_,_,⟨⟨0,p,⟨0,0,none⟩,none,.bool false,⟨.un,()⟩⟩,d,rfl,.inl ⟨rfl,rfl⟩⟩,.one c⟩
def Arg(W:World)(t:Ty)(v:Value)(z:t.T):Prop:= ∀N:List Nm,∃I N',Sem (aqX t) v none none N [⟨t,z⟩] I [] N'/\oq W I
theorem Ho{H:Type}{enc:TypeId×Value->H}{P:Program}{o:Nat}{n:Nat}{i:TypeId}(t:Ty)(f:fits P n i t=true){v:Value}{d:DataW H}{ps:List MemPlace}
  (l:Value.okWide P W .any o i v) (hQ:∀n,n<=Rows.uptoBulk d->Q n) (h:DataW.Trod enc P W 0 (λ_=>true) true i v d ps):∃z:t.T,Arg W t v z/\CT Q t z:=by
 have hk:=h;obtain ⟨m,hx⟩:=h;obtain ⟨z,c,w⟩:=adK n i t f m _ _ hQ hx;refine ⟨z,?_,w⟩;cases n with
 |zero=>cases f
 |succ n=>
 unfold fits at f;split at f
 .rename_i k j;split at f
  .have e:=qB f;subst e;obtain ⟨y,rfl,_⟩:=open_int j l hk;have:y=z:=by
    have c:([.int k y]:zc)=[.int k z]:=c;injection c with c _
    injection c
   subst this;exact λN=>⟨[],N,⟨y,rfl,rfl,rfl,rfl,rfl⟩,.nil⟩
  .cases f
 .rename_i j;split at f
  .obtain ⟨y,rfl,_⟩:=open_bool j l hk;have:y=z:=by
    have c:([.bool y]:zc)=[.bool z]:=c;injection c with c _
    injection c
   subst this;exact λN=>⟨[],N,⟨y,rfl,rfl,rfl,rfl,rfl⟩,.nil⟩
  .cases f
 .rename_i j;split at f
  .obtain ⟨⟨⟨y⟩⟩,rfl,_⟩:=open_string j l hk;have:y=z:=by
    have c:([S y]:zc)=[S z]:=c;injection c with c _
    injection c with c
    injection c with c
    injection c
   subst this;exact λN=>⟨[],N,⟨y,rfl,rfl,rfl,rfl,rfl⟩,.nil⟩
  .cases f
 .rename_i e j;split at f
  .rename_i u;obtain ⟨a,len,cap,rfl⟩:=okWide_slice j l;obtain ⟨p,r,q⟩:=c;have x:Value.slice a len cap=sl p:=by simpa [Value.cells] using r
   rw [x];exact λN=>⟨_,_,⟨⟨0,p,⟨0,0,none⟩,none,.bool false,⟨.un,()⟩⟩,z,rfl,rfl,rfl,rfl,rfl⟩,.one q⟩
  .cases f
 .rename_i B j;obtain ⟨cs,rfl,_,_⟩:=ar9 j l;split at f
  .obtain ⟨p,r,q⟩:=Ka c;exact λN=>⟨_,_,⟨cs.toList,z,[],by simp,rfl,⟨⟨0,p,⟨0,0,none⟩,none,.bool false,⟨.un,()⟩⟩,r,rfl,.inl ⟨rfl,rfl⟩⟩,rfl⟩,.one q⟩
  .rename_i a b;exact λN=>by
    obtain ⟨I,A,s,g⟩:=Kd (.p a b) _ z (NK (λi t=>abW n i t) _ _ _ f) c [] N;exact ⟨I,A,⟨cs.toList,z,[],by simp,rfl,by simpa [Value.cells] using s,rfl⟩,g⟩
  .cases f
 .cases f
def alJ(W:World)(ps:List Pt)(vs:zc)(D:List cr):Prop:= ∀N:List Nm,∃I N',yA ps vs [] [] N D I [] N'/\oq W I
theorem alY:alJ W [] [] []:=λN=>⟨[],N,⟨rfl,rfl,rfl,rfl,rfl⟩,.nil⟩
theorem MD{W:World}{t:Ty}{v:Value}{z:t.T}{ps:List Pt}{vs:zc}{D:List cr}(h:Arg W t v z)(k:alJ W ps vs D):alJ W (aqX t::ps) (v::vs) (⟨t,z⟩::D):=λN=>by obtain ⟨c,a,e,g⟩:=h N;obtain ⟨b,N2,d,f⟩:=k a;exact ⟨c++b,N2,⟨v,vs,[⟨t,z⟩],D,c,b,[],[],a,rfl,e,d,rfl,rfl,rfl⟩,g.app f⟩
theorem alD{I:gf}{Γ:Ctx}(g:oq W I)(hn:Xg Γ)(h:Sat Γ W):Sat (dH I++Γ) W:=Fe h _ (λit bI=>by obtain ⟨x,hx,rfl⟩:=List.mem_map.1 bI;exact ⟨(g x hx).2.1,(g x hx).2.2 _ (anN hn)⟩)
namespace Ns
theorem ate{a:Au}(h:CT (λn=>n<=1048576) (.p (.l (.l .ex)) (.p (.l (.l (.i .i64))) (.p (.l (.i .i64)) (.l (.l (.i .i64)))))) a):Qc a:=
 ⟨h.1.1.2,λl hl=>⟨(h.1.2 l hl).1.2,λe b=>(h.1.2 l hl).2 e b⟩,h.2.1.1.2,λl hl=>(h.2.1.2 l hl).1.2,h.2.2.1.1.2,h.2.2.2.1.2,λl hl=>(h.2.2.2.2 l hl).1.2⟩
theorem arj(text:aE)(a:Au)(o:So.Op)(d:CT (λn=>n<=1048576) .s text)(b:CT (λn=>n<=1048576) (.p (.l (.l .ex)) (.p (.l (.l (.i .i64))) (.p (.l (.i .i64)) (.l (.l (.i .i64)))))) a)
  (c:CT (λn=>n<=1048576) (.p (.i .i64) (.p (.i .i64) (.p (.i .i64) (.p (.i .u64) (.p (.i .i64) (.i .i64)))))) o):kE text a o=some true:=akc text a o (ate b)
end Ns
end
end Go.Proofs.YtcgihjbfppkcfaaGreatDoor
