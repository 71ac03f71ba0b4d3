/- Own texts for NestMoreQ, cut and joined by a program. -/
import Derived.Test.YtcgihjbfppkcfaaGreatDoorNestMoreQJ
import Derived.Lib.LaidTab
import Derived.Below
import Derived.ProofKit
import Derived.Test.YtcgihjbfppkcfaaGreatDoorRows
import Derived.Carry
import Derived.ChangeSlices
import Derived.OpenShut
set_option linter.all false
namespace Go.Proofs.YtcgihjbfppkcfaaGreatDoor
open IntKind (u64)
noncomputable section
variable {k : Nat} {q : Int} {v : zk}
namespace Pd
open Sp
theorem aem{l:zk}{u:Nat}(a:u<18446744073709551616)(hl:l.length<100000000000):S3 l (u:Int) 10=some (l++aQ (Lib.decDigits u)):=by
 unfold S3;rw [show ((10:Int)==10)=true from rfl,cx (by omega),cx (by omega),fc,fc,fc,
  Sy.aO (Sy.cD (by omega) (by omega)),j5]
theorem asK{x:Int}(b:0<=x)(a:x<18446744073709551616):u64.wrap x=x:=by rw [IntKind.wrap_u64];omega
theorem aqm{l:zk}{i:Int}(c: -9223372036854775808<=i)(b:i<=9223372036854775807)(hl:l.length<10000000000):mF l i 10=some (l++aQ (Lib.itoa i)):=by
 unfold mF j2;simp only [aK];by_cases hi:i<0
 .rw [cx hi,ca,Sy.aO (Sy.cD (by simp;omega) (by simp;omega))];obtain ⟨u,rfl⟩:∃u:Nat,i= -(u):=⟨i.natAbs,by omega⟩;have a:u64.wrap (0-u64.wrap (-(u)))=(u):=by grind [IntKind.wrap_u64]
  unfold iR;rw [a,aem (by omega) (by simp;omega),ah,ah,show Lib.itoa (-(u))=45::Lib.decDigits u from by simp_all [Lib.itoa]];simp [aQ]
 .rw [cy hi,b7];obtain ⟨u,rfl⟩:∃u:Nat,i=(u):=⟨i.toNat,by omega⟩;unfold iR;rw [asK (by omega) (by omega),aem (by omega) (by omega),ah,ah,show Lib.itoa (u)=Lib.decDigits u from by simp_all [Lib.itoa]]
def keyOf(v:zk):aE:=v.flatMap λn=>32::Lib.itoa n
theorem ZO(v:zk):keyOf v++[32]=32::fv v:=by
 induction v with
 |nil=>rfl
 |cons x r ih=>
  grind [keyOf,fv,List.append_assoc]
theorem key_inj{a b:zk}(h:keyOf a=keyOf b):a=b:=by grind [keyOf,ZO,Ro,List.cons.inj]
theorem ao3(a b:zk):keyOf (a++b)=keyOf a++keyOf b:=by simp [keyOf]
theorem aqr(h:wg v):(keyOf v).length<=21*v.length:=by have a:=congrArg List.length (ZO v);grind [acJ]
def vh(l:w5)(at_:Option (List (aE×Bool))):Prop:=(at_=none->l=[])/\∀v,ez at_ (keyOf v) false=l.contains v
theorem Xu:vh [] none:=⟨λ_=>rfl,λa=>rfl⟩
theorem ap2{x:zk}{l:w5}{a:List (aE×Bool)}(f:l.length<1000000000)(d:vh l (some a)):
  ∃at',(bif (!(ez (some a) (strOf (aQ (keyOf x))) false)) then ((some a).bind λb=>aN (aH (List.length l+List.length ([x]:w5)) 24)<|some ((l++([x]:w5)),(some (l6 b (strOf (aQ (keyOf x))) true)))) else some (l,some a))=some (iB l x,at')/\vh (iB l x) at':=by
 have k1:aH (List.length l+List.length ([x])) 24=true:=Sy.cD (by simp;omega) (by simp;omega);rw [LS,d.2 x];unfold iB;cases g:l.contains x
 .simp only [Sy.aO k1,eF];refine ⟨_,rfl,(λh=>by cases h),λu=>?_⟩;have c:=d.2 u;unfold ez at c ⊢;simp at c ⊢;rw [GV,c];have e:(keyOf u==keyOf x)=(u==x):=by grind [beq_eq_false_iff_ne,key_inj]
  grind
 grind
theorem Rh{x:zk}(hx:wg x)(hl:x.length<100000000){l:w5}{c:List (aE×Bool)}(b:l.length<1000000000)(d:vh l (some c)):
  ∀(r pre:zk),x=pre++r->∀M,r.length<M->∃a,aj (tC x l (some c)) M (aQ (keyOf pre),(pre.length:Int))=some (iB l x,a)/\vh (iB l x) a
 |[],pre,h,M,hM=>by
  obtain ⟨m,rfl⟩:∃m,M=m+1:=⟨M-1,by omega⟩;rw [ar];simp only [tC,Sy.u5 h];have e:pre=x:=by rw [h];simp
  rw [e];exact ap2 b d
 |n::r,pre,h,M,hM=>by
  obtain ⟨m,rfl⟩:∃m,M=m+1:=⟨M-1,by omega⟩;rw [ar];have hn:=hx n (by rw [h];simp);have hp:wg pre:=λn hn=>hx n (by grind);have hk:=aqr hp;obtain ⟨a,g,f⟩:=Rh hx hl b d r (pre++[n]) (by rw [h];simp) m (by simp at hM;omega);have i:aQ (keyOf (pre++[n]))=(aQ (keyOf pre)++[32])++aQ (Lib.itoa n):=by rw [ao3,PM];simp [keyOf,qO,List.flatMap_nil,ko,cp];rfl
  simp [tC,Sy.ll h];grind [Sy.aO,Sy.cD,H5,aqm,List.length_append,ah,Pa.bQ]
structure Row(x:zk):Prop where
 i64:wg x
 short:x.length<100000000
theorem add_eq{x:zk}(hx:Row x){l:w5}{at_:Option (List (aE×Bool))}(a:l.length<1000000000)(b:vh l at_):
  ∃at',ue x l at_=some (iB l x,at')/\vh (iB l x) at':=by
 cases at_ with
 |none=>
  exact Rh hx.i64 hx.short a ⟨(λh=>by cases h),λu=>b.2 u⟩ x [] rfl an (by have:=hx.short;show _<2^64;omega)
 |some c=>
  exact Rh hx.i64 hx.short a b x [] rfl an (by have:=hx.short;show _<2^64;omega)
abbrev Au:=List (List Ex)×w5×zk×w5
structure vo(a:Au)(k:Nat):Prop where
 lits:a.1.length=k
 next:a.2.1.length=k
 da:k<=5000
 row:∀l∈a.1,l.length<=5000/\∀e∈l,e.sz<1000000
 init:a.2.2.1.length<=5000/\∀q∈a.2.2.1,0<=q/\q<k
 nxt:∀l∈a.2.1,l.length<=5000/\∀q∈l,0<=q/\q<k
def acx(a:Au)(q:Int):List Ex:=(a.1[q.toNat]?).getD []
def wm(a:Au)(q:Int):zk:=(a.2.1[q.toNat]?).getD []
def o9(a:Au)(q:Int)(v:zk):Bool:=(acx a q).all λe=>ev v e==1
theorem Xz(s:List Ex)(v:zk)(d:s.length<=5000)(b:∀e∈s,e.sz<1000000):∀(r pre:List Ex),s=pre++r->∀M,r.length<M->
  ∃i:Int,aj (dK s v) M (pre.length:Int)=some i/\decide (0<=i)= !(r.all λe=>ev v e==1)
 |[],pre,h,M,hM=>by
  obtain ⟨m,rfl⟩:∃m,M=m+1:=⟨M-1,by omega⟩;rw [ar];simp only [dK,Sy.u5 h];exact ⟨_,rfl,rfl⟩
 |e::r,pre,h,M,hM=>by
  obtain ⟨m,rfl⟩:∃m,M=m+1:=⟨M-1,by omega⟩;rw [ar];have a:pre.length+r.length+1=s.length:=by rw [h];simp;omega
  have c:=b e (by rw [h];simp);obtain ⟨i,g,f⟩:=Xz s v d b r (pre++[e]) (by rw [h];simp) m (by simp at hM;omega);simp [dK,Sy.ll h,ah,BE,VV e (by omega) v,Pa.bQ (show pre.length<4611686018427387904 by omega)];grind
theorem Vx{α:Type}{l:List α}(hl:l.length=k)(h:0<=q/\q<k):∃x,idx l q=some x/\l[q.toNat]? =some x/\x∈l:=by simp_all [idx]
theorem afl{a:Au}(ha:vo a k){q:Int}(b:0<=q/\q<k)(v:zk):Fz a q v=some (o9 a q v):=by obtain ⟨s,j,h,e⟩:=Vx ha.lits b;obtain ⟨d,c⟩:=ha.row s e;obtain ⟨i,g,f⟩:=Xz s v d c s [] rfl an (by show _<2^64;omega);unfold Fz fZ gW o9 acx;grind
def dP(a:Au)(v:zk)(qs:zk):w5:=(qs.filter λq=>o9 a q v).map λq=>v++[q]
theorem G8{a:Au}{qs:zk}:(dP a v qs).length<=qs.length:=by grind [dP,List.length_map,List.length_filter_le]
theorem SF{a:Au}{v qs:zk}{q:Int}:dP a v (q::qs)=if o9 a q v then (v++[q])::dP a v qs else dP a v qs:=by grind [dP]
theorem alo(a:wg v)(hl:v.length<1000000)(hk:k<=5000)(b:0<=q/\q<k):Row (v++[q]):=
 ⟨λn hn=>by
  rcases List.mem_append.1 hn with h|h
  .exact a n h
  grind,by simp;omega⟩
theorem Kn{l a b:w5}:dp l (a++b)=dp (dp l a) b:=by simp [dp]
theorem ad6{a:Au}(ha:vo a k){v:zk}(g:wg v)(hl:v.length<1000000){q:Int}(i:0<=q/\q<k){l:w5}{at_:Option (List (aE×Bool))}(j:l.length<100000000)(h:vh l at_){R:Type}(d go:w5->Option (List (aE×Bool))->Option R):
  ∃c,(bif o9 a q v then ((bA v).bind λe=>aN (aH (List.length e+List.length ([q]:zk)) 8)<|(ue (e++([q]:zk)) l at_).bind λb=>ai (!true) λf=>bif f then d b.1 b.2 else go b.1 b.2) else go l at_)=
   go (if o9 a q v then iB l (v++[q]) else l) c/\vh (if o9 a q v then iB l (v++[q]) else l) c:=by
 cases o:o9 a q v
 .grind
 .obtain ⟨c,n,m⟩:=add_eq (alo g hl ha.da i) (by omega) h;refine ⟨c,?_,m⟩;rw [ca,RT v (by omega),ah,Sy.aO (Sy.cD (by simp;omega) (by simp;omega)),n,ah];rfl
theorem XU{a:Au}{k:Nat}(ha:vo a k){v:zk}(e:wg v)(hl:v.length<1000000)(qs:zk)(c:qs.length<=5000)(f:∀q∈qs,0<=q/\q<k):∀(r pre:zk),qs=pre++r->∀(l:w5) (at_:Option (List (aE×Bool))) (M:Nat),vh l at_->l.length<=pre.length->r.length<M->
  aj (uK (qs,a.1,a.2.1,a.2.2.1,a.2.2.2,v)) M ((pre.length:Int),l,at_)=some (dp l (dP a v r))
 |[],pre,h,l,at_,M,hs,hll,hM=>by
  obtain ⟨m,rfl⟩:∃m,M=m+1:=⟨M-1,by omega⟩;rw [ar];simp only [uK,Sy.u5 h];rfl
 |q::r,pre,h,l,at_,M,hs,hll,hM=>by
  obtain ⟨m,rfl⟩:∃m,M=m+1:=⟨M-1,by omega⟩;rw [ar];have g:pre.length+r.length+1=qs.length:=by rw [h];simp;omega
  have b:=f q (by rw [h];simp);simp only [uK,Sy.uY h,Sy.ll h,ah];rw [show (a.1,a.2.1,a.2.2.1,a.2.2.2)=a from rfl,afl ha b,ah,Pa.bQ (by omega)];obtain ⟨d,n,j⟩:=ad6 ha e hl b (by omega) hs (λl _=>some l) (λl o=>aj (uK (qs,a.1,a.2.1,a.2.2.1,a.2.2.2,v)) m (((pre.length+1:Nat)),l,o));rw [n,SF];have i:(if o9 a q v then iB l (v++[q]) else l).length<=pre.length+1:=by grind [FB]
  have ih:=XU ha e hl qs c f r (pre++[q]) (by rw [h];simp) _ d m j (by simp;omega) (by simp at hM;omega);rw [show ((pre++[q]).length)=((pre.length+1:Nat)) by simp] at ih;rw [ih];cases o9 a q v <;> rfl
theorem aqG{m:Sy.bp}(hm:SafeS m.2.1 m.2.2.2.2)(hi:sO m.2.1 m.2.2.1){a:Au}{k:Nat}(ha:vo a k):BW m a=some (dp [] (dP a m.2.2.1 a.2.2.1)):=by unfold BW Ci;rw [ah];have b:=hi.len;have c:=hm.da;exact XU ha (hi.i64 hm) (by omega) a.2.2.1 ha.init.1 ha.init.2 a.2.2.1 [] rfl [] none an Xu (cK _) (by have:=ha.init.1;show _<2^64;omega)
theorem aeK{a:Au}{k:Nat}(ha:vo a k){v:zk}(g:wg v)(hl:v.length<1000000)(t:Int)(b:w5×(Option (List (aE×Bool)))×Int->Option (w5×Int))(qs:zk)(e:qs.length<=5000)(i:∀q∈qs,0<=q/\q<k):
  ∀(r pre:zk),qs=pre++r->∀(l:w5) (at_:Option (List (aE×Bool))) (M:Nat),vh l at_->l.length<=10000000+pre.length->r.length<M->
  ∃c,aj (ud t b (qs,a.1,a.2.1,a.2.2.1,a.2.2.2,v)) M ((pre.length:Int),l,at_)=b (dp l (dP a v r),c,IntKind.i64.wrap (t+1))/\vh (dp l (dP a v r)) c
 |[],pre,h,l,at_,M,hs,hll,hM=>by
  obtain ⟨m,rfl⟩:∃m,M=m+1:=⟨M-1,by omega⟩;rw [ar];simp only [ud,Sy.u5 h];exact ⟨at_,rfl,hs⟩
 |q::r,pre,h,l,at_,M,hs,hll,hM=>by
  obtain ⟨m,rfl⟩:∃m,M=m+1:=⟨M-1,by omega⟩;rw [ar];have j:pre.length+r.length+1=qs.length:=by rw [h];simp;omega
  have d:=i q (by rw [h];simp);simp only [ud,Sy.uY h,Sy.ll h,ah];rw [show (a.1,a.2.1,a.2.2.1,a.2.2.2)=a from rfl,afl ha d,ah,Pa.bQ (by omega)];obtain ⟨c,s,p⟩:=ad6 ha g hl d (by omega) hs (λl f=>b (l,f,IntKind.i64.wrap (t+1))) (λl f=>aj (ud t b (qs,a.1,a.2.1,a.2.2.1,a.2.2.2,v)) m (((pre.length+1:Nat)),l,f));rw [s,SF];have n:(if o9 a q v then iB l (v++[q]) else l).length<=10000000+(pre.length+1):=by grind [FB]
  have ih:=aeK ha g hl t b qs e i r (pre++[q]) (by rw [h];simp) _ c m p (by simp;omega) (by simp at hM;omega);rw [show ((pre++[q]).length)=((pre.length+1:Nat)) by simp] at ih;cases o:o9 a q v <;> rw [o] at ih <;> exact ih
def wx(a:Au)(qs:zk)(ws:w5):w5:=ws.flatMap λw=>dP a w qs
theorem NR{a:Au}{qs:zk}(h:qs.length<=5000):∀ws:w5,(wx a qs ws).length<=5000*ws.length
 |[]=>by simp [wx]
 |w::ws=>by have:=NR (a:=a) h ws;grind [G8,wx,List.length_append,List.length_cons]
theorem BU{a:Au}{k:Nat}(ha:vo a k){r11:zk×Int}{b:w5×Int}(i:0<=r11.2/\r11.2<k)(g:∀w∈b.1,wg w/\w.length<1000000)(hn:b.1.length<=1000):
  ∀(r pre:w5),b.1=pre++r->∀(l:w5) (at_:Option (List (aE×Bool))) (M:Nat),vh l at_->l.length<=5000*pre.length->r.length<M->
   aj (uL a r11 b) M (l,at_,(pre.length:Int))=some (dp l (wx a (wm a r11.2) r),0)
 |[],pre,h,l,at_,M,hs,hll,hM=>by
  obtain ⟨m,rfl⟩:∃m,M=m+1:=⟨M-1,by omega⟩;rw [ar];simp only [uL,Sy.u5 h];rfl
 |w::r,pre,h,l,at_,M,hs,hll,hM=>by
  obtain ⟨m,rfl⟩:∃m,M=m+1:=⟨M-1,by omega⟩;rw [ar];have j:pre.length+r.length+1=b.1.length:=by rw [h];simp;omega
  obtain ⟨qs,t,u,s⟩:=Vx ha.next i;have c:=ha.nxt qs s;have p:wm a r11.2=qs:=by grind [wm]
  obtain ⟨e,d⟩:=g w (by rw [h];simp);simp [uL,Sy.ll h,ah,t,Ci];obtain ⟨f,n,q⟩:=aeK ha e d (pre.length) (aj (uL a r11 b) m) qs c.1 c.2 qs [] rfl l at_ an hs (by omega) (by show _<2^64;omega);rw [show ((([]:zk).length):Int)=0 from rfl] at n;rw [n,Pa.bQ (by omega)];have hd:=sD (dP a w qs) l;have o:=G8 (a:=a) (v:=w) (qs:=qs);have ih:=BU ha i g hn r (pre++[w]) (by rw [h];simp) _ f m q (by simp;omega) (by simp at hM;omega);grind [wx,Kn]
def Gw(m:Sy.bp)(a:Au)(v:zk)(q:Int):w5×Int:=
 if (fk m.2.1 m.2.2.2.2 v).2=0 then (dp [] (wx a (wm a q) (fk m.2.1 m.2.2.2.2 v).1),0) else ([],(fk m.2.1 m.2.2.2.2 v).2)
theorem afi{n:Nat}:kM 0 (n:Int) (n:Int) (n+1)=true:=by grind [kM]
theorem ZX(b:v.length<1000000):yT (v++[q])=some (v,q):=by
 unfold yT;have a:IntKind.i64.wrap ((List.length (v++[q]))-1)=(v.length):=by grind [bq]
 rw [a,show (v++[q]).length=v.length+1 by simp,Sy.aO (by rw [afi];simp)];have c:idx (v++[q]) (v.length)=some q:=by unfold idx;grind
 simp_all [aV]
theorem ams{m:Sy.bp}(hm:SafeS m.2.1 m.2.2.2.2){v:zk}(b:sO m.2.1 v){a:Au}{k:Nat}(ha:vo a k){q:Int}(f:0<=q/\q<k):xJ m a (v++[q])=some (Gw m a v q):=by
 have g:=b.len;have h:=hm.da;have d:=NP (S:=m.2.1) (cmds:=m.2.2.2.2) v;have i:=hm.cmds;unfold xJ Gw;rw [ZX (by omega),ah,apb hm b,ah];by_cases c:(fk m.2.1 m.2.2.2.2 v).2=0
 .rw [du c,show ((fk m.2.1 m.2.2.2.2 v).2 != 0)=false by simpa using c,b7];have:=BU ha (r11:=(v,q)) f (λw e=>by have hi:=R9 b w e;have:=hi.len;exact ⟨hi.i64 hm,by omega⟩) (by omega) (fk m.2.1 m.2.2.2.2 v).1 [] rfl [] none an Xu (pA _) (by show _<2^64;omega)
  exact this
 grind
def St(m:Sy.bp)(k:Nat)(x:zk):Prop:= ∃v q,x=v++[q]/\sO m.2.1 v/\0<=q/\q<(k:Int)
def bF(m:Sy.bp)(a:Au)(x:zk):w5×Int:=Gw m a x.dropLast (x.getLastD 0)
theorem Kp(m:Sy.bp)(a:Au)(v:zk)(q:Int):bF m a (v++[q])=Gw m a v q:=by unfold bF;grind
theorem anE{m:Sy.bp}(hm:SafeS m.2.1 m.2.2.2.2){a:Au}{k:Nat}(ha:vo a k){x:zk}(hx:St m k x):xJ m a x=some (bF m a x):=by obtain ⟨v,q,rfl,b,d,c⟩:=hx;grind [Kp,ams]
theorem GB{a:Au}{qs y:zk}(h:y∈dP a v qs):∃q,q∈qs/\o9 a q v=true/\y=v++[q]:=by unfold dP at h;grind
theorem XP{a:Au}{k:Nat}(ha:vo a k){q:Int}(b:0<=q/\q<k):(wm a q).length<=5000/\∀p∈wm a q,0<=p/\p<(k:Int):=by obtain ⟨qs,e,d,c⟩:=Vx ha.next b;unfold wm;rw [d];exact ha.nxt qs c
theorem R7{m:Sy.bp}{a:Au}(ha:vo a k){x:zk}(hx:St m k x):∀y∈(bF m a x).1,St m k y:=by
 obtain ⟨v,q,rfl,e,g,f⟩:=hx;rw [Kp];intro y b;unfold Gw at b;split at b
 .rcases ny.1 b with h|h
  .cases h
  .obtain ⟨w,d,c⟩:=List.mem_flatMap.1 h;obtain ⟨p,hp,_,rfl⟩:=GB c;have:=(XP ha ⟨g,f⟩).2 p hp;exact ⟨w,p,rfl,R9 e w d,this.1,this.2⟩
 .cases b
theorem Hg{m:Sy.bp}(hm:SafeS m.2.1 m.2.2.2.2){a:Au}{k:Nat}(ha:vo a k){x:zk}(hx:St m k x):(bF m a x).1.length<=2000000:=by
 obtain ⟨v,q,rfl,d,c,b⟩:=hx;rw [Kp];unfold Gw;split
 .have h:=sD (wx a (wm a q) (fk m.2.1 m.2.2.2.2 v).1) [];have g:=NR (a:=a) (XP ha ⟨c,b⟩).1 (fk m.2.1 m.2.2.2.2 v).1;have f:=NP (S:=m.2.1) (cmds:=m.2.2.2.2) v;have e:=hm.cmds;grind
 .simp
end Pd
namespace Ns
abbrev V:=zk
abbrev ka:=List (V×List V)
abbrev bp:=Sy.bp
abbrev Au:=Pd.Au
abbrev St:=So.St
abbrev FT:=Int×xb×Int×Int×w5×zk×zk×(List (Int×w5×zk))×Int×w5×zk×zk×(List (Int×w5×zk))×zk×Int×(List (xb×Int))×Int×Int×zk×Int×(List (xb×Int))×Int×Int×zk×Int×(List (xb×Int))×Int×Int×zk×Int×Int×Int×zk×zk×zk
abbrev fl(t:St):FT:=(t.1,t.2.1,t.2.2.1,t.2.2.2.1.1.1,t.2.2.2.1.1.2.1,t.2.2.2.1.1.2.2,t.2.2.2.1.2,t.2.2.2.2.1.1,t.2.2.2.2.1.2.1.1,t.2.2.2.2.1.2.1.2.1,t.2.2.2.2.1.2.1.2.2,t.2.2.2.2.1.2.2,t.2.2.2.2.2.1.1,t.2.2.2.2.2.1.2,t.2.2.2.2.2.2.1.1.1,t.2.2.2.2.2.2.1.1.2.1,t.2.2.2.2.2.2.1.1.2.2.1,t.2.2.2.2.2.2.1.1.2.2.2.1,t.2.2.2.2.2.2.1.1.2.2.2.2,t.2.2.2.2.2.2.1.2.1.1,t.2.2.2.2.2.2.1.2.1.2.1,t.2.2.2.2.2.2.1.2.1.2.2.1,t.2.2.2.2.2.2.1.2.1.2.2.2.1,t.2.2.2.2.2.2.1.2.1.2.2.2.2,t.2.2.2.2.2.2.1.2.2.1,t.2.2.2.2.2.2.1.2.2.2.1,t.2.2.2.2.2.2.1.2.2.2.2.1,t.2.2.2.2.2.2.1.2.2.2.2.2.1,t.2.2.2.2.2.2.1.2.2.2.2.2.2,t.2.2.2.2.2.2.2.1,t.2.2.2.2.2.2.2.2.1,t.2.2.2.2.2.2.2.2.2.1,t.2.2.2.2.2.2.2.2.2.2.1,t.2.2.2.2.2.2.2.2.2.2.2.1,t.2.2.2.2.2.2.2.2.2.2.2.2)
abbrev Er:=(Int×V) ⊕ (List V×List V)
section
variable {β : Type} (x : V) (s : ka) (m : bp) (a : Au) (t : St) (k : Int)
abbrev IJ(f:Int->xb->Int->Int->w5->zk->zk->List (Int×w5×zk)->Int->w5->zk->zk->List (Int×w5×zk)->zk->Int->List (xb×Int)->Int->Int->zk->Int->List (xb×Int)->Int->Int->zk->Int->List (xb×Int)->Int->Int->zk->Int->Int->Int->zk->zk->zk->β):β:=f t.1 t.2.1 t.2.2.1 t.2.2.2.1.1.1 t.2.2.2.1.1.2.1 t.2.2.2.1.1.2.2 t.2.2.2.1.2 t.2.2.2.2.1.1 t.2.2.2.2.1.2.1.1 t.2.2.2.2.1.2.1.2.1 t.2.2.2.2.1.2.1.2.2 t.2.2.2.2.1.2.2 t.2.2.2.2.2.1.1 t.2.2.2.2.2.1.2 t.2.2.2.2.2.2.1.1.1 t.2.2.2.2.2.2.1.1.2.1 t.2.2.2.2.2.2.1.1.2.2.1 t.2.2.2.2.2.2.1.1.2.2.2.1 t.2.2.2.2.2.2.1.1.2.2.2.2 t.2.2.2.2.2.2.1.2.1.1 t.2.2.2.2.2.2.1.2.1.2.1 t.2.2.2.2.2.2.1.2.1.2.2.1 t.2.2.2.2.2.2.1.2.1.2.2.2.1 t.2.2.2.2.2.2.1.2.1.2.2.2.2 t.2.2.2.2.2.2.1.2.2.1 t.2.2.2.2.2.2.1.2.2.2.1 t.2.2.2.2.2.2.1.2.2.2.2.1 t.2.2.2.2.2.2.1.2.2.2.2.2.1 t.2.2.2.2.2.2.1.2.2.2.2.2.2 t.2.2.2.2.2.2.2.1 t.2.2.2.2.2.2.2.2.1 t.2.2.2.2.2.2.2.2.2.1 t.2.2.2.2.2.2.2.2.2.2.1 t.2.2.2.2.2.2.2.2.2.2.2.1 t.2.2.2.2.2.2.2.2.2.2.2.2
abbrev tz(f:List aE->xb->zk->List aE->List (Int×Ex×List (Int×Ex))->List (List Ex)->w5->zk->w5->β):β:=f m.1 m.2.1 m.2.2.1 m.2.2.2.1 m.2.2.2.2 a.1 a.2.1 a.2.2.1 a.2.2.2
end
noncomputable section
variable (x : V) (s : ka) (m : bp) (a : Au) (t : St) (k : Int)
abbrev JI:=IJ t (tz m a (jM x)) k
abbrev WQ:=IJ t (tz m a (pS x)) k
abbrev xv:=IJ t (tz m a (fN s x)) k
abbrev N9:=IJ t (tz m a (nR x)) k
abbrev Lw:=IJ t (tz m a (lX s)) k
abbrev ajw:=IJ t (tz m a (wI x)) k
abbrev Wa:=IJ t (tz m a pN) k
abbrev rv:=tz m a kF k
abbrev BK:=tz m a nG k
abbrev Lc:=tz m a mz k
end
def Az(t:St)(x:V):Option (Except (Int×V) (Bool×St)):=(dC t x).bind λr=>bif (r.2.2 != 0) then some (.error (r.2.2,[])) else some (.ok (r.2.1,r.1))
def GI(t:St)(x:V):Option (Except (Int×V) (Bool×St)):=Dj (Az t x) λr=>(dw r.2 x 1).bind λg=>bif g.1 then some (.ok (false,r.2)) else (gq r.2 x 1).bind λs=>some (.ok (true,s.1))
abbrev Qj{E A B:Type}(f:A->B)(x:Option (Except E A)):Option (Except E B):=x.map λr=>match r with
 | .error e=> .error e
 | .ok v=> .ok (f v)
theorem Sk(x:V)(m:bp)(a:Au)(t:St)(most:Int):JI x m a t most=Qj (λr:Bool×St=>(r.1,r.2.1,r.2.2.1,r.2.2.2.1,r.2.2.2.2.1.1.1,r.2.2.2.2.1.1.2.1,r.2.2.2.2.1.1.2.2,r.2.2.2.2.1.2,r.2.2.2.2.2.1.1,r.2.2.2.2.2.1.2.1.1,r.2.2.2.2.2.1.2.1.2.1,r.2.2.2.2.2.1.2.1.2.2,r.2.2.2.2.2.1.2.2,r.2.2.2.2.2.2.1.1,r.2.2.2.2.2.2.1.2,r.2.2.2.2.2.2.2.1.1.1,r.2.2.2.2.2.2.2.1.1.2.1,r.2.2.2.2.2.2.2.1.1.2.2.1,r.2.2.2.2.2.2.2.1.1.2.2.2.1,r.2.2.2.2.2.2.2.1.1.2.2.2.2,r.2.2.2.2.2.2.2.1.2.1.1,r.2.2.2.2.2.2.2.1.2.1.2.1,r.2.2.2.2.2.2.2.1.2.1.2.2.1,r.2.2.2.2.2.2.2.1.2.1.2.2.2.1,r.2.2.2.2.2.2.2.1.2.1.2.2.2.2,r.2.2.2.2.2.2.2.1.2.2.1,r.2.2.2.2.2.2.2.1.2.2.2.1,r.2.2.2.2.2.2.2.1.2.2.2.2.1,r.2.2.2.2.2.2.2.1.2.2.2.2.2.1,r.2.2.2.2.2.2.2.1.2.2.2.2.2.2,r.2.2.2.2.2.2.2.2.1,r.2.2.2.2.2.2.2.2.2.1,r.2.2.2.2.2.2.2.2.2.2.1,r.2.2.2.2.2.2.2.2.2.2.2.1,r.2.2.2.2.2.2.2.2.2.2.2.2.1,r.2.2.2.2.2.2.2.2.2.2.2.2.2)) (Az t x):=by
 unfold JI IJ tz jM Az;cases dC t x with
 |none=>rfl
 |some r=>
  obtain ⟨t',b,e⟩:=r;simp;cases e != 0 <;> rfl
theorem alc(x:V)(m:bp)(a:Au)(t:St)(most:Int):WQ x m a t most=Qj (λr:Bool×St=>(r.1,r.2.1,r.2.2.1,r.2.2.2.1,r.2.2.2.2.1.1.1,r.2.2.2.2.1.1.2.1,r.2.2.2.2.1.1.2.2,r.2.2.2.2.1.2,r.2.2.2.2.2.1.1,r.2.2.2.2.2.1.2.1.1,r.2.2.2.2.2.1.2.1.2.1,r.2.2.2.2.2.1.2.1.2.2,r.2.2.2.2.2.1.2.2,r.2.2.2.2.2.2.1.1,r.2.2.2.2.2.2.1.2,r.2.2.2.2.2.2.2.1.1.1,r.2.2.2.2.2.2.2.1.1.2.1,r.2.2.2.2.2.2.2.1.1.2.2.1,r.2.2.2.2.2.2.2.1.1.2.2.2.1,r.2.2.2.2.2.2.2.1.1.2.2.2.2,r.2.2.2.2.2.2.2.1.2.1.1,r.2.2.2.2.2.2.2.1.2.1.2.1,r.2.2.2.2.2.2.2.1.2.1.2.2.1,r.2.2.2.2.2.2.2.1.2.1.2.2.2.1,r.2.2.2.2.2.2.2.1.2.1.2.2.2.2,r.2.2.2.2.2.2.2.1.2.2.1,r.2.2.2.2.2.2.2.1.2.2.2.1,r.2.2.2.2.2.2.2.1.2.2.2.2.1,r.2.2.2.2.2.2.2.1.2.2.2.2.2.1,r.2.2.2.2.2.2.2.1.2.2.2.2.2.2,r.2.2.2.2.2.2.2.2.1,r.2.2.2.2.2.2.2.2.2.1,r.2.2.2.2.2.2.2.2.2.2.1,r.2.2.2.2.2.2.2.2.2.2.2.1,r.2.2.2.2.2.2.2.2.2.2.2.2.1,r.2.2.2.2.2.2.2.2.2.2.2.2.2)) (GI t x):=by
 unfold WQ IJ tz pS GI;show Dj (JI x m a t most) _=_;rw [Sk];cases Az t x with
 |none=>rfl
 |some r=>
  cases r with
  |error e=>rfl
  |ok r=>
   obtain ⟨b,t'⟩:=r;show (dw t' x 1).bind _=Qj _ ((dw t' x 1).bind _);cases dw t' x 1 with
   |none=>rfl
   |some g=>
    simp;cases g.1 with
    |true=>rfl
    |false=>
     cases gq t' x 1 <;> rfl
def sG(m:bp)(a:Au)(most:Int)(n:Nat)(x:V):Except (Int×V) (List V):=
 if most<=(n:Int) then .error (8,[]) else if (Pd.bF m a x).2=0 then .ok (Pd.bF m a x).1 else .error ((Pd.bF m a x).2,x.dropLast)
theorem Oz{m:bp}(hm:Sp.SafeS m.2.1 m.2.2.2.2){a:Au}{k:Nat}(ha:Pd.vo a k){x:V}(hx:Pd.St m k x)(s:ka)(h:s.length<100000000)(t:St)(most:Int):
  xv x s m a t most=some (match sG m a most s.length x with
   | .error e=> .error e
   | .ok l=> .ok (s++[(x,l)])):=by
 unfold xv IJ tz fN sG;simp [So.aK];by_cases c:most<=(s.length)
 .grind
 .rw [dk c,cy c,b7];unfold v8;rw [show xJ (m.1,m.2.1,m.2.2.1,m.2.2.2.1,m.2.2.2.2) (a.1,a.2.1,a.2.2.1,a.2.2.2) x=some (Pd.bF m a x) from Pd.anE hm ha hx];show (ai _ _)=_;simp only [So.aK];by_cases b:(Pd.bF m a x).2=0
  .grind [vT,Pd.bF,Sy.aO,Sy.cD]
  .rw [dk b,show ((Pd.bF m a x).2 != 0)=true by simpa using b,ca];obtain ⟨v,q,rfl,f,i⟩:=hx;have d:v.length<1000000:=by have c:=f.len;have b:=hm.da;omega
   have g:IntKind.i64.wrap ((List.length (v++[q]))-1)=(v.length):=by grind [bq]
   rw [g,show (v++[q]).length=v.length+1 by simp,Sy.aO (by rw [Pd.afi];simp)];simp [aV]
end Ns
namespace Ns
def wk(nw:St->V->Option (Except (Int×V) (Bool×St)))(se:V->ka->Option Er)(dn:St->ka->Option (Except Er St))(pu:Nat->V->Except (Int×V) (List V)):Nat->St->ka->Option (Except Er St)
 |0,_,_=>none
 |_+1,t,[]=>some (.ok t)
 |n+1,t,(x,[])::s=>(dn t ((x,[])::s)).bind λr=>match r with
  | .error e=>some (.error e)
  | .ok t'=>wk nw se dn pu n t' s
 |n+1,t,(x,y::ys)::s=>match se y ((x,ys)::s) with
  |some e=>some (.error e)
  |none=>(nw t y).bind λr=>match r with
   | .error e=>some (.error (.inl e))
   | .ok (false,t')=>wk nw se dn pu n t' ((x,ys)::s)
   | .ok (true,t')=>match pu (s.length+1) y with
    | .error e=>some (.error (.inl e))
    | .ok l=>wk nw se dn pu n t' ((y,l)::(x,ys)::s)
theorem PL(s:ka)(a:s.length<100000000):∀(r pre:ka),s=pre++r->∀M,r.length<M->aj (uP s) M (pre.map (·.1),(pre.length:Int))=some (s.map (·.1))
 |[],pre,h,M,hM=>by
  obtain ⟨m,rfl⟩:∃m,M=m+1:=⟨M-1,by omega⟩;simp_all [ar,uP,cy]
 |f::r,pre,h,M,hM=>by
  obtain ⟨m,rfl⟩:∃m,M=m+1:=⟨M-1,by omega⟩;have hl:pre.length+r.length+1=s.length:=by rw [h];simp;omega
  have ih:=PL s a r (pre++[f]) (by rw [h];simp) m (by simp at hM;omega);rw [ar];unfold uP;dsimp only;rw [cx (by omega),ca,Sy.ll h,So.ah,Sy.aO (Sy.cD (by simp;omega) (by simp;omega)),Pa.bQ (by omega)];have c:pre.map (·.1)++[f.1]=(pre++[f]).map (·.1):=by simp
  have b:((pre.length+1:Nat))=((pre++[f]).length):=by simp
  rw [c,b];exact ih
theorem aiS(s:ka)(a:s.length<100000000):Bp s=some (s.map (·.1)):=PL s a s [] rfl an (by show s.length<2^64;omega)
theorem S6(a b:V)(hl:a.length=b.length)(ha:a.length<100000000):∀(r pre s ps:V),a=pre++r->b=ps++s->ps.length=pre.length->∀M,r.length<M->aj (gR a b) M (pre.length:Int)=some (decide (r=s))
 |[],pre,s,ps,h,h',hp,M,hM=>by
  obtain ⟨m,rfl⟩:∃m,M=m+1:=⟨M-1,by omega⟩;simp_all [ar,gR,cy]
 |x::r,pre,s,ps,h,h',hp,M,hM=>by
  obtain ⟨m,rfl⟩:∃m,M=m+1:=⟨M-1,by omega⟩;have d:pre.length+r.length+1=a.length:=by rw [h];simp;omega
  match s,h' with
  |[],h'=>
   grind
  |y::s,h'=>
   have ih:=S6 a b hl ha r (pre++[x]) s (ps++[y]) (by rw [h];simp) (by rw [h'];simp) (by simp [hp]) m (by simp at hM;omega);rw [show ((pre++[x]).length)=((pre.length+1:Nat)) by simp] at ih;rw [ar];generalize aj (gR a b) m=k at ih ⊢;unfold gR;rw [cx (by omega),ca,Sy.ll h,So.ah,<-hp,Sy.ll h',So.ah,hp,Pa.bQ (by omega)];by_cases c:x=y
   .subst c;simp only [bne_self_eq_false,b7,ih,p5,true_and]
   .rw [show (x != y)=true by simpa using c,ca,cy (by simp [c])]
theorem Ks(a b:V)(ha:a.length<100000000):mB a b=some (decide (a=b)):=by
 unfold mB;by_cases h:a.length=b.length
 .rw [show ((List.length a:Int) != (List.length b))=false by rw [h];simp,b7];exact S6 a b h ha a [] b [] rfl rfl rfl an (by show a.length<2^64;omega)
 .rw [show ((List.length a:Int) != (List.length b))=true by simp;omega,ca,cy (λe=>h (by rw [e]))]
theorem Dv(l:V)(q:Int)(hl:l.length<100000000):∀(r pre:V),l=pre++r->∀M,r.length<M->∃j,aj (gU l q) M (pre.length:Int)=some j/\(0<=j↔q∈r)
 |[],pre,h,M,hM=>by
  obtain ⟨m,rfl⟩:∃m,M=m+1:=⟨M-1,by omega⟩;rw [ar];unfold gU;simp_all
 |x::r,pre,h,M,hM=>by
  obtain ⟨m,rfl⟩:∃m,M=m+1:=⟨M-1,by omega⟩;have a:pre.length+r.length+1=l.length:=by rw [h];simp;omega
  obtain ⟨j,b,c⟩:=Dv l q hl r (pre++[x]) (by rw [h];simp) m (by simp at hM;omega);rw [ar];generalize aj (gU l q) m=k at b ⊢;unfold gU;rw [cx (by omega),ca,Sy.ll h,So.ah,Pa.bQ (by omega)];grind
def asw(a:Au):V:=(a.2.2.2[0]?).getD []
def meet(a:Au)(x:V):Bool:=decide (x.getLastD 0∈asw a)
theorem amG{a:Au}{A:V}{r:List V}(h:a.2.2.2=A::r)(c:A.length<100000000){v:V}{q:Int}(b:v.length<1000000):yn a (v++[q])=some (meet a (v++[q])):=by unfold yn;rw [Pd.ZX b,So.ah,h,show idx (A::r) 0=some A from rfl,So.ah];unfold n5 sw;obtain ⟨j,e,d⟩:=Dv A q c A [] rfl an (by show A.length<2^64;omega);grind [meet,asw]
theorem back_eq(s:ka)(y seed:V)(o:ka)(a:y.length<100000000)(c:s.length<100000000)(d:o.length<100000000)(b:o≠[]):
  j7 s y seed o=some (if y=seed then .error (o.dropLast.map (·.1),s.map (·.1)) else .ok ()):=by
 unfold j7;rw [Ks y seed a,So.ah];by_cases h:y=seed
 .have hl:1<=o.length:=by grind
  have e:IntKind.i64.wrap ((List.length o)-1)=((o.length-1:Nat)):=by grind [bq]
  grind [aV,List.dropLast_eq_take,Sy.aO,df,List.length,aiS,So.ah]
 grind
abbrev stS(t:St)(s:ka):=(t.1,t.2.1,t.2.2.1,t.2.2.2.1.1.1,t.2.2.2.1.1.2.1,t.2.2.2.1.1.2.2,t.2.2.2.1.2,t.2.2.2.2.1.1,t.2.2.2.2.1.2.1.1,t.2.2.2.2.1.2.1.2.1,t.2.2.2.2.1.2.1.2.2,t.2.2.2.2.1.2.2,t.2.2.2.2.2.1.1,t.2.2.2.2.2.1.2,t.2.2.2.2.2.2.1.1.1,t.2.2.2.2.2.2.1.1.2.1,t.2.2.2.2.2.2.1.1.2.2.1,t.2.2.2.2.2.2.1.1.2.2.2.1,t.2.2.2.2.2.2.1.1.2.2.2.2,t.2.2.2.2.2.2.1.2.1.1,t.2.2.2.2.2.2.1.2.1.2.1,t.2.2.2.2.2.2.1.2.1.2.2.1,t.2.2.2.2.2.2.1.2.1.2.2.2.1,t.2.2.2.2.2.2.1.2.1.2.2.2.2,t.2.2.2.2.2.2.1.2.2.1,t.2.2.2.2.2.2.1.2.2.2.1,t.2.2.2.2.2.2.1.2.2.2.2.1,t.2.2.2.2.2.2.1.2.2.2.2.2.1,t.2.2.2.2.2.2.1.2.2.2.2.2.2,t.2.2.2.2.2.2.2.1,t.2.2.2.2.2.2.2.2.1,t.2.2.2.2.2.2.2.2.2.1,t.2.2.2.2.2.2.2.2.2.2.1,t.2.2.2.2.2.2.2.2.2.2.2.1,t.2.2.2.2.2.2.2.2.2.2.2.2,s)
def afm(m:bp)(k:Nat)(s:ka):Prop:= ∀f∈s,∀y∈f.2,Pd.St m k y
def seI(seed:V)(o:ka)(y:V)(s:ka):Option Er:=if y=seed then some (.inr (o.dropLast.map (·.1),s.reverse.map (·.1))) else none
abbrev wkI(m:bp)(a:Au)(most:Int)(seed:V)(o:ka):=wk GI (seI seed o) (λt _=>some (.ok t)) (sG m a most)
theorem Kl{m:bp}{a:Au}(ha:Pd.vo a k){most:Int}{n:Nat}{x:V}(hx:Pd.St m k x){l:List V}(h:sG m a most n x= .ok l):∀y∈l,Pd.St m k y:=by grind [sG,Pd.R7]
theorem ad5{m:bp}{a:Au}{most:Int}{n:Nat}{x:V}{l:List V}(h:sG m a most n x= .ok l):(n:Int)<most:=by grind [sG]
theorem mP(s:ka)(f:V×List V):(f::s).reverse=s.reverse++[f]:=List.reverse_cons
theorem JB(s:ka)(f:V×List V)(a:s.length<100000000):IntKind.i64.wrap ((List.length (s.reverse++[f]):Int)-1)=(s.reverse.length:Int):=by grind [bq]
theorem KR{m:bp}(hm:Sp.SafeS m.2.1 m.2.2.2.2){a:Au}{k:Nat}(ha:Pd.vo a k){most:Int}(c:most<=1048576)(seed:V){o:ka}(B:o.length<100000000)(h:o≠[]):
  ∀(n:Nat) (t:St) (s:ka),s.length<=1048576->afm m k s->aj (rv m a most seed o) n (stS t s.reverse)=Qj fl (wkI m a most seed o n t s)
 |0,_,_,_,_=>rfl
 |n+1,t,[],hs,hn=>by
  rw [ar];generalize aj _ n=d;rfl
 |n+1,t,(x,[])::s,hs,hn=>by
  have ih:=KR hm ha c seed B h n t s (by simp at hs;omega) (λf i=>hn f (cb _ i));rw [ar];generalize aj (rv m a most seed o) n=d at ih ⊢;unfold rv tz kF;dsimp only;simp at hs;rw [mP,cx (by simp),ca,JB _ _ (by omega),Sy.ll (pre:=s.reverse) (r:=[]) rfl,So.ah];simp only [qe,Int.ofNat_zero];rw [show ((0:Int)==0)=true from rfl,ca];show (some ()).bind _=_;rw [So.ah,Sy.aO (show df 0 (s.reverse.length:Int) (List.length (s.reverse++[((x,[]):V×List V)]))=true by unfold df;simp;omega),show aV (s.reverse++[((x,[]):V×List V)]) 0 (s.reverse.length:Int)=s.reverse by unfold aV;simp];exact ih
 |n+1,t,(x,y::ys)::s,hs,hn=>by
  have D:Pd.St m k y:=hn _ (c8 ..) y (c8 ..);have w:afm m k ((x,ys)::s):=λf i=>by
   rcases List.mem_cons.1 i with rfl|i
   .exact λz E=>hn _ (c8 ..) z (cb _ E)
   .exact hn f (cb _ i)
  have p:=λt'=>KR hm ha c seed B h n t' ((x,ys)::s) (by simpa using hs) w;have j:=λt' l (hl:sG m a most (s.length+1) y= .ok l)=>KR hm ha c seed B h n t' ((y,l)::(x,ys)::s) (by have:=ad5 hl;simp;omega) (λf i=>by
   rcases List.mem_cons.1 i with rfl|i
   .exact Kl ha D hl
   .exact w f i)
  rw [ar];generalize aj (rv m a most seed o) n=d at p j ⊢;unfold rv tz kF;dsimp only;simp at hs;have u:List.set (s.reverse++[((x,y::ys):V×List V)]) (Int.toNat (s.reverse.length)) (x,ys)=s.reverse++[(x,ys)]:=by simp
  have C:y.length<100000000:=by obtain ⟨v,q,rfl,F,_⟩:=D;have:=F.len;have:=hm.da;simp;omega
  rw [mP,cx (by simp),ca,JB _ _ (by omega),Sy.ll rfl,So.ah];simp only [show (((y::ys).length:Int)==0)=false by simp;omega,b7,show idx (y::ys) 0=some y from rfl,So.ah];rw [Sy.aO (by unfold df;simp;omega)];have A:aV (y::ys) 1 ((List.length (y::ys)))=ys:=by unfold aV;simp
  simp only [A,u];rw [back_eq _ y seed o C (by simp;omega) B h];unfold wkI wk;simp only [seI];by_cases g:y=seed
  .rw [du g,du g];show some _=some _;rw [mP]
  .rw [dk g,dk g];show gH (WQ y m a t most) _ _=_;rw [alc];cases GI t y with
   |none=>rfl
   |some r=>
    cases r with
    |error e=>rfl
    |ok r=>
     obtain ⟨b,t'⟩:=r;cases b with
     |false=>
      have:=p t';rw [mP] at this;exact this
     |true=>
      show gH (xv y (s.reverse++[(x,ys)]) m a t' most) _ _=_;rw [Oz hm ha D _ (by simp;omega),show (s.reverse++[((x,ys))]).length=s.length+1 by simp];cases hp:sG m a most (s.length+1) y with
      |error e=>rfl
      |ok l=>
       have:=j t' l hp;rw [mP,mP] at this;exact this
end Ns
namespace Ns
def allI(m:bp)(a:Au)(most:Int)(x:V)(o:ka)(F:Nat)(t:St):Option (Except Er St):=match sG m a most 0 x with
 | .error e=>some (.error (.inl e))
 | .ok l=>wkI m a most x o F t [(x,l)]
def S2(m:bp)(a:Au)(most:Int)(F:Nat)(t:St)(s:ka):Option (Except Er St):=match s with
 |[]=>none
 |(x,l)::r=>bif meet a x then allI m a most x ((x,l)::r).reverse F t else some (.ok t)
def okS(m:bp)(k:Nat)(s:ka):Prop:= ∀f∈s,Pd.St m k f.1/\∀y∈f.2,Pd.St m k y
structure ZA(a:Au):Prop where
 acc:∃A r,a.2.2.2=A::r/\A.length<100000000
theorem aim{m:bp}(hm:Sp.SafeS m.2.1 m.2.2.2.2){a:Au}{k:Nat}(ha:Pd.vo a k){most:Int}(b:most<=1048576){x:V}(hx:Pd.St m k x){o:ka}(g:o.length<100000000)(c:o≠[])(t:St):
  N9 x m a t most x o=Qj fl (allI m a most x o an t):=by
 unfold N9 IJ tz nR allI;show gH (xv x [] m a t most) _ _=_;rw [Oz hm ha hx [] (by simp)];cases hp:sG m a most ([]).length x with
 |error e=>rfl
 |ok l=>
  have:=KR hm ha b x g c an t [(x,l)] (by simp) (λf d=>by
   rcases List.mem_cons.1 d with rfl|d
   .exact Kl ha hx hp
   .cases d)
  unfold rv tz at this;rw [<-this];rfl
theorem amg{m:bp}(hm:Sp.SafeS m.2.1 m.2.2.2.2){a:Au}{k:Nat}(ha:Pd.vo a k)(h:ZA a){most:Int}(b:most<=1048576){x:V}(hx:Pd.St m k x)(l:List V)(r:ka)(o:r.length<10000000)(t:St):
  Lw ((x,l)::r).reverse m a t most=Qj fl (S2 m a most an t ((x,l)::r)):=by
 unfold Lw IJ tz lX S2;rw [mP,JB _ _ (by omega),Sy.ll rfl,So.ah];obtain ⟨A,q,n,j⟩:=h.acc;obtain ⟨v,p,c,f,hp⟩:=hx;have g:v.length<1000000:=by have n:=f.len;have j:=hm.da;omega
 have i:yn (a.1,a.2.1,a.2.2.1,a.2.2.2) x=some (meet a x):=by grind [amG]
 rw [i,So.ah];dsimp only;cases meet a x with
 |false=>rfl
 |true=>
  show gH (N9 x m a t most x (r.reverse++[(x,l)])) _ _=_;have d:Pd.St m k x:=⟨v,p,c,f,hp⟩;rw [aim hm ha b d (by simp;omega) (by simp)];rw [ca,mP];generalize allI m a most x (r.reverse++[(x,l)]) an t=w;cases w with
  |none=>rfl
  |some w=>
   cases w with
   |error e=>cases e <;> rfl
   |ok t'=>rfl
abbrev PU(m:bp)(a:Au)(most:Int):=wk Az (λ_ _=>none) (S2 m a most an) (sG m a most)
theorem Kk{m:bp}(hm:Sp.SafeS m.2.1 m.2.2.2.2){a:Au}{k:Nat}(ha:Pd.vo a k)(d:ZA a){most:Int}(c:most<=1048576):
  ∀(n:Nat) (t:St) (s:ka),s.length<=1048576->okS m k s->aj (BK m a most) n (stS t s.reverse)=Qj fl (PU m a most n t s)
 |0,_,_,_,_=>rfl
 |n+1,t,[],hs,hn=>by
  rw [ar];generalize aj _ n=g;rfl
 |n+1,t,(x,[])::s,hs,hn=>by
  have ih:=λt'=>Kk hm ha d c n t' s (by simp at hs;omega) (λf d=>hn f (cb _ d));rw [ar];generalize aj (BK m a most) n=g at ih ⊢;unfold BK tz nG;dsimp only;simp at hs;have j:=amg hm ha d c (hn _ (c8 ..)).1 [] s (by omega) t;rw [mP] at j ⊢;rw [cx (by simp),ca,JB _ _ (by omega),Sy.ll (pre:=s.reverse) (r:=[]) rfl,So.ah];simp only [qe,Int.ofNat_zero];rw [show ((0:Int)==0)=true from rfl,ca];show gH (Lw (s.reverse++[(x,[])]) m a t most) _ _=_;rw [j];unfold PU wk;dsimp only;cases S2 m a most an t ((x,[])::s) with
  |none=>rfl
  |some w=>
   cases w with
   |error e=>cases e <;> rfl
   |ok t'=>
    show aN _ _=_;rw [Sy.aO (show df 0 (s.reverse.length:Int) (List.length (s.reverse++[((x,[]):V×List V)]))=true by unfold df;simp;omega),show aV (s.reverse++[((x,[]):V×List V)]) 0 (s.reverse.length:Int)=s.reverse by unfold aV;simp];exact ih t'
 |n+1,t,(x,y::ys)::s,hs,hn=>by
  have v:=hn _ (c8 ..);have u:Pd.St m k y:=v.2 y (c8 ..);have i:okS m k ((x,ys)::s):=λf d=>by
   rcases List.mem_cons.1 d with rfl|d
   .exact ⟨v.1,λz A=>v.2 z (cb _ A)⟩
   .exact hn f (cb _ d)
  have q:=λt'=>Kk hm ha d c n t' ((x,ys)::s) (by simpa using hs) i;have p:=λt' l (hl:sG m a most (s.length+1) y= .ok l)=>Kk hm ha d c n t' ((y,l)::(x,ys)::s) (by have:=ad5 hl;simp;omega) (λf d=>by
   rcases List.mem_cons.1 d with rfl|d
   .exact ⟨u,Kl ha u hl⟩
   .exact i f d)
  rw [ar];unfold BK tz nG;dsimp only;simp at hs;have h:List.set (s.reverse++[((x,y::ys))]) (Int.toNat (s.reverse.length)) (x,ys)=s.reverse++[(x,ys)]:=by simp
  rw [mP,cx (by simp),ca,JB _ _ (by omega),Sy.ll rfl,So.ah];simp only [show idx (y::ys) 0=some y from rfl,So.ah];rw [Sy.aO (by unfold df;simp;omega)];have o:aV (y::ys) 1 ((List.length (y::ys)))=ys:=by unfold aV;simp
  simp only [o,h];unfold PU wk;show gH (JI y m a t most) _ _=_;rw [Sk];cases Az t y with
  |none=>rfl
  |some r=>
   cases r with
   |error e=>rfl
   |ok r=>
    obtain ⟨b,t'⟩:=r;cases b with
    |false=>
     have:=q t';rw [mP] at this;exact this
    |true=>
     show gH (xv y (s.reverse++[(x,ys)]) m a t' most) _ _=_;rw [Oz hm ha u _ (by simp;omega),show (s.reverse++[((x,ys))]).length=s.length+1 by simp];cases hp:sG m a most (s.length+1) y with
     |error e=>rfl
     |ok l=>
      have:=p t' l hp;rw [mP,mP] at this;exact this
def ol(m:bp)(a:Au)(most:Int):List V->St->Option (Except Er St)
 |[],t=>some (.ok t)
 |x::r,t=>(Az t x).bind λq=>match q with
  | .error e=>some (.error (.inl e))
  | .ok (false,t')=>ol m a most r t'
  | .ok (true,t')=>match sG m a most 0 x with
   | .error e=>some (.error (.inl e))
   | .ok l=>(PU m a most an t' [(x,l)]).bind λq=>match q with
    | .error e=>some (.error e)
    | .ok t''=>ol m a most r t''
theorem aif{m:bp}(hm:Sp.SafeS m.2.1 m.2.2.2.2){a:Au}{k:Nat}(ha:Pd.vo a k)(c:ZA a){most:Int}(b:most<=1048576){x:V}(hx:Pd.St m k x)(t:St):
  ajw x m a t most=Qj fl (match sG m a most 0 x with
   | .error e=>some (.error (.inl e))
   | .ok l=>PU m a most an t [(x,l)]):=by
 show gH (xv x [] m a t most) _ _=_;rw [Oz hm ha hx [] (by simp)];cases hp:sG m a most ([]).length x with
 |error e=>rfl
 |ok l=>
  have:=Kk hm ha c b an t [(x,l)] (by simp) (λf c=>by
   rcases List.mem_cons.1 c with rfl|c
   .grind [Kl]
   .cases c)
  unfold BK tz at this;rw [<-this];rfl
theorem SO{m:bp}(hm:Sp.SafeS m.2.1 m.2.2.2.2){a:Au}{k:Nat}(ha:Pd.vo a k)(j:ZA a){most:Int}(c:most<=1048576)(L:List V)(o:L.length<100000000)(d:∀x∈L,Pd.St m k x):
  ∀(r pre:List V),L=pre++r->∀(t:St) (M:Nat),r.length<M->aj (Lc m a most L) M (t.1,t.2.1,t.2.2.1,t.2.2.2.1.1.1,t.2.2.2.1.1.2.1,t.2.2.2.1.1.2.2,t.2.2.2.1.2,t.2.2.2.2.1.1,t.2.2.2.2.1.2.1.1,t.2.2.2.2.1.2.1.2.1,t.2.2.2.2.1.2.1.2.2,t.2.2.2.2.1.2.2,t.2.2.2.2.2.1.1,t.2.2.2.2.2.1.2,t.2.2.2.2.2.2.1.1.1,t.2.2.2.2.2.2.1.1.2.1,t.2.2.2.2.2.2.1.1.2.2.1,t.2.2.2.2.2.2.1.1.2.2.2.1,t.2.2.2.2.2.2.1.1.2.2.2.2,t.2.2.2.2.2.2.1.2.1.1,t.2.2.2.2.2.2.1.2.1.2.1,t.2.2.2.2.2.2.1.2.1.2.2.1,t.2.2.2.2.2.2.1.2.1.2.2.2.1,t.2.2.2.2.2.2.1.2.1.2.2.2.2,t.2.2.2.2.2.2.1.2.2.1,t.2.2.2.2.2.2.1.2.2.2.1,t.2.2.2.2.2.2.1.2.2.2.2.1,t.2.2.2.2.2.2.1.2.2.2.2.2.1,t.2.2.2.2.2.2.1.2.2.2.2.2.2,t.2.2.2.2.2.2.2.1,t.2.2.2.2.2.2.2.2.1,t.2.2.2.2.2.2.2.2.2.1,t.2.2.2.2.2.2.2.2.2.2.1,t.2.2.2.2.2.2.2.2.2.2.2.1,t.2.2.2.2.2.2.2.2.2.2.2.2,(pre.length:Int))=Qj fl (ol m a most r t)
 |[],pre,h,t,M,hM=>by
  obtain ⟨n,rfl⟩:∃n,M=n+1:=⟨M-1,by omega⟩;have e  :=by simpa using h
  rw [ar];generalize aj _ n=g;unfold Lc tz mz;dsimp only;rw [cy (by rw [e];omega),b7];rfl
 |x::r,pre,h,t,M,hM=>by
  obtain ⟨n,rfl⟩:∃n,M=n+1:=⟨M-1,by omega⟩;have i:pre.length+r.length+1=L.length:=by rw [h];simp;omega
  have hx:=d x (by rw [h];simp);have ih:=λt'=>SO hm ha j c L o d r (pre++[x]) (by rw [h];simp) t' n (by simp at hM;omega);rw [show ((pre++[x]).length)=((pre.length+1:Nat)) by simp] at ih;rw [ar];unfold Lc tz mz;dsimp only;rw [cx (by omega),ca,Sy.ll h,So.ah,Pa.bQ (by omega)];unfold ol;show gH (JI x m a t most) _ _=_;rw [Sk];cases Az t x with
  |none=>rfl
  |some q=>
   cases q with
   |error e=>rfl
   |ok q=>
    obtain ⟨b,t'⟩:=q;cases b with
    |false=>exact ih t'
    |true=>
     show gH (ajw x m a t' most) _ _=_;rw [aif hm ha j c hx];simp;cases sG m a most 0 x with
     |error e=>rfl
     |ok l=>
      dsimp only;cases PU m a most an t' [(x,l)] with
      |none=>rfl
      |some w=>
       cases w with
       |error e=>cases e <;> rfl
       |ok f=>exact ih f
def vq(m:bp)(a:Au):List V:=Sp.dp [] (Pd.dP a m.2.2.1 a.2.2.1)
theorem als{m:bp}(hm:Sp.SafeS m.2.1 m.2.2.2.2)(hi:Sp.sO m.2.1 m.2.2.1){a:Au}{k:Nat}(ha:Pd.vo a k)(d:ZA a){most:Int}(b:most<=1048576)(e:(vq m a).length<100000000)(c:∀x∈vq m a,Pd.St m k x)(t:St):
  Wa m a t most=Qj fl (ol m a most (vq m a) t):=by
 unfold Wa IJ tz pN;rw [show BW (m.1,m.2.1,m.2.2.1,m.2.2.2.1,m.2.2.2.2) (a.1,a.2.1,a.2.2.1,a.2.2.2)=some (vq m a) from Pd.aqG hm hi ha,So.ah];exact SO hm ha d b (vq m a) e c (vq m a) [] rfl t an (by show _<2^64;omega)
def G6(w:Option (Except Er St)):Option (Bool×(List V×List V)×Int×V):=w.map λr=>match r with
 | .ok _=>(false,([],[]),0,[])
 | .error (.inl e)=>(false,([],[]),e.1,e.2)
 | .error (.inr p)=>(true,p,0,[])
theorem aeZ{m:bp}(hm:Sp.SafeS m.2.1 m.2.2.2.2)(hi:Sp.sO m.2.1 m.2.2.1){a:Au}{k:Nat}(ha:Pd.vo a k)(h:ZA a)(i:(vq m a).length<100000000)(b:∀x∈vq m a,Pd.St m k x)(o:So.Op){s:xb}(g:vZ m a=some (s,0)){t:St}{c:Int}(hN:jR s o=some (t,c)):
  ld m a o=if c=0/\1<=o.2.2.1/\o.2.2.1<=1048576 then G6 (ol m a o.2.2.1 (vq m a) t) else some (false,([],[]),1,[]):=by
 unfold ld;rw [g,So.ah];simp only [So.aK];rw [show ((0:Int) != 0)=false from rfl,b7,hN,So.ah];by_cases f:c=0
 .by_cases d:1<=o.2.2.1/\o.2.2.1<=1048576
  .rw [du ⟨f,d⟩,f,cy (by omega),cy (by omega)];show gH (Wa m a t o.2.2.1) _ _=_;rw [als hm hi ha h d.2 i b];cases ol m a o.2.2.1 (vq m a) t with
   |none=>rfl
   |some w=>
    cases w with
    |error e=>cases e <;> rfl
    |ok t'=>rfl
  grind
 grind
end Ns
namespace Ns
def mu(Us K:List V):Nat:=(Us.filter λx=> !decide (x∈K)).length
theorem ahA{Us K a:List V}(h:∀x∈K,x∈a):mu Us a<=mu Us K:=by
 unfold mu
 induction Us with
 |nil=>simp
 |cons y Us ih=>
  grind
theorem asV{Us K a:List V}(h:∀x∈K,x∈a){x:V}(hx:x∈Us)(c:x∉K)(b:x∈a):mu Us a<mu Us K:=by
 induction Us with
 |nil=>cases hx
 |cons y Us ih=>
  unfold mu at ih ⊢;by_cases e:y=x
  .subst e;have:=ahA (Us:=Us) h;unfold mu at this;simp [c,b];omega
  grind
theorem arH{Us K:List V}:mu Us K<=Us.length:=qU _ _
def wt(s:ka):Nat:=(s.map λf=>1+f.2.length).sum
structure Dl(Us:List V)(s:ka):Prop where
 st:∀f∈s,f.1∈Us
 nx:∀f∈s,∀y∈f.2,y∈Us
 nd:(s.map (·.1)).Nodup
theorem Dl.da{Us:List V}{s:ka}(h:Dl Us s):s.length<=Us.length:=by
 have:=Df.IP h.nd (λx hx=>by obtain ⟨f,a,rfl⟩:=List.mem_map.1 hx;exact h.st f a)
 simpa using this
section
variable {nw : St -> V -> Option (Except (Int × V) (Bool × St))} {se : V -> ka -> Option Er} {dn : St -> ka -> Option (Except Er St)} {pu : Nat -> V -> Except (Int × V) (List V)} {Us : List V} {N : Nat} {Inv : List V -> St -> Prop} {Bd : Er -> Prop} {bot : Option V}
def aoB(Us:List V)(Inv:List V->St->Prop)(Bd:Er->Prop)(nw:St->V->Option (Except (Int×V) (Bool×St))):Prop:=
 ∀K t x,Inv K t->x∈Us->(∃e,nw t x=some (.error e)/\Bd (.inl e))\/(∃K' t',nw t x=some (.ok (false,t'))/\Inv K' t'/\∀z∈K,z∈K')\/(∃K' t',nw t x=some (.ok (true,t'))/\Inv K' t'/\(∀z∈K,z∈K')/\x∉K/\x∈K')
def O6(Inv:List V->St->Prop)(Bd:Er->Prop)(K:List V)(w:Option (Except Er St)):Prop:=
 (∃e,w=some (.error e)/\Bd e)\/(∃K' t',w=some (.ok t')/\Inv K' t'/\∀z∈K,z∈K')
def ah5(Us:List V)(N:Nat)(Bd:Er->Prop)(pu:Nat->V->Except (Int×V) (List V)):Prop:=
 ∀n y,y∈Us->n<Us.length->(∃e,pu n y= .error e/\Bd (.inl e))\/(∃l,pu n y= .ok l/\(∀z∈l,z∈Us)/\l.length<=N)
theorem NI(o:aoB Us Inv Bd nw)(k:∀y s e,y∈Us->Dl Us s->s≠[]->se y s=some e->Bd e)(d:∀y s,se y s=none->some y≠bot)
  (p:∀K t s,Inv K t->Dl Us s->s≠[]->O6 Inv Bd K (dn t s)) (m:ah5 Us N Bd pu):
  ∀(n:Nat) (t:St) (s:ka) (K:List V),Inv K t->Dl Us s->(∀x∈s.map (·.1),x∈K\/some x=bot)->mu Us K*(N+2)+wt s<n->O6 Inv Bd K (wk nw se dn pu n t s)
 |0,_,_,_,_,_,_,h=>by omega
 |n+1,t,[],K,hi,_,_,_=> .inr ⟨K,t,rfl,hi,λ_ h=>h⟩
 |n+1,t,(x,[])::s,K,hi,hg,hk,hn=>by
  have D:Dl Us s:=⟨λf a=>hg.st f (cb _ a),λf a=>hg.nx f (cb _ a),by have:=hg.nd;simp at this;simpa using this.2⟩;unfold wk;rcases p K t _ hi hg (by simp) with ⟨e,r,q⟩|⟨u,t',r,q,i⟩
  .rw [r];exact .inl ⟨e,rfl,q⟩
  .rw [r];have hm:=ahA (Us:=Us) i;have g:mu Us u*(N+2)+wt s<n:=by have:=hU (N+2) hm;simp [wt] at hn ⊢; omega
   rcases NI o k d p m n t' s u q D (λy j=>(hk y (by simp at j ⊢; exact .inr j)).imp (i y) id) g with ⟨e,r1,r2⟩|⟨C,t2,r1,r2,v⟩
   .exact .inl ⟨e,r1,r2⟩
   .exact .inr ⟨C,t2,r1,r2,λz c=>v z (i z c)⟩
 |n+1,t,(x,y::ys)::s,K,hi,hg,hk,hn=>by
  have j  :=hg.nx _ (c8 ..) y (c8 ..);have b:Dl Us ((x,ys)::s):=⟨λf a=>by
    rcases List.mem_cons.1 a with rfl|a
    .exact hg.st (x,y::ys) (c8 ..)
    .exact hg.st f (cb _ a),λf a=>by
    rcases List.mem_cons.1 a with rfl|a
    .exact λz c=>hg.nx (x,y::ys) (c8 ..) z (cb _ c)
    .exact hg.nx f (cb _ a),hg.nd⟩
  unfold wk;cases E:se y ((x,ys)::s) with
  |some e=>exact .inl ⟨e,rfl,k y _ e j b (by simp) E⟩
  |none=>
   rcases o K t y hi j with ⟨e,r,q⟩|⟨u,t',r,q,i⟩|⟨u,t',r,q,i,F,G⟩
   .rw [r];exact .inl ⟨_,rfl,q⟩
   .rw [r];have hm:=ahA (Us:=Us) i;have g:mu Us u*(N+2)+wt ((x,ys)::s)<n:=by have:=hU (N+2) hm;simp [wt] at hn ⊢; omega
    rcases NI o k d p m n t' _ u q b (λz c=>(hk z (by simpa using c)).imp (i z) id) g with ⟨e,r1,r2⟩|⟨C,t2,r1,r2,v⟩
    .exact .inl ⟨e,r1,r2⟩
    .exact .inr ⟨C,t2,r1,r2,λz c=>v z (i z c)⟩
   .rw [r];have w:y∉((x,ys)::s).map (·.1):=λB=>by
     rcases hk y (by simpa using B) with B|B
     .exact F B
     .exact d y _ E B
    have A  :=by
     have:=Df.IP (List.nodup_cons.2 ⟨w,b.nd⟩) (λz c=>by
      rcases List.mem_cons.1 c with rfl|c
      .exact j
      .obtain ⟨f,a,rfl⟩:=List.mem_map.1 c;exact b.st f a)
     simp at this;omega
    rcases m (s.length+1) y j A with ⟨e,p1,p2⟩|⟨l,p1,p2,H⟩
    .simp [p1];exact .inl ⟨_,rfl,p2⟩
    .simp [p1];have hm:=asV i j F G;have g:mu Us u*(N+2)+wt ((y,l)::(x,ys)::s)<n:=by
      have:mu Us u*(N+2)+(N+2)<=mu Us K*(N+2):=by rw [<-qL];exact hU _ hm
      simp [wt] at hn ⊢; omega
     rcases NI o k d p m n t' ((y,l)::(x,ys)::s) u q ⟨λf a=>by
       rcases List.mem_cons.1 a with rfl|a
       .exact j
       .exact b.st f a,λf a=>by
       rcases List.mem_cons.1 a with rfl|a
       .exact p2
       .exact b.nx f a,List.nodup_cons.2 ⟨w,b.nd⟩⟩ (λz c=>by
       grind) g with ⟨e,r1,r2⟩|⟨C,t2,r1,r2,v⟩
     .exact .inl ⟨e,r1,r2⟩
     .exact .inr ⟨C,t2,r1,r2,λz c=>v z (i z c)⟩
end
end Ns
variable {α : Type}
namespace Sy
open Pa
def Er{α:Type}(x:Except iq α):Prop:= ∀e,x= .error e->e.1≠0
theorem Er.ok{a:α}:Er (.ok a:Except iq α):=λe h=>by cases h
theorem Er.lit{e:iq}(h:e.1≠0):Er (.error e:Except iq α):=λe' a=>by cases a;exact h
theorem Er.bif{c:Bool}{a b:Except iq α}(ha:c=true->Er a)(hb:c=false->Er b):Er (bif c then a else b):=by cases c;exact hb rfl;exact ha rfl
theorem Er.of{x:Except iq α}(h:Er x){e:iq}(a:x= .error e){β:Type}:Er (.error e:Except iq β):= .lit (h e a)
theorem amA{names:List aE}{b:List Tok}:Er (GO names b):=λe h=>by
 unfold GO at h;split at h
 next hx=>have a:=Classical.choose_spec hx;rw [h] at a;rcases a.err e rfl with h|h|h <;> omega
 .cases h;decide
theorem Fy{x:aE}{a:List Tok}:Er (cf x a):=by
 unfold cf;split
 .exact .lit (by decide)
 .exact .bif (λ_=> .ok) (λ_=> .lit (show (2:Int)≠0 by decide))
theorem Zx{full:Bool}{names a:List aE}{b:List Tok}:Er (fW full names a b):=by
 unfold fW;split
 .exact .lit (by decide)
 .exact .bif (λ_=> .lit (show (2:Int)≠0 by decide)) λ_=> .bif (λ_=> .lit (show (3:Int)≠0 by decide)) λ_=> .bif (λ_=> .lit (show (9:Int)≠0 by decide)) λ_=> .ok
theorem aaM{a:Bool}{b:List Tok}:Er (tI a b):=by
 unfold tI;split
 .exact .lit (by decide)
 .exact .bif (λ_=> .lit (show (2:Int)≠0 by decide)) λ_=> .ok
theorem V0{a:List Tok}:Er (gu a):= .bif (λ_=>aaM) λ_=>aaM
theorem aqt{m:bp}{a:List Tok}:Er (sn m a):=by
 unfold sn;split
 next h=>exact Zx.of h
 .split
  next h=>exact V0.of h
  .split
   next h=>exact V0.of h
   .split
    next h=>exact V0.of h
    .split
     next h=>exact Fy.of h
     .exact .bif (λ_=> .lit (show (5:Int)≠0 by decide)) λ_=> .ok
theorem Z6{a:Int}{names:List aE}{b:List Tok}:Er (eD a names b):=by
 unfold eD;split
 next h=>exact amA.of h
 .exact .bif (λh=> .lit (by simpa using h)) λ_=> .bif (λ_=> .lit (show (4:Int)≠0 by decide)) λ_=> .ok
theorem aaJ{names:List aE}:∀(f:Nat) (acc:List (Int×Ex)) (a:List Tok),Er (fV names f acc a)
 |0,_,_=> .lit (show (2:Int)≠0 by decide)
 |f+1,acc,a=>by
  unfold fV;split
  .exact .lit (by decide)
  .refine .bif (λ_=> .lit (show (2:Int)≠0 by decide)) λ_=> .bif (λ_=> .lit (show (3:Int)≠0 by decide)) λ_=>?_;split
   next h=>exact Fy.of h
   .split
    next h=>exact Z6.of h
    .exact .bif (λ_=>aaJ f _ _) λ_=> .ok
theorem aoZ{m:bp}{a:List Tok}:Er (nW m a):=by
 unfold nW;refine .bif (λ_=> .lit (show (9:Int)≠0 by decide)) λ_=>?_;split
 next h=>exact Z6.of h
 .split
  next h=>exact Fy.of h
  .split
   next h=>exact (aaJ _ _ _).of h
   .split
    next h=>exact Fy.of h
    .exact .ok
theorem abj:∀(f:Nat) (m:bp) (a:List Tok),Er (mA f m a)
 |0,_,_=> .lit (show (2:Int)≠0 by decide)
 |f+1,m,a=>by
  unfold mA;refine .bif (λ_=> .ok) λ_=>?_;split
  next h=>exact aoZ.of h
  .exact abj f _ _
theorem amy{m:bp}{a:List Tok}:Er (wy m a):=by
 unfold wy;split
 next h=>exact Zx.of h
 .split
  next h=>exact Fy.of h
  .exact abj _ _ _
theorem N7:∀(f:Nat) (m:bp) (a:List Tok),Er (rA f m a)
 |0,_,_=> .lit (show (2:Int)≠0 by decide)
 |f+1,m,a=>by
  unfold rA;split
  .exact .lit (by decide)
  .refine .bif (λ_=> .bif (λ_=> .lit (show (2:Int)≠0 by decide)) λ_=> .ok) λ_=> .bif (λ_=>?_) λ_=> .bif (λ_=>?_) λ_=> .lit (show (2:Int)≠0 by decide)
   .split
    next h=>exact aqt.of h
    .exact N7 f _ _
   .split
    next h=>exact amy.of h
    .exact N7 f _ _
theorem amI{text:aE}{e:iq}(h:RJ text= .error e):e.1≠0:=by
 unfold RJ at h;split at h
 .cases h;decide
 .split at h
  .exact N7 _ _ _ e h
  next hl=>cases h;exact ZE _ _ _ _ hl
end Sy
namespace Sp
theorem acE(a b:zk)(hl:a.length=b.length)(ha:a.length<1000000000):∀(r pre s:zk),a=pre++r->b=pre++s->∀M,r.length<M->aj (dN a b) M (pre.length:Int)=some (r==s)
 |[],pre,s,h,h2,M,hM=>by
  obtain ⟨k,rfl⟩:∃k,M=k+1:=⟨M-1,by simp at hM;omega⟩;rw [ar];simp only [dN,Sy.u5 h,b7];have:s=[]:=er (by rw [h,h2] at hl;simpa using hl.symm);subst this;rfl
 |x::r,pre,[],h,h2,M,hM=>by rw [h,h2] at hl;simp at hl
 |x::r,pre,y::s,h,h2,M,hM=>by
  obtain ⟨k,rfl⟩:∃k,M=k+1:=⟨M-1,by omega⟩;rw [ar];have c:pre.length+r.length+1=a.length:=by rw [h];simp;omega
  simp only [dN,Sy.uY h,ca,Sy.ll h,Sy.ll h2,ah,Pa.bQ (show pre.length<4611686018427387904 by omega)];by_cases e:x=y
  .subst e;have ih:=acE a b hl ha r (pre++[x]) s (by rw [h];simp) (by rw [h2];simp) k (by simp at hM;omega);rw [show ((pre++[x]).length:Int)=((pre.length+1:Nat):Int) by simp] at ih;rw [show (x != x)=false by simp,b7,ih];simp
  .rw [show (x != y)=true by simpa using e,ca];simp [e]
theorem akc(a b:zk)(ha:a.length<1000000000):gY a b=some (a==b):=by
 unfold gY;by_cases hl:a.length=b.length
 .rw [show ((List.length a:Int) != (List.length b:Int))=false by rw [hl];simp,b7];exact acE a b hl ha a [] b rfl rfl an (by show _<2^64;omega)
 .rw [show ((List.length a:Int) != (List.length b:Int))=true by simp;omega,ca,beq_eq_false_iff_ne.2 (λe=>hl (by rw [e]))]
def vr(v:zk):Nat->w5->Int
 |_,[]=> -1
 |k,x::r=>if x=v then (k:Int) else vr v (k+1) r
theorem OF{v:zk}:∀{l:w5} {k:Nat},vr v k l<0↔v∉l
 |[],k=>by simp [vr]
 |x::r,k=>by
  unfold vr;by_cases e:x=v
  .rw [du e];constructor
   .intro h;omega
   .intro h;exact absurd (by rw [e];simp) h
  .rw [dk e,OF (l:=r)];simp only [qd,not_or];exact ⟨λh=>⟨λa=>e a.symm,h⟩,λh=>h.2⟩
def uN(S:xb)(v:zk):Bool:=decide (v.length=S.length)&&fits S v
theorem om{S:xb}:uN S v=true↔sO S v:=by unfold uN;rw [au,eT];exact ⟨λh=>⟨h.1,h.2⟩,λh=>⟨h.len,h.fit⟩⟩
structure GX(S:xb)(C:List Sy.aT):Prop extends SafeS S C where
 rguard:∀c∈C,fw (S.length:Int) c.2.1=true/\(rt c.2.1).1=2
 rsets:∀c∈C,∀s∈c.2.2,fw (S.length:Int) s.2=true/\(rt s.2).1=1
theorem aoG{m:Sy.bp}(h:Sy.Wf m):GX m.2.1 m.2.2.2.2:=by
 have d:=h.schema;have g:=h.some_;have f:=h.names;have e:=h.cmds;refine { pos:=by omega,da:=by omega,field:=h.fields,cmds:=by omega,guard:=λc a=>?_,sets:=λc a=>⟨(h.cmd c a).len,λs b=>?_⟩,rguard:=λc a=>?_,rsets:=λc a s b=>?_ }
 .have:=(h.cmd c a).sz;omega
 .have k:=(h.cmd c a).sets s b;have:=k.var;have:=k.sz;refine ⟨by omega,by omega,by omega⟩
 .have k:=h.cmd c a;rw [d];exact ⟨k.may,k.typ.2⟩
 .have k:=(h.cmd c a).sets s b;rw [d];exact ⟨k.may,k.typ.2⟩
theorem afq:∀{S:xb} {v:zk},(∀(i:Nat) (f:Int×Int) (n:Int),S[i]? =some f->v[i]? =some n->f.1<=n/\n<=f.2)->fits S v=true
 |[],[],_=>rfl
 |[],_::_,_=>rfl
 |_::_,[],_=>rfl
 |s::S,x::v,h=>by have c:=h 0 s x rfl rfl;simp only [fits,au,eT];exact ⟨c,afq λi f n b a=>h (i+1) f n (by simpa using b) (by simpa using a)⟩
theorem aqD{m:Sy.bp}(h:Sy.Wf m):sO m.2.1 m.2.2.1:=⟨by rw [h.init,h.schema],afq h.first⟩
theorem abn(text:aE):∃q,np text=some q/\(q.2=true->Sy.Wf q.1):=by
 unfold np;by_cases h:(600:Int)<(text.length:Int)
 .rw [cx h,ca];exact ⟨_,rfl,λh=>by cases h⟩
 .rw [cy h,b7,Sy.anT,ah];refine ⟨_,rfl,λh=>?_⟩;cases a:Sy.RJ text with
  |ok m=>
   exact Sy.ajm a
  |error e=>
   rw [a] at h;exact absurd (by simpa [Sy.QI] using h) (Sy.amI a)
end Sp
namespace Sp
theorem UZ(l:w5)(v:zk)(hl:l.length<1000000000)(a:∀w∈l,w.length<1000000000):∀(r pre:w5),l=pre++r->∀M,r.length<M->aj (jd l v) M (pre.length:Int)=some (vr v pre.length r)
 |[],pre,h,M,hM=>by
  obtain ⟨k,rfl⟩:∃k,M=k+1:=⟨M-1,by simp at hM;omega⟩;rw [ar];simp only [jd,Sy.u5 h,b7,vr]
 |x::r,pre,h,M,hM=>by
  obtain ⟨k,rfl⟩:∃k,M=k+1:=⟨M-1,by omega⟩;rw [ar];have b:pre.length+r.length+1=l.length:=by rw [h];simp;omega
  have ih:=UZ l v hl a r (pre++[x]) (by rw [h];simp) k (by simp at hM;omega);rw [show ((pre++[x]).length:Int)=((pre.length+1:Nat):Int) by simp,show (pre++[x]).length=pre.length+1 by simp] at ih;simp only [jd,Sy.uY h,ca,Sy.ll h,ah,Pa.bQ (show pre.length<4611686018427387904 by omega)];rw [akc x v (a x (by rw [h];simp)),ah,vr];by_cases e:x=v
  .rw [du e,show (x==v)=true by simpa using e,ca]
  .rw [dk e,show (x==v)=false by simpa using e,b7];exact ih
theorem wV(l:w5)(v:zk)(hl:l.length<1000000000)(a:∀w∈l,w.length<1000000000):fB l v=some (vr v 0 l):=
 UZ l v hl a l [] rfl an (by show _<2^64;omega)
end Sp
theorem ank(op n C:Int)(l:List Ex)(v:zk)(a b:Int)(c:15<=op->(a=0\/a=1)/\(b=0\/b=1)):lK (.mk op n C l) v a b=some (PZ op n v a b):=by
 have d:(op=1\/op=2\/op=3\/op=4\/op=5\/op=6\/op=7\/op=8\/op=9\/op=10\/op=11\/op=12\/op=13\/op=15\/op=16\/op=17\/op=18\/op=19)\/(op<1\/op=14\/19<op):=by omega
 rcases d with d|d
 .rcases d with rfl|rfl|rfl|rfl|rfl|rfl|rfl|rfl|rfl|rfl|rfl|rfl|rfl|rfl|rfl|rfl|rfl|rfl
  .rfl
  .show (bif (decide (0<=n)&&decide (n<(List.length v:Int))) then (idx v n).bind (λz=>some z) else some 0)=some (bif decide (n<0)||decide ((List.length v:Int)<=n) then 0 else v.getD n.toNat 0);by_cases e:0<=n
   .by_cases r:n<(List.length v:Int)
    .rw [cx e,cx r,cy (by omega),cy (by omega)];have:idx v n=some (v.getD n.toNat 0):=by unfold idx;rw [du e,b9 (by omega)];simp [List.getD,b9 (show n.toNat<v.length by omega)]
     rw [this];rfl
    .rw [cx e,cy r,cy (by omega),cx (by omega)];rfl
   .rw [cy e,cx (show n<0 by omega)];rfl
  .rfl
  .rfl
  .rfl
  .rfl
  .show (bd (a==b)).bind (λz=>some z)=some (tr ((a==b) != false));cases (a==b) <;> rfl
  .show (bd (!(a==b))).bind (λz=>some z)=some (tr ((a==b) != true));cases (a==b) <;> rfl
  .show (bd (decide (a<b))).bind (λz=>some z)=some (tr (decide (a<b) != false));cases decide (a<b) <;> rfl
  .show (bd (decide (a<=b))).bind (λz=>some z)=some (tr (decide (a<=b) != false));cases decide (a<=b) <;> rfl
  .show (bd (decide (b<a))).bind (λz=>some z)=some (tr (decide (a<=b) != true));by_cases h:a<=b
   .rw [cx h,cy (by omega)];rfl
   .rw [cy h,cx (by omega)];rfl
  .show (bd (decide (b<=a))).bind (λz=>some z)=some (tr (decide (a<b) != true));by_cases h:a<b
   .rw [cx h,cy (by omega)];rfl
   .rw [cy h,cx (by omega)];rfl
  .rfl
  .obtain ⟨ha,hb⟩:=c (by omega);rcases ha with rfl|rfl <;> rfl
  .obtain ⟨ha,hb⟩:=c (by omega);rcases ha with rfl|rfl <;> rcases hb with rfl|rfl <;> rfl
  .obtain ⟨ha,hb⟩:=c (by omega);rcases ha with rfl|rfl <;> rcases hb with rfl|rfl <;> rfl
  .obtain ⟨ha,hb⟩:=c (by omega);rcases ha with rfl|rfl <;> rcases hb with rfl|rfl <;> rfl
  .show (bd (a==b)).bind (λz=>some z)=some (tr ((a==b) != false));cases (a==b) <;> rfl
 .have B:(op==1)=false:=beq_eq_false_iff_ne.2 (by omega);have A:(op==2)=false:=beq_eq_false_iff_ne.2 (by omega);have y:(op==3)=false:=beq_eq_false_iff_ne.2 (by omega);have x:(op==4)=false:=beq_eq_false_iff_ne.2 (by omega);have w:(op==5)=false:=beq_eq_false_iff_ne.2 (by omega);have u:(op==6)=false:=beq_eq_false_iff_ne.2 (by omega);have t:(op==7)=false:=beq_eq_false_iff_ne.2 (by omega);have b8:(op==8)=false:=beq_eq_false_iff_ne.2 (by omega);have s:(op==9)=false:=beq_eq_false_iff_ne.2 (by omega);have q:(op==10)=false:=beq_eq_false_iff_ne.2 (by omega);have p:(op==11)=false:=beq_eq_false_iff_ne.2 (by omega);have o:(op==12)=false:=beq_eq_false_iff_ne.2 (by omega);have m:(op==13)=false:=beq_eq_false_iff_ne.2 (by omega);have k:(op==15)=false:=beq_eq_false_iff_ne.2 (by omega);have j:(op==16)=false:=beq_eq_false_iff_ne.2 (by omega);have i:(op==17)=false:=beq_eq_false_iff_ne.2 (by omega);have g:(op==18)=false:=beq_eq_false_iff_ne.2 (by omega);have f:(op==19)=false:=beq_eq_false_iff_ne.2 (by omega);simp only [lK,Ex.op,PZ,B,A,y,x,w,u,t,b8,s,q,p,o,m,k,j,i,g,f,b7]
theorem aoP(k:Ex×zk->zc)(e:Ex)(v:zk)(hk:∀x∈e.l,k (x,v)=some (ev v x))(b:15<=e.op->(CQ v e.l=0\/CQ v e.l=1)/\(Eg v e.l=0\/Eg v e.l=1)):
  lY k e v=some (ev v e):=by
 obtain ⟨op,n,a,l⟩:=e;rw [ahy];have key:=ank op n a l v (CQ v l) (Eg v l) b;rw [show PZ (Ex.mk op n a l).op (Ex.mk op n a l).n v (CQ v (Ex.mk op n a l).l) (Eg v (Ex.mk op n a l).l)=PZ op n v (CQ v l) (Eg v l) from rfl,<-key]
 match l,hk with
 |[],_=>simp only [CQ,Eg];rfl
 |[x],hk=>
  have hx:=hk x (by simp [Ex.l]);simp only [CQ,Eg];show (k (x,v)).bind _=_;rw [hx];rfl
 |x::y::r,hk=>
  have hx:=hk x (by simp [Ex.l]);have c:=hk y (by simp [Ex.l]);simp only [CQ,Eg];have d0:decide ((0:Int)<(List.length (x::y::r):Int))=true:=cx (by simp only [eb];omega);have d1:decide ((1:Int)<(List.length (x::y::r):Int))=true:=cx (by simp only [eb];omega);show (bif decide ((0:Int)<(List.length (x::y::r):Int)) then _ else _)=_;rw [d0];show (k (x,v)).bind _=_;rw [hx];show (bif decide ((1:Int)<(List.length (x::y::r):Int)) then _ else _)=_;rw [d1];show (k (y,v)).bind _=_;rw [c];rfl
theorem agX{a:Int}(v:zk):∀(N:Nat) (e:Ex),e.sz<=N->fw a e=true->((rt e).1=1\/(rt e).1=2)->aj (λk (s:Ex×zk)=>lY k s.1 s.2) N (e,v)=some (ev v e):=by
 intro N
 induction N with
 |zero=>intro e h;have:=oE e;omega
 |succ N ih=>
  intro e h hm ht;rw [ar];refine aoP _ e v (λx hx=>ih x (by have:=mg hx;omega) ((Oh hm).2.2.2.2 x hx) (adF hm ht x hx)) (λb=>asa v (λx hx=>?_));rw [rt_eq] at ht;have c:(tB e.op e.at_ (e.l.length:Int) e.l 0 0 0).1=2:=by
   rcases ht with h|h
   .have:=WW _ _ _ _ _ _ _ h;omega
   .exact h
  exact asi v x.sz x (cK _) (O0 _ _ _ b (OX _ _ _ _ _ _ _ c).2 _ _ _ _ (by omega) c x hx).1
theorem RN{a:Int}(v:zk)(e:Ex)(h:e.sz<1152921504606846)(hm:fw a e=true)(ht:(rt e).1=1\/(rt e).1=2):eU e v=some (ev v e):=agX v an e (by show e.sz<=2^64;omega) hm ht
namespace Sp
theorem Yb(m:Sy.bp)(w:zk)(hn:w.length=m.2.1.length)(d:w.length<1000):∀(r pre:zk) (rs ps:xb),w=pre++r->m.2.1=ps++rs->ps.length=pre.length->rs.length=r.length->
  ∀M,r.length<M->aj (iX m w) M (pre.length:Int)=some (bif fits rs r then (w,0) else ([],6))
 |[],pre,rs,ps,h,hS,hl,hr,M,hM=>by
  obtain ⟨m,rfl⟩:∃m,M=m+1:=⟨M-1,by simp at hM;omega⟩;rw [ar];simp only [iX,Sy.u5 h,b7];have:rs=[]:=er hr;subst this;rfl
 |x::r,pre,[],ps,h,hS,hl,hr,M,hM=>by simp at hr
 |x::r,pre,s::rs,ps,h,hS,hl,hr,M,hM=>by
  obtain ⟨k,rfl⟩:∃k,M=k+1:=⟨M-1,by omega⟩;rw [ar];have e:idx m.2.1 (pre.length:Int)=some s:=by rw [<-hl];exact Sy.ll hS
  have a:pre.length+r.length+1=w.length:=by rw [h];simp;omega
  have ih:=Yb m w hn d r (pre++[x]) rs (ps++[s]) (by rw [h];simp) (by rw [hS];simp) (by simp;omega) (by simpa using hr) k (by simp at hM;omega);rw [show ((pre++[x]).length:Int)=((pre.length+1:Nat):Int) by simp] at ih;simp only [iX,Sy.uY h,ca,Sy.ll h,ah,e,Pa.bQ (show pre.length<4611686018427387904 by omega),ih,fits,aK,apd];by_cases c:x<s.1
  .rw [cx c,vy,ca,cy (show ¬s.1<=x by omega)];rfl
  .rw [cy c,cx (show s.1<=x by omega)];simp only [iN,ca,nJ,fc];by_cases b:s.2<x
   .rw [cx b,cy (show ¬x<=s.2 by omega)];rfl
   .rw [cy b,cx (show x<=s.2 by omega)];rfl
theorem Vb(m:Sy.bp)(v:zk)(hm:GX m.2.1 m.2.2.2.2)(hn:v.length=m.2.1.length)(k:Int)(e:Sy.aT)(hk:idx m.2.2.2.2 k=some e)(a:e∈m.2.2.2.2):
  ∀(r pre:List (Int×Ex)),e.2.2=pre++r->∀(w:zk) (M:Nat),w.length=v.length->r.length<M->
   aj (lJ m v k) M (w,(pre.length:Int))=some (fin m.2.1 (r.foldl (Mx v) w))
 |[],pre,h,w,M,hw,hM=>by
  obtain ⟨n,rfl⟩:∃n,M=n+1:=⟨M-1,by simp at hM;omega⟩;rw [ar];have i:v.length<1000:=by have:=hm.da;omega
  simp only [lJ,hk,ah,Sy.u5 h,b7,List.foldl_nil,fin];exact Yb m w (by omega) (by omega) w [] m.2.1 [] rfl rfl rfl (by omega) an (by show _<2^64;omega)
 |s::r,pre,h,w,M,hw,hM=>by
  obtain ⟨n,rfl⟩:∃n,M=n+1:=⟨M-1,by omega⟩;rw [ar];have b:s∈e.2.2:=by rw [h];simp
  obtain ⟨g,o,l⟩:=(hm.sets e a).2 s b;obtain ⟨f,d⟩:=hm.rsets e a s b;have j:=(hm.sets e a).1;have c:pre.length+r.length+1=e.2.2.length:=by rw [h];simp;omega
  obtain ⟨x,hx,_⟩:=sQ w s.1 g (by omega);have ih:=Vb m v hm hn k e hk a r (pre++[s]) (by rw [h];simp) (Mx v w s) n (by rw [Rg,hw]) (by simp at hM;omega);rw [show ((pre++[s]).length:Int)=((pre.length+1:Nat):Int) by simp] at ih;simp only [lJ,hk,ah,Sy.uY h,ca,Sy.ll h];rw [RN v s.2 (by omega) f (.inl d)];simp only [ah,hx,Pa.bQ (show pre.length<4611686018427387904 by omega)];exact ih
theorem ak9{m:Sy.bp}(hm:GX m.2.1 m.2.2.2.2)(hn:v.length=m.2.1.length)(k:Int):oD m v k=some (O8 m.2.1 m.2.2.2.2 v k):=by
 have e:v.length<1000:=by have:=hm.da;omega
 unfold oD;simp only [aK];unfold O8;by_cases hk:k<0\/(m.2.2.2.2.length:Int)<=k
 .rw [du hk];rw [show (decide (k<0)||decide ((List.length m.2.2.2.2:Int)<=k))=true by rw [fi,eT,eT];exact hk,ca]
 .rw [dk hk];rw [show (decide (k<0)||decide ((List.length m.2.2.2.2:Int)<=k))=false by rw [qi];intro h;rw [fi,eT,eT] at h;exact hk h,b7];obtain ⟨c,d,b⟩:=sQ m.2.2.2.2 k (by omega) (by omega);rw [Sy.aO (Sy.cD (by simp;omega) (by simp;omega)),pF];have a:c∈m.2.2.2.2:=fj b;have:=Vb m v hm hn k c d a c.2.2 [] rfl v an rfl (by have:=(hm.sets c a).1;show _<2^64;omega);rw [show (0:Int)=((([]:List (Int×Ex)).length:Nat):Int) from rfl,this];unfold fy;rw [b];rfl
theorem abp(m:Sy.bp)(v:zk)(hm:GX m.2.1 m.2.2.2.2):∀(r pre:List Sy.aT),m.2.2.2.2=pre++r->∀(out:zk) (M:Nat),out.length<=pre.length->r.length<M->
  aj (jz m v) M (out,(pre.length:Int))=some (out++nB v pre.length r)
 |[],pre,h,out,M,b,hM=>by
  obtain ⟨k,rfl⟩:∃k,M=k+1:=⟨M-1,by simp at hM;omega⟩;rw [ar];simp only [jz,Sy.u5 h,b7,nB,ko]
 |c::r,pre,h,out,M,b,hM=>by
  obtain ⟨k,rfl⟩:∃k,M=k+1:=⟨M-1,by omega⟩;rw [ar];have d:pre.length+r.length+1=m.2.2.2.2.length:=by rw [h];simp;omega
  have i:=hm.cmds;have g:=hm.guard c (by rw [h];simp);obtain ⟨f,e⟩:=hm.rguard c (by rw [h];simp);simp only [jz,Sy.uY h,ca,Sy.ll h,ah];rw [RN v c.2.1 (by omega) f (.inr e),ah];have ih:=λout b=>abp m v hm r (pre++[c]) (by rw [h];simp) out k b (by simp at hM;omega);rw [show ((pre++[c]).length:Int)=((pre.length+1:Nat):Int) by simp,show (pre++[c]).length=pre.length+1 by simp] at ih;simp only [Pa.bQ (show pre.length<4611686018427387904 by omega),nB];by_cases a:ev v c.2.1=1
  .rw [du a,show (ev v c.2.1==1)=true by simpa using a,ca,Sy.aO (Sy.cD (by simp;omega) (by simp;omega)),ih _ (by simp;omega),cp];rfl
  .rw [dk a,show (ev v c.2.1==1)=false by simpa using a,b7,ih _ (by omega)]
theorem asy{m:Sy.bp}(hm:GX m.2.1 m.2.2.2.2):p9 m v=some (nB v 0 m.2.2.2.2):=
 abp m v hm m.2.2.2.2 [] rfl [] an (cK _) (by have:=hm.cmds;show _<2^64;omega)
theorem DP{l:w5}:(vr v 0 l<0->iB l v=l++[v])/\(¬vr v 0 l<0->iB l v=l):=by
 unfold iB;constructor
 .intro h;rw [OF] at h;rw [dk (by simpa using h)]
 .intro h;rw [OF] at h;rw [du (by simpa using h)]
theorem Ui(m:Sy.bp)(v:zk)(hm:GX m.2.1 m.2.2.2.2)(hn:v.length=m.2.1.length)(L:zk)(n:∀i∈L,0<=i/\i<m.2.2.2.2.length)(g:L.length<=300):
  ∀(r pre:zk),L=pre++r->∀(l:w5) (M:Nat),(∀w∈l,sO m.2.1 w)->l.length<=pre.length->r.length<M->
   aj (lz m v L) M (l,(pre.length:Int))=some (bif (r.map (fy m.2.2.2.2 v)).all (fits m.2.1) then (dp l (r.map (fy m.2.2.2.2 v)),0) else ([],6))
 |[],pre,h,l,M,hs,hl,hM=>by
  obtain ⟨k,rfl⟩:∃k,M=k+1:=⟨M-1,by simp at hM;omega⟩;rw [ar];simp only [lz,Sy.u5 h,b7];rfl
 |i::r,pre,h,l,M,hs,hl,hM=>by
  obtain ⟨k,rfl⟩:∃k,M=k+1:=⟨M-1,by omega⟩;rw [ar];have j:pre.length+r.length+1=L.length:=by rw [h];simp;omega
  obtain ⟨e,d⟩:=n i (by rw [h];simp);simp only [lz,Sy.uY h,ca,Sy.ll h,ah];rw [ak9 hm hn i];unfold O8;rw [dk (by omega),ah];unfold fin;rw [e9,qp];obtain ⟨c,_,q⟩:=sQ m.2.2.2.2 i e d;have f:(fy m.2.2.2.2 v i).length=m.2.1.length:=by unfold fy;rw [q,<-hn];exact MW v c
  cases p:fits m.2.1 (fy m.2.2.2.2 v i)
  .rfl
  .have b:sO m.2.1 (fy m.2.2.2.2 v i):=⟨f,p⟩;simp only [ca,fc];rw [show ((0:Int) != 0)=false from rfl,b7,wV l _ (by omega) (λw a=>(hs w a).short hm.toSafeS),ah];have o:=FB l (fy m.2.2.2.2 v i);have ih:=Ui m v hm hn L n g r (pre++[i]) (by rw [h];simp) (iB l (fy m.2.2.2.2 v i)) k (λw a=>by
    rcases acg.1 a with h|h
    .exact hs w h
    .rw [h];exact b) (by simp;omega) (by simp at hM;omega)
   rw [show ((pre++[i]).length:Int)=((pre.length+1:Nat):Int) by simp] at ih;simp only [Pa.bQ (show pre.length<4611686018427387904 by omega),List.foldl_cons,dp] at ih ⊢;by_cases hp:vr (fy m.2.2.2.2 v i) 0 l<0
   .rw [cx hp,ca,Sy.aO (Sy.cD (by simp;omega) (by simp;omega)),<-DP.1 hp];exact ih
   .rw [cy hp,b7];rw [DP.2 hp] at ih ⊢;exact ih
theorem anx{m:Sy.bp}(hm:GX m.2.1 m.2.2.2.2)(g:sO m.2.1 v):oT m v=some (fk m.2.1 m.2.2.2.2 v):=by
 have b:=IE v m.2.2.2.2 0;have d:(nB v 0 m.2.2.2.2).length<=300:=by rw [IE];have:=qU (λc:Sy.aT=>decide (ev v c.2.1=1)) m.2.2.2.2;have:=hm.cmds;unfold enC;omega
 have a:(nB v 0 m.2.2.2.2).map (fy m.2.2.2.2 v)=goes v m.2.2.2.2:=Wc v m.2.2.2.2 m.2.2.2.2 [] rfl;have j:=Ui m v hm g.len (nB v 0 m.2.2.2.2) (λi hi=>aiU hi) d (nB v 0 m.2.2.2.2) [] rfl [] an (λw k=>by cases k) (cK _) (by show _<2^64;omega);rw [a,show ((([]:zk).length:Nat):Int)=0 from rfl] at j;unfold oT;rw [asy hm,ah,j,pF,Sy.aO (Sy.cD (by have:=g.short hm.toSafeS;simp;omega) (by have:=g.short hm.toSafeS;simp;omega))];unfold fk OL;by_cases f:goes v m.2.2.2.2=[]
 .have h:(nB v 0 m.2.2.2.2).length=0:=by rw [b];unfold goes at f;have:=congrArg List.length f;simpa using this
  rw [du f,show ((List.length (nB v 0 m.2.2.2.2):Int)==0)=true by rw [h];rfl,ca]
 .have h:(nB v 0 m.2.2.2.2).length≠0:=by rw [b];intro e;apply f;unfold goes;rw [er e];rfl
  rw [dk f,show ((List.length (nB v 0 m.2.2.2.2):Int)==0)=false by simp;simpa using h,b7]
end Sp
mutual
def ht:Ex->Nat
 | .mk _ _ _ l=>htL l+1
def htL:List Ex->Nat
 |[]=>0
 |x::r=>max (ht x) (htL r)
end
theorem asY(e:Ex):ht e=htL e.l+1:=by cases e;simp only [ht,Ex.l]
theorem Uu(k:Ex×Int->zc)(e:Ex)(most:Int)(hm: -1000<=most/\most<=1000)(hk:∀x∈e.l,∀m:Int,-1001<=m->m<=1000->∃d:Int,k (x,m)=some d/\1<=d/\d<=x.sz/\(d<m->(ht x:Int)<=d))(hl:e.sz<4611686018427387904):
  ∀(r pre:List Ex),e.l=pre++r->∀(M:Nat) (d:Int),1<=d->d<=e.sz->r.length<M->∃v:Int,aj (bW k e most) M (d,(pre.length:Int))=some v/\d<=v/\v<=e.sz/\(v<most->(htL r:Int)+1<=v)
 |[],pre,h,M,d,h1,h2,hM=>by
  obtain ⟨m,rfl⟩:∃m,M=m+1:=⟨M-1,by simp at hM;omega⟩;rw [ar];simp only [bW,vR h,aK,lk,b7];exact ⟨_,rfl,qb _,h2,λ_=>by simp only [htL];omega⟩
 |x::r,pre,h,M,d,h1,h2,hM=>by
  obtain ⟨m,rfl⟩:∃m,M=m+1:=⟨M-1,by omega⟩;rw [ar];have u:IntKind.i64.wrap (most-1)=most-1:=bq (by omega);have a:x∈e.l:=by rw [h];simp
  have q:=mg a;obtain ⟨g,hx,t,s,b⟩:=hk x a (most-1) (by omega) (by omega);have w:=yo e;have c:pre.length<4611686018427387904:=by have n:=congrArg List.length h;simp at n;omega
  have ih:=λd=>Uu k e most hm hk hl r (pre++[x]) (by rw [h];simp) m d;rw [show ((pre++[x]).length:Int)=((pre.length+1:Nat):Int) by simp] at ih;simp only [bW,kQ h,aK,fc];cases j:decide (1<most)
  .simp only [b7];refine ⟨_,rfl,qb _,h2,λf=>?_⟩;simp only [ql] at j;omega
  .have i:IntKind.i64.wrap (1+g)=1+g:=bq (by omega);simp only [ca,ou h,ah,u,hx,mM c,i];cases hd:decide (d<1+g)
   .simp only [b7];simp only [ql] at hd;obtain ⟨v,o,p,e3,e4⟩:=ih d h1 h2 (by simp at hM;omega);refine ⟨v,o,p,e3,λf=>?_⟩;have:=e4 f;have:=b (by omega);simp only [htL];omega
   .simp only [ca];simp only [eT] at hd;obtain ⟨v,o,p,e3,e4⟩:=ih (1+g) (by omega) (by omega) (by simp at hM;omega);refine ⟨v,o,by omega,e3,λf=>?_⟩;have:=e4 f;have:=b (by omega);simp only [htL];omega
theorem alf:∀(N:Nat) (e:Ex) (most:Int),e.sz<=N->e.sz<4611686018427387904-> -1000<=most->most<=1000->∃d:Int,aj (λk (s:Ex×Int)=>jy k s.1 s.2) N (e,most)=some d/\1<=d/\d<=e.sz/\(d<most->(ht e:Int)<=d):=by
 intro N
 induction N with
 |zero=>intro e _ h;have:=oE e;omega
 |succ N ih=>
  intro e most h hb i g;rw [ar];show ∃d:Int,aj (bW _ e most) an (1,0)=some d/\_;have hl:=yo e;have hp:=oE e;by_cases hm:most= -1000
  . -- none is asked
   refine ⟨1,?_,qb _,by omega,by omega⟩;rw [show an=18446744073709551615+1 from rfl,ar];simp only [bW,aK,hm,show decide ((1:Int)< -1000)=false from rfl,qK,b7]
  obtain ⟨v,n,j,e3,e4⟩:=Uu (aj (λk (s:Ex×Int)=>jy k s.1 s.2) N) e most ⟨i,g⟩ (λx hx m f a=>by
   by_cases c:m< -1000
   .obtain rfl:m= -1001:=by omega
    refine ⟨1,?_,qb _,by have:=oE x;omega,by omega⟩;obtain ⟨K,rfl⟩:∃K,N=K+1:=⟨N-1,by have:=mg hx;have:=oE x;omega⟩;rw [ar];show aj (bW _ x (-1001)) an (1,0)=some 1;rw [show an=18446744073709551615+1 from rfl,ar];simp only [bW,aK,show decide ((1:Int)< -1001)=false from rfl,qK,b7]
   .exact ih x m (by have:=mg hx;omega) (by have:=mg hx;omega) (by omega) a) hb e.l [] rfl an 1 (qb _) (by omega) (by show e.l.length<2^64;omega)
  exact ⟨v,n,j,e3,λb=>by rw [asY];have:=e4 b;omega⟩
theorem aly(e:Ex)(h:e.sz<4611686018427387904){most:Int}(b: -1000<=most)(a:most<=1000):∃d:Int,kS e most=some d/\1<=d/\d<=e.sz/\(d<most->(ht e:Int)<=d):=alf an e most (by show e.sz<=2^64;omega) h b a
theorem SB(k:Ex×Int->zc)(e:Ex)(most:Int)(hk:∀x∈e.l,∃d:Int,k (x,most)=some d/\1<=d/\d<=x.sz/\(d<most->d=x.sz))(hl:e.sz<4611686018427387904):
  ∀(r pre:List Ex),e.l=pre++r->∀(M:Nat) (d:Int),1<=d->d+xK r<=e.sz->r.length<M->∃v:Int,aj (cW k e most) M (d,(pre.length:Int))=some v/\d<=v/\v<=d+xK r/\(v<most->v=d+xK r)
 |[],pre,h,M,d,h1,h2,hM=>by
  obtain ⟨m,rfl⟩:∃m,M=m+1:=⟨M-1,by simp at hM;omega⟩;rw [ar];simp only [cW,vR h,aK,lk,b7];exact ⟨_,rfl,qb _,by simp only [xK];omega,λ_=>by simp only [xK];omega⟩
 |x::r,pre,h,M,d,h1,h2,hM=>by
  obtain ⟨m,rfl⟩:∃m,M=m+1:=⟨M-1,by omega⟩;rw [ar];obtain ⟨i,hx,o,n,b⟩:=hk x (by rw [h];simp);have p:=yo e;have a:pre.length<4611686018427387904:=by have g:=congrArg List.length h;simp at g;omega
  have ih:=λd=>SB k e most hk hl r (pre++[x]) (by rw [h];simp) m d;rw [show ((pre++[x]).length:Int)=((pre.length+1:Nat):Int) by simp] at ih;simp only [xK] at h2 ⊢;simp only [cW,kQ h,aK,fc];cases f:decide (d<most)
  .simp only [b7];refine ⟨_,rfl,qb _,by omega,λj=>?_⟩;simp only [ql] at f;omega
  .have c:IntKind.i64.wrap (d+i)=d+i:=bq (by omega);simp only [ca,ou h,ah,hx,mM a,c];obtain ⟨v,q,s,e3,e4⟩:=ih (d+i) (by omega) (by omega) (by simp at hM;omega);refine ⟨v,q,by omega,by omega,λj=>?_⟩;have:=e4 j;have:=b (by omega);omega
theorem ald:∀(N:Nat) (e:Ex) (most:Int),e.sz<=N->e.sz<4611686018427387904->∃d:Int,aj (λk (s:Ex×Int)=>jq k s.1 s.2) N (e,most)=some d/\1<=d/\d<=e.sz/\(d<most->d=e.sz):=by
 intro N
 induction N with
 |zero=>intro e _ h;have:=oE e;omega
 |succ N ih=>
  intro e most h hb;rw [ar];show ∃d:Int,aj (cW _ e most) an (1,0)=some d/\_;have hl:=yo e;have f:=Ex.ahv e;obtain ⟨v,c,b,e3,e4⟩:=SB (aj (λk (s:Ex×Int)=>jq k s.1 s.2) N) e most (λx hx=>ih x most (by have:=mg hx;omega) (by have:=mg hx;omega)) hb e.l [] rfl an 1 (qb _) (by omega) (by show e.l.length<2^64;omega);exact ⟨v,c,b,by omega,λa=>by have:=e4 a;omega⟩
theorem anM(e:Ex)(h:e.sz<4611686018427387904)(most:Int):∃d:Int,kZ e most=some d/\1<=d/\d<=e.sz/\(d<most->d=e.sz):=ald an e most (by show e.sz<=2^64;omega) h
theorem ajp{e:Ex}(h:e.sz<4611686018427387904)(a:cE e=some true):ht e<=44/\e.sz<=299:=by
 obtain ⟨d,d1,d2,g,b⟩:=aly e h (most:=45) (by omega) (by omega);obtain ⟨m,m1,f,c,m4⟩:=anM e h 300;unfold cE at a;rw [d1,m1] at a;have:(decide (d<45)&&decide (m<300))=true:=by injection a
 simp only [au,eT] at this;have:=b this.1;have:=m4 (by omega);omega
theorem abY(k:Ex×Int->y2)(e:Ex)(a:Int)(hk:∀x∈e.l,k (x,a)=some (fw a x))(hl:e.l.length<4611686018427387904):
  ∀(r pre:List Ex),e.l=pre++r->∀(M:Nat),r.length<M->aj (jF k e a (e.l.length:Int)) M (pre.length:Int)=some (vE a r)
 |[],pre,h,M,hM=>by
  obtain ⟨m,rfl⟩:∃m,M=m+1:=⟨M-1,by simp at hM;omega⟩;rw [ar];simp only [jF,vR h,b7,vE]
 |x::r,pre,h,M,hM=>by
  obtain ⟨m,rfl⟩:∃m,M=m+1:=⟨M-1,by omega⟩;rw [ar];have hx:=hk x (by rw [h];simp);have b:pre.length<4611686018427387904:=by rw [h] at hl;simp at hl;omega
  have ih:=abY k e a hk hl r (pre++[x]) (by rw [h];simp) m (by simp at hM;omega);rw [show ((pre++[x]).length:Int)=((pre.length+1:Nat):Int) by simp] at ih;simp only [jF,kQ h,ca,ou h,ah,hx,mM b,vE];cases fw a x
  .rfl
  .simp only [pd,b7,fc];exact ih
theorem arf(k:Ex×Int->y2)(e:Ex)(a b:Int)(hk:∀x∈e.l,k (x,a)=some (fw a x))(hl:e.l.length<4611686018427387904):
  my k e a b=some (vz e.op e.n (e.l.length:Int) b a&&vE a e.l):=by
 have c:((e.l.length:Int) != b)=false->aj (jF k e a b) an 0=some (vE a e.l):=λd=>by
  have d:(e.l.length:Int)=b:=by simpa using d
  rw [<-d];exact abY k e a hk hl e.l [] rfl an (by show e.l.length<2^64;omega)
 unfold my vz;simp only [aK];generalize decide (e.op<1)=c1;generalize decide (24<e.op)=g;generalize ((e.l.length:Int) != b)=c3 at*;generalize ((e.op==1)&&(decide (e.n<0)||decide (1073741824<e.n))||(e.op==2)&&(decide (e.n<0)||decide (a<=e.n))||decide (2<e.op)&&e.n != 0)=f;cases c1 <;> cases g <;> cases c3 <;> cases f <;> first|exact c rfl|rfl
theorem asF(k:Ex×Int->y2)(e:Ex)(a:Int):il k e a=my k e a (o6 e.op):=by
 unfold il sA ye o6;generalize (e.op==1)=c1;generalize (e.op==2)=j;generalize (e.op==13)=i;generalize (e.op==14)=h;generalize (e.op==6)=g;generalize (e.op==15)=f;generalize (e.op==20)=d;generalize (e.op==21)=c;generalize (e.op==22)=b;cases c1
 .cases j
  .cases i
   .cases h
    .cases g
     .cases f
      .cases d
       .cases c
        .cases b <;> rfl
        .rfl
       .rfl
      .rfl
     .rfl
    .rfl
   .rfl
  .rfl
 .rfl
theorem amn:∀(N:Nat) (e:Ex) (a:Int),e.sz<=N->e.sz<4611686018427387904->aj (λk (s:Ex×Int)=>il k s.1 s.2) N (e,a)=some (fw a e):=by
 intro N
 induction N with
 |zero=>intro e _ h;have:=oE e;omega
 |succ N ih=>
  intro e a h hb;rw [ar];show il _ e a=_;have hl:=yo e;rw [asF,arf _ e a _ (λx hx=>ih x a (by have:=mg hx;omega) (by have:=mg hx;omega)) (by omega),WS]
theorem aqT(e:Ex)(h:e.sz<4611686018427387904)(a:Int):pV e a=some (fw a e):=amn an e a (by show e.sz<=2^64;omega) h
namespace Ns
theorem nK{σ ρ:Type}{F:(σ->Option ρ)->σ->Option ρ}(f:Nat->σ)(P:Nat->Prop)(R:Option ρ->Prop)(n:Nat)(hn:n<9223372036854775807)
  (e:∀i,i<n->(∀j,j<i->P j)->∀k,R (F k (f i))\/(P i/\F k (f i)=k (f (i+1)))) (h:(∀j,j<n->P j)->∀k,R (F k (f n))):R (aj F an (f 0)):=by
 have key:∀(d i m:Nat),i+d=n->d<m->(∀j,j<i->P j)->R (aj F m (f i)):=λd=>by
  induction d with
  |zero=>
   intro i m c b a;obtain ⟨m,rfl⟩:∃q,m=q+1:=⟨m-1,by omega⟩;grind [ar]
  |succ d ih=>
   intro i m c b a;obtain ⟨m,rfl⟩:∃q,m=q+1:=⟨m-1,by omega⟩;rw [ar];grind
 exact key n 0 an (by omega) (by show n<2^64;omega) (λj g=>by omega)
theorem bH{α:Type}{l:List α}{i:Nat}(h:i<l.length):idx l (i:Int)=some l[i]:=by simp_all [idx]
def A0(Q:Prop)(x:y2):Prop:= ∃b,x=some b/\(b=true->Q)
theorem uE{Q:Prop}:A0 Q (some false):=⟨false,rfl,λh=>by cases h⟩
theorem Nw{l:V}(hl:l.length<=1048576)(n:Int):A0 (∀q∈l,0<=q/\q<n) (fg l n):=by
 refine nK (λi=>(i:Int)) (λi=>∀q,l[i]? =some q->0<=q/\q<n) _ l.length (by omega) (λi hi _ k=>?_) (λh k=>?_)
 .unfold ob;simp [So.aK];rw [cx (by omega),ca,bH hi,So.ah];by_cases a:l[i]<0
  .refine .inl ?_;rw [cx a];exact uE
  .rw [cy a];show A0 _ ((some l[i]).bind _)\/_/\(some l[i]).bind _=_;grind [So.ah,decide_eq_true,uE,List.getElem?_eq_getElem,decide_eq_false,Pa.bQ]
 .unfold ob;rw [cy (by omega),b7];exact ⟨true,rfl,λ_ q b=>by grind [List.mem_iff_getElem?,List.getElem?_eq_some_iff]⟩
structure Qp(a:Au):Prop where
 l0:a.1.length<=1048576
 l1:∀l∈a.1,l.length<=1048576/\∀e∈l,e.sz<=1048576
 n0:a.2.1.length<=1048576
 n1:∀l∈a.2.1,l.length<=1048576
 i0:a.2.2.1.length<=1048576
 c0:a.2.2.2.length<=1048576
 c1:∀l∈a.2.2.2,l.length<=1048576
theorem aqV(e:Ex)(h:e.sz<=1048576):lW e=some ((rt e).2.1==0&&(rt e).1==2):=by unfold lW;rw [show dO e=some (rt e) from SU an e (by show e.sz<=2^64;omega) (by omega),So.ah];rfl
theorem alx{a:Au}(hb:Qp a):A0 ((∀q∈a.2.2.1,0<=q/\q<(a.1.length:Int))/\a.2.1.length=a.1.length/\(∀l∈a.2.1,∀q∈l,0<=q/\q<(a.1.length:Int))/\(∀l∈a.1,∀e∈l,(rt e).1=2)) (nP a):=by
 unfold nP;obtain ⟨b,s,r⟩:=Nw hb.i0 (a.1.length);rw [s,So.ah];simp [So.aK];cases b with
 |false=>exact uE
 |true=>
  by_cases hl:a.2.1.length=a.1.length
  .rw [show ((a.2.1.length:Int) != (a.1.length))=false by rw [hl];simp];show A0 _ (aj (kI a) an 0);refine nK (λi=>(i:Int)) (λi=>(∀l,a.2.1[i]? =some l->∀q∈l,0<=q/\q<(a.1.length))/\∀l,a.1[i]? =some l->∀e∈l,(rt e).1=2) _ a.1.length (by have:=hb.l0;omega) (λi hi _ k=>?_) (λh k=>?_)
   .have d:i<a.2.1.length:=by omega
    unfold kI;rw [cx (by omega),ca,bH d,So.ah];obtain ⟨u,n,p⟩:=Nw (hb.n1 _ (c9 d)) (a.1.length);rw [n,So.ah];cases u with
    |false=>exact .inl uE
    |true=>
     have hx:=hb.l1 _ (c9 hi);refine nK (F:=kD a (i) k) (λj=>(j)) (λj=>∀e,a.1[i][j]? =some e->(rt e).1=2) (λx=>A0 _ x\/_/\x=k ((i+1:Nat))) a.1[i].length (by omega) (λj c _ g=>?_) (λh g=>?_)
     .unfold kD;rw [bH hi,So.ah,cx (by omega),ca,So.ah,bH c,So.ah,aqV _ (hx.2 _ (c9 c)),So.ah];cases o:((rt a.1[i][j]).2.1==0&&(rt a.1[i][j]).1==2) with
      |false=>exact .inl (.inl uE)
      |true=>
       refine .inr ⟨λe f=>?_,?_⟩
       .rw [b9 c] at f;cases f;simp at o;exact o.2
       .rw [Pa.bQ (by omega)];rfl
     .unfold kD;rw [bH hi,So.ah,cy (by omega),b7,Pa.bQ (by have:=hb.l0;omega)];refine .inr ⟨⟨λl hl=>?_,λl hl=>?_⟩,rfl⟩
      .rw [b9 d] at hl;cases hl;exact p rfl
      .rw [b9 hi] at hl;cases hl;exact λe f=>by
        obtain ⟨j,c⟩:=List.mem_iff_getElem?.1 f;exact h j (List.getElem?_eq_some_iff.1 c).1 e c
   .unfold kI;rw [cy (by omega),b7];refine nK (F:=iA a) (λj=>(j)) (λ_=>True) _ a.2.2.2.length (by have:=hb.c0;omega) (λj c _ g=>?_) (λ_ g=>?_)
    .unfold iA;rw [cx (by omega),ca,bH c,So.ah];obtain ⟨t,n,p⟩:=Nw (hb.c1 _ (c9 c)) (a.1.length);rw [n,So.ah];cases t with
     |false=>exact .inl uE
     |true=>exact .inr ⟨trivial,by have:=hb.c0;rw [Pa.bQ (by omega)];rfl⟩
    .unfold iA;rw [cy (by omega),b7];refine ⟨true,rfl,λ_=>⟨r rfl,hl,λl m=>?_,λl m=>?_⟩⟩
     .grind [List.mem_iff_getElem?,List.getElem?_eq_some_iff]
     grind [List.mem_iff_getElem?,List.getElem?_eq_some_iff]
  .rw [show ((a.2.1.length:Int) != (a.1.length))=true by simp;omega,Bool.or_true];exact uE
end Ns
theorem XD(k:Ex×Int->zc)(e:Ex)(most:Int)(hk:∀x∈e.l,∀m,∃d,k (x,m)=some d)(hl:e.l.length<4611686018427387904):
  ∀(r pre:List Ex),e.l=pre++r->∀(M:Nat) (d:Int),r.length<M->∃v,aj (bW k e most) M (d,(pre.length:Int))=some v
 |[],pre,h,M,d,hM=>by
  obtain ⟨m,rfl⟩:∃m,M=m+1:=⟨M-1,by simp at hM;omega⟩;rw [ar];simp only [bW,vR h,aK,lk,b7];exact ⟨_,rfl⟩
 |x::r,pre,h,M,d,hM=>by
  obtain ⟨m,rfl⟩:∃m,M=m+1:=⟨M-1,by omega⟩;rw [ar];obtain ⟨b,hx⟩:=hk x (by rw [h];simp) (IntKind.i64.wrap (most-1));have a:pre.length<4611686018427387904:=by rw [h] at hl;simp at hl;omega
  have ih:=λd=>XD k e most hk hl r (pre++[x]) (by rw [h];simp) m d (by simp at hM;omega);rw [show ((pre++[x]).length:Int)=((pre.length+1:Nat):Int) by simp] at ih;simp only [bW,kQ h,aK,fc];cases decide (1<most)
  .simp only [b7];exact ⟨_,rfl⟩
  .simp only [ca,ou h,ah,hx,mM a];cases decide (d<IntKind.i64.wrap (1+b))
   .simp only [b7];exact ih _
   .simp only [ca];exact ih _
theorem aiH:∀(N:Nat) (e:Ex) (most:Int),e.sz<=N->e.sz<4611686018427387904->∃d,aj (λk (s:Ex×Int)=>jy k s.1 s.2) N (e,most)=some d:=by
 intro N
 induction N with
 |zero=>intro e _ h;have:=oE e;omega
 |succ N ih=>
  intro e most h hb;rw [ar];show ∃d,aj (bW _ e most) an (1,0)=some d;have hl:=yo e;exact XD _ e most (λx hx m=>ih x m (by have:=mg hx;omega) (by have:=mg hx;omega)) (by omega) e.l [] rfl an 1 (by show e.l.length<2^64;omega)
theorem XI(k:Ex×Int->zc)(e:Ex)(most:Int)(hk:∀x∈e.l,∀m,∃d,k (x,m)=some d)(hl:e.l.length<4611686018427387904):
  ∀(r pre:List Ex),e.l=pre++r->∀(M:Nat) (d:Int),r.length<M->∃v,aj (cW k e most) M (d,(pre.length:Int))=some v
 |[],pre,h,M,d,hM=>by
  obtain ⟨m,rfl⟩:∃m,M=m+1:=⟨M-1,by simp at hM;omega⟩;rw [ar];simp only [cW,vR h,aK,lk,b7];exact ⟨_,rfl⟩
 |x::r,pre,h,M,d,hM=>by
  obtain ⟨m,rfl⟩:∃m,M=m+1:=⟨M-1,by omega⟩;rw [ar];obtain ⟨b,hx⟩:=hk x (by rw [h];simp) most;have a:pre.length<4611686018427387904:=by rw [h] at hl;simp at hl;omega
  have ih:=λd=>XI k e most hk hl r (pre++[x]) (by rw [h];simp) m d (by simp at hM;omega);rw [show ((pre++[x]).length:Int)=((pre.length+1:Nat):Int) by simp] at ih;simp only [cW,kQ h,aK,fc];cases decide (d<most)
  .simp only [b7];exact ⟨_,rfl⟩
  .simp only [ca,ou h,ah,hx,mM a];exact ih _
theorem aiF:∀(N:Nat) (e:Ex) (most:Int),e.sz<=N->e.sz<4611686018427387904->∃d,aj (λk (s:Ex×Int)=>jq k s.1 s.2) N (e,most)=some d:=by
 intro N
 induction N with
 |zero=>intro e _ h;have:=oE e;omega
 |succ N ih=>
  intro e most h hb;rw [ar];show ∃d,aj (cW _ e most) an (1,0)=some d;have hl:=yo e;exact XI _ e most (λx hx m=>ih x m (by have:=mg hx;omega) (by have:=mg hx;omega)) (by omega) e.l [] rfl an 1 (by show e.l.length<2^64;omega)
theorem amO(e:Ex)(h:e.sz<4611686018427387904):∃b,cE e=some b:=by obtain ⟨d,hd⟩:=aiH an e 45 (by show e.sz<=2^64;omega) h;obtain ⟨m,hm⟩:=aiF an e 300 (by show e.sz<=2^64;omega) h;refine ⟨decide (d<45)&&decide (m<300),?_⟩;unfold cE kS kZ;rw [hd,hm];rfl
namespace Ns
def dL{α:Type}:List (List α)->Nat
 |[]=>0
 |x::l=>x.length+dL l
theorem rQ{α:Type}:∀{l:List (List α)} {i:Nat} (h:i<l.length),dL (l.take (i+1))=dL (l.take i)+l[i].length
 |x::l,0,_=>by simp [dL]
 |x::l,i+1,h=>by have:=rQ (by simpa using h);grind [dL]
theorem K8{α:Type}{x:List α}:∀{l:List (List α)},x∈l->x.length<=dL l
 |y::l,h=>by
  unfold dL;rcases List.mem_cons.1 h with rfl|h
  .omega
  .have:=K8 h;omega
theorem aqI{a:Au}(hb:Qp a){n:Nat}(hn:n<=100000000):A0 (n<4000/\dL a.1<4000/\(∀l∈a.1,∀e∈l,cE e=some true)/\a.1.length<=40) (aj (jD a 40) an ((n:Int),0)):=by
 have c:=hb.l0;refine nK (F:=jD a 40) (λi:Nat=>(((n+dL (a.1.take i):Nat)),(i))) (λi=>n+dL (a.1.take i)<4000/\∀l,a.1[i]? =some l->∀e∈l,cE e=some true) _ a.1.length (by omega) (λi hi _ k=>?_) (λh k=>?_)
 .unfold jD;simp [So.aK];rw [cx (by omega)];by_cases g:n+dL (a.1.take i)<4000
  .rw [cx (by omega),Bool.and_true,ca,bH hi,So.ah];have hx:=hb.l1 _ (c9 hi);refine nK (F:=lZ a ((n+dL (a.1.take i):Nat)) (i) k a.1[i]) (λj=>(j)) (λj=>∀e,a.1[i][j]? =some e->cE e=some true) (λx=>A0 _ x\/_/\x=k (((n+dL (a.1.take (i+1)):Nat)),((i+1:Nat)))) a.1[i].length (by omega) (λj d _ b=>?_) (λh b=>?_)
   .unfold lZ;rw [bH hi,So.ah,cx (by omega),ca,So.ah,bH d,So.ah];grind [amO,List.getElem_mem,So.ah,uE,List.getElem?_eq_getElem,Pa.bQ]
   .unfold lZ;rw [bH hi,So.ah,cy (by omega),b7,Pa.bQ (by omega),rQ hi];grind [List.getElem?_eq_getElem,List.mem_iff_getElem?,List.getElem?_eq_some_iff,bq]
  grind [decide_eq_false,dL,uE]
 .unfold jD;simp only [So.aK];rw [cy (by omega),lk,b7,qx];refine ⟨_,rfl,λf=>?_⟩;grind [List.mem_iff_getElem?,List.getElem?_eq_some_iff]
theorem are{a:Au}(hb:Qp a):A0 (dL a.2.1<4000/\dL a.2.2.2<4000/\a.2.2.1.length<4000/\dL a.1<4000/\(∀l∈a.1,∀e∈l,cE e=some true)/\a.1.length<=40) (pT a 40):=by
 unfold pT;have o:=hb.i0;have p:=hb.c0;have m:=hb.n0;rw [bq (by omega)];have s:((a.2.2.1.length:Int)+(a.2.2.2.length:Int),(0:Int))=(λi:Nat=>(((a.2.2.1.length+a.2.2.2.length+dL (a.2.1.take i):Nat):Int),(i:Int))) 0:=by simp [dL]
 rw [s];have two:∀n:Nat,n<=10000000->A0 (n<4000/\dL a.2.2.2<4000/\dL a.1<4000/\(∀l∈a.1,∀e∈l,cE e=some true)/\a.1.length<=40) (aj (jC a 40) an ((n:Int),0)):=λn hn=>by
  have r:((n:Int),(0:Int))=(λi:Nat=>(((n+dL (a.2.2.2.take i):Nat):Int),(i:Int))) 0:=by simp [dL]
  rw [r];refine nK (F:=jC a 40) (λi:Nat=>(((n+dL (a.2.2.2.take i):Nat):Int),(i:Int))) (λi=>n+dL (a.2.2.2.take i)<4000) _ a.2.2.2.length (by omega) (λi hi hp k=>?_) (λhp k=>?_)
  .have f:n+dL (a.2.2.2.take i)<=20000000:=by
    cases i with
    |zero=>simp [dL];omega
    |succ i=>
     have:=hp i (by omega);have d:=hb.c1 _ (c9 (l:=a.2.2.2) (n:=i) (by omega));rw [rQ (by omega)];omega
   unfold jC;simp only [So.aK];rw [cx (show (i:Int)<(a.2.2.2.length:Int) by omega)];by_cases h:n+dL (a.2.2.2.take i)<4000
   .rw [cx (show ((n+dL (a.2.2.2.take i):Nat):Int)<4000 by omega),Bool.and_true,ca,bH hi,So.ah,Pa.bQ (by omega)];have d:=hb.c1 _ (c9 hi);refine .inr ⟨h,?_⟩;rw [rQ hi,bq (by omega)];congr 2;omega
   .rw [cy (show ¬((n+dL (a.2.2.2.take i):Nat):Int)<4000 by omega),qK,b7];obtain ⟨b,g,d⟩:=aqI hb (n:=n+dL (a.2.2.2.take i)) (by omega);exact .inl ⟨b,g,λc=>absurd (d c).1 h⟩
  .have f:n+dL a.2.2.2<=20000000:=by
    cases j:a.2.2.2.length with
    |zero=>rw [List.length_eq_zero_iff.1 j];simp [dL];omega
    |succ i=>
     have:=hp i (by omega);have d:=hb.c1 _ (c9 (l:=a.2.2.2) (n:=i) (by omega));have q:=rQ (l:=a.2.2.2) (i:=i) (by omega);rw [<-j,qx] at q;omega
   unfold jC;simp only [So.aK];rw [cy (show ¬(a.2.2.2.length:Int)<(a.2.2.2.length:Int) by omega),lk,b7,qx];obtain ⟨b,g,d⟩:=aqI hb (n:=n+dL a.2.2.2) (by omega);exact ⟨b,g,λc=>⟨by have:=(d c).1;omega,by have:=(d c).1;omega,(d c).2⟩⟩
 refine nK (F:=mf a 40) (λi:Nat=>(((a.2.2.1.length+a.2.2.2.length+dL (a.2.1.take i):Nat)),(i))) (λi=>a.2.2.1.length+a.2.2.2.length+dL (a.2.1.take i)<4000) _ a.2.1.length (by omega) (λi hi hp k=>?_) (λhp k=>?_)
 .have f:a.2.2.1.length+a.2.2.2.length+dL (a.2.1.take i)<=4000000:=by
   cases i with
   |zero=>simp [dL];omega
   |succ i=>
    have:=hp i (by omega);have d:=hb.n1 _ (c9 (n:=i) (by omega));rw [rQ (by omega)];omega
  unfold mf;simp [So.aK];rw [cx (by omega)];by_cases h:a.2.2.1.length+a.2.2.2.length+dL (a.2.1.take i)<4000
  .rw [cx (by omega),Bool.and_true,ca,bH hi,So.ah,Pa.bQ (by omega)];have d:=hb.n1 _ (c9 hi);refine .inr ⟨h,?_⟩;rw [rQ hi,bq (by omega)];congr 2;omega
  .rw [cy (by omega),qK,b7];obtain ⟨b,g,d⟩:=two _ (by omega:a.2.2.1.length+a.2.2.2.length+dL (a.2.1.take i)<=10000000);exact .inl ⟨b,g,λc=>absurd (d c).1 h⟩
 .have f:a.2.2.1.length+a.2.2.2.length+dL a.2.1<=4000000:=by
   cases j:a.2.1.length with
   |zero=>grind
   |succ i=>
    have d:=hb.n1 _ (c9 (n:=i) (by omega));grind [rQ,List.take_length]
  unfold mf;simp only [So.aK];rw [cy (by omega),lk,b7,qx];obtain ⟨b,g,d⟩:=two _ (by omega:a.2.2.1.length+a.2.2.2.length+dL a.2.1<=10000000);exact ⟨b,g,λc=>⟨by grind,(d c).2.1,by grind,(d c).2.2⟩⟩
theorem alb{a:Au}(hb:Qp a)(b:Int):A0 (∀l∈a.1,∀e∈l,fw b e=true) (vA a b):=by
 have d:=hb.l0;refine nK (F:=me a b) (λi=>(i)) (λi=>∀l,a.1[i]? =some l->∀e∈l,fw b e=true) _ a.1.length (by omega) (λi hi _ k=>?_) (λh k=>?_)
 .unfold me;rw [cx (by omega),ca];have hx:=hb.l1 _ (c9 hi);refine nK (F:=mG a b (i) k) (λj=>(j)) (λj=>∀e,a.1[i][j]? =some e->fw b e=true) (λx=>A0 _ x\/_/\x=k ((i+1:Nat))) a.1[i].length (by omega) (λj f _ c=>?_) (λh c=>?_)
  .unfold mG;rw [bH hi,So.ah,cx (by omega),ca,So.ah,bH f,So.ah,aqT _ (by grind),So.ah];grind [fw,uE,List.getElem?_eq_getElem,Pa.bQ]
  .unfold mG;rw [bH hi,So.ah,cy (by omega),b7,Pa.bQ (by omega)];grind [List.getElem?_eq_getElem,List.mem_iff_getElem?,List.getElem?_eq_some_iff]
 .unfold me;rw [cy (by omega),b7];exact ⟨true,rfl,λ_ l hl=>by grind [List.mem_iff_getElem?,List.getElem?_eq_some_iff]⟩
theorem alA{m:bp}(hS:m.2.1.length<=1048576)(e:∀f∈m.2.1,0<=f.2-f.1/\f.2-f.1<=100000000/\ -2000000000<=f.1/\f.2<=2000000000):∃b,fD m 200=some b:=by
 have key:∀(d i M:Nat) (n:Int),i+d=m.2.1.length->d<M->0<=n->n<=100000000000->∃b,aj (cm m 200) M (n,(i))=some b:=λd=>by
  induction d with
  |zero=>
   intro i M n j h c g;obtain ⟨M,rfl⟩:∃q,M=q+1:=⟨M-1,by omega⟩;rw [ar];unfold cm;simp only [So.aK];rw [cy (by omega),lk,b7];exact ⟨_,rfl⟩
  |succ d ih=>
   intro i M n j h c g;obtain ⟨M,rfl⟩:∃q,M=q+1:=⟨M-1,by omega⟩;have hi:i<m.2.1.length:=by omega
   have o:=e _ (c9 hi);have a:=λn=>ih (i+1) M n (by omega) (by omega);rw [ar];generalize aj (cm m 200) M=k at a ⊢;unfold cm;simp only [So.aK];rw [cx (by omega),fc];by_cases hn:n<=200
   .rw [cx hn,ca,bH hi,So.ah,So.ah,Pa.bQ (by omega)];have l:IntKind.i64.wrap (IntKind.i64.wrap (m.2.1[i].2-m.2.1[i].1)+1)=m.2.1[i].2-m.2.1[i].1+1:=by grind [bq]
    have r:0<=n*(m.2.1[i].2-m.2.1[i].1+1):=Int.mul_nonneg c (by omega);have p:n*(m.2.1[i].2-m.2.1[i].1+1)<=200*100000001:=Int.mul_le_mul hn (by omega) (by omega) (by omega);rw [l,bq (by omega)];grind
   grind
 exact key m.2.1.length 0 an 1 (by omega) (by show m.2.1.length<2^64;omega) (by omega) (by omega)
end Ns
namespace Ns
open Sp
structure kr(m:bp)(a:Au):Prop where
 hm:GX m.2.1 m.2.2.2.2
 hi:sO m.2.1 m.2.2.1
 ha:Pd.vo a a.1.length
 lit:∀l∈a.1,∀e∈l,fw (m.1.length:Int) e=true/\(rt e).1=2/\e.sz<1000000
 da:ZA a
variable {m : bp} {a : Au}
theorem ars(h:kr m a){q:Int}(g:0<=q/\q<(a.1.length:Int))(v:V):tU a q v=some (Pd.o9 a q v):=by
 obtain ⟨i,rfl⟩:∃i:Nat,q=(i):=⟨q.toNat,by omega⟩;have hi:i<a.1.length:=by omega
 have hl:=(h.ha.row _ (c9 hi)).1;have c:Pd.o9 a (i) v=a.1[i].all λe=>ev v e==1:=by grind [Pd.o9,Pd.acx]
 rw [c];refine nK (F:=lr a (i) v) (λj=>(j)) (λj=>∀e,a.1[i][j]? =some e->ev v e=1) (λx=>x=some (a.1[i].all λe=>ev v e==1)) a.1[i].length (by omega) (λj b _ k=>?_) (λl k=>?_)
 .unfold lr;obtain ⟨f,d,o⟩:=h.lit _ (c9 hi) _ (c9 b);rw [bH hi,So.ah,cx (by omega),ca,So.ah,bH b,So.ah,RN v _ (by omega) f (.inr d),So.ah];by_cases n:ev v a.1[i][j]=1
  .grind [List.getElem?_eq_getElem,Pa.bQ]
  grind
 .unfold lr;rw [bH hi,So.ah,cy (by omega),b7];grind [List.all_eq_true,List.mem_iff_getElem?,List.getElem?_eq_some_iff]
theorem akf(v:V)(p q:zk):Pd.dP a v (p++q)=Pd.dP a v p++Pd.dP a v q:=by simp [Pd.dP]
theorem og{A R:Type}{d:A}{x:Option A}{f:A->Option R}:bn true d x f=x.bind f:=rfl
theorem DY{A R:Type}{d:A}{x:Option A}{b:A->Bool}{p q:Option R}:(bn false d x λr=>ai (b r) λc=>ai (false&&c) λe=>bif e then p else q)=q:=rfl
theorem aoi(h:kr m a){v:V}(p:v.length<1000000){qs:zk}(n:∀q∈qs,0<=q/\q<(a.1.length:Int))(j:qs.length<=5000){l:List V}(hl:l.length<=20000000)(g:∀w∈l,w.length<2000000):
  mh l a v qs=some (dp l (Pd.dP a v qs)):=by
 have c:∀i,(dp l (Pd.dP a v (qs.take i))).length<=l.length+i:=λi=>by grind [sD,Pd.dP,Pd.G8]
 have e:∀i,∀w∈dp l (Pd.dP a v (qs.take i)),w.length<2000000:=λi w b=>by
  rcases ny.1 b with d|d
  .exact g w d
  .obtain ⟨q,_,_,rfl⟩:=Pd.GB d;simp;omega
 refine nK (F:=j4 a v qs) (λi=>(dp l (Pd.dP a v (qs.take i)),(i))) (λ_=>True) (λx=>x=some (dp l (Pd.dP a v qs))) qs.length (by omega) (λi hi _ k=> .inr ⟨trivial,?_⟩) (λ_ k=>?_)
 .unfold j4;dsimp only;have d:=c i;rw [cx (by omega),ca,bH hi,So.ah,Sy.aO (Sy.cD (by simp;omega) (by simp;omega)),Sy.aO (Sy.cD (by simp;omega) (by simp;omega)),So.ah,ars h (n _ (c9 hi)),So.ah,pF,Pa.bQ (by omega)];rw [show qs.take (i+1)=qs.take i++[qs[i]] from nA hi,akf,Pd.Kn];cases f:Pd.o9 a qs[i] v with
  |false=>
   have:Pd.dP a v [qs[i]]=[]:=by simp [Pd.dP,f]
   rw [this,show dp (dp l (Pd.dP a v (qs.take i))) []=dp l (Pd.dP a v (qs.take i)) from rfl];rw [DY]
  |true=>
   have o:Pd.dP a v [qs[i]]=[v++[qs[i]]]:=by simp [Pd.dP,f]
   rw [o];rw [og,wV _ _ (by omega) (λw b=>by grind),So.ah];simp only [So.aK,fc];have hd:dp (dp l (Pd.dP a v (qs.take i))) [v++[qs[i]]]=iB (dp l (Pd.dP a v (qs.take i))) (v++[qs[i]]):=rfl;rw [hd];by_cases hp:vr (v++[qs[i]]) 0 (dp l (Pd.dP a v (qs.take i)))<0
   .rw [cx hp,ca,DP.1 hp,Sy.aO (Sy.cD (by simp;omega) (by simp;omega))]
   .rw [cy hp,b7,DP.2 hp]
 simp_all [j4,b7]
theorem Nn(h:kr m a){v:V}(b:sO m.2.1 v):v.length<1000000:=by have d:=b.len;have c:=h.hm.da;omega
theorem arZ(h:kr m a):kU m a=some (vq m a):=by unfold kU;have:=h.ha.init;rw [aoi h (Nn h h.hi) this.2 this.1 (by simp) (λw b=>by cases b)];rfl
theorem Ur(h:kr m a){x:V}(hx:Pd.St m a.1.length x):x.length<1000001:=by obtain ⟨v,q,rfl,b,_⟩:=hx;grind [Nn]
theorem ajg(h:kr m a){x:V}(hx:Pd.St m a.1.length x):jb m a x=some (Pd.bF m a x):=by
 obtain ⟨v,q,rfl,g,A⟩:=hx;rw [Pd.Kp];have s:=Nn h g;unfold jb Pd.Gw;have r:IntKind.i64.wrap ((List.length (v++[q]))-1)=(v.length):=by grind [bq]
 have y:aV (v++[q]) 0 (v.length)=v:=by unfold aV;simp
 rw [r,Sy.aO (by grind [df]),y,anx h.hm g,So.ah];have o:=NP (S:=m.2.1) (cmds:=m.2.2.2.2) v;have t:=h.hm.cmds;by_cases n:(fk m.2.1 m.2.2.2.2 v).2=0
 .rw [du n,show ((fk m.2.1 m.2.2.2.2 v).2 != 0)=false by simp [n],b7];obtain ⟨i,rfl⟩:∃i:Nat,q=(i):=⟨q.toNat,by omega⟩;have hi:i<a.2.1.length:=by have:=h.ha.next;omega
  have l:Pd.wm a (i)=a.2.1[i]:=by grind [Pd.wm]
  have c:=h.ha.nxt _ (c9 hi);have f:∀w∈(fk m.2.1 m.2.2.2.2 v).1,w.length<1000000:=λw b=>Nn h (R9 g w b);have d:∀j,j<=(fk m.2.1 m.2.2.2.2 v).1.length->(dp [] (Pd.wx a a.2.1[i] ((fk m.2.1 m.2.2.2.2 v).1.take j))).length<=5000*j:=λj e=>by grind [sD,Pd.wx,fk,Pd.NR,min]
  rw [l];refine nK (F:=lA a (v++[(i:Int)]) (fk m.2.1 m.2.2.2.2 v)) (λj=>(dp [] (Pd.wx a a.2.1[i] ((fk m.2.1 m.2.2.2.2 v).1.take j)),(j))) (λ_=>True) (λx=>x=some (dp [] (Pd.wx a a.2.1[i] (fk m.2.1 m.2.2.2.2 v).1),0)) (fk m.2.1 m.2.2.2.2 v).1.length (by omega) (λj e _ k=> .inr ⟨trivial,?_⟩) (λ_ k=>?_)
  .unfold lA;dsimp only;have e3:idx (v++[(i:Int)]) (v.length)=some (i:Int):=by grind [bH]
   rw [cx (by omega),ca,bH e,So.ah,r,e3,So.ah,bH hi,So.ah];have B:=d j (by omega);rw [aoi h (f _ (c9 e)) c.2 c.1 (by omega) (λw b=>?_),So.ah,Pa.bQ (by omega),show (fk m.2.1 m.2.2.2.2 v).1.take (j+1)=(fk m.2.1 m.2.2.2.2 v).1.take j++[(fk m.2.1 m.2.2.2.2 v).1[j]] from nA e]
   .grind [Pd.wx,Pd.Kn]
   .rcases ny.1 b with b|b
    .cases b
    .obtain ⟨u,z,b⟩:=List.mem_flatMap.1 b;obtain ⟨p,_,_,rfl⟩:=Pd.GB b;grind
  simp_all [lA,b7]
 grind
end Ns
namespace Ns
open Sp
variable {m : bp} {a : Au}
structure amk(m:bp)(a:Au)(Us:List V):Prop where
 st:∀x∈Us,Pd.St m a.1.length x
 vq:∀x∈vq m a,x∈Us
 code:∀x∈Us,(Pd.bF m a x).2=0
 next:∀x∈Us,∀y∈(Pd.bF m a x).1,y∈Us
theorem Sm(h:kr m a):∀x∈vq m a,Pd.St m a.1.length x:=λx hx=>by
 rcases ny.1 hx with hx|hx
 .cases hx
 .obtain ⟨q,b,_,rfl⟩:=Pd.GB hx;exact ⟨_,q,rfl,h.hi,h.ha.init.2 q b⟩
theorem ae8(h:kr m a):(vq m a).length<=5000:=by have d:=sD (Pd.dP a m.2.2.1 a.2.2.1) [];have c:=Pd.G8 (a:=a) (v:=m.2.2.1) (qs:=a.2.2.1);have b:=h.ha.init.1;grind [vq]
def aeM(m:bp)(a:Au)(most:Nat)(x:Option (List V×Int)):Prop:= ∃r,x=some r/\(r.2=0->r.1.length<=most/\amk m a r.1)
theorem apW(h:kr m a){most:Nat}(u:most<=1000):aeM m a most (nF m a (most:Int)):=by
 unfold nF;rw [arZ h,So.ah];have key:∀(d i M:Nat) (l:List V),i+d=most+1->d<M->l.length<=10000000->i<=l.length->(∀x∈l,Pd.St m a.1.length x)->(∀x∈vq m a,x∈l)->(∀x∈l.take i,(Pd.bF m a x).2=0/\∀y∈(Pd.bF m a x).1,y∈l)->
   aeM m a most (aj (ix m a (most:Int)) M (l,(i:Int))):=λd=>by
  induction d with
  |zero=>
   intro i M l J I H G f z g;obtain ⟨M,rfl⟩:∃q,M=q+1:=⟨M-1,by omega⟩;rw [ar];generalize aj _ M=k;unfold ix;dsimp only;rw [cx (show (most:Int)<(l.length:Int) by omega)];refine ⟨([],7),?_,λp=>by cases p⟩;cases decide ((i:Int)<(l.length:Int)) <;> rfl
  |succ d ih=>
   intro i M l J I H G f z g;obtain ⟨M,rfl⟩:∃q,M=q+1:=⟨M-1,by omega⟩;have n:=λl=>ih (i+1) M l (by omega) (by omega);rw [ar];generalize aj (ix m a (most:Int)) M=k at n ⊢;unfold ix;dsimp only;by_cases C:most<l.length
   .rw [cx (show (most:Int)<(l.length:Int) by omega)];refine ⟨([],7),?_,λp=>by cases p⟩;cases decide ((i:Int)<(l.length)) <;> rfl
   .rw [cy (show ¬(most:Int)<(l.length) by omega)];by_cases hi:i<l.length
    .rw [cx (by omega),ca,b7,bH hi,So.ah,ajg h (f _ (c9 hi)),So.ah];by_cases r:(Pd.bF m a l[i]).2=0
     .rw [show ((Pd.bF m a l[i]).2 != 0)=false by simp [r],b7];have B:=Pd.Hg h.hm.toSafeS h.ha (f _ (c9 hi));have c:=Pd.R7 h.ha (f _ (c9 hi));have v:aj (iz (i) k (Pd.bF m a l[i])) an (l,0)=k (dp l (Pd.bF m a l[i]).1,((i+1:Nat))):=by
       refine nK (F:=iz (i) k (Pd.bF m a l[i])) (λj=>(dp l ((Pd.bF m a l[i]).1.take j),(j))) (λ_=>True) (λx=>x=k (dp l (Pd.bF m a l[i]).1,((i+1:Nat)))) (Pd.bF m a l[i]).1.length (by omega) (λj A _ D=> .inr ⟨trivial,?_⟩) (λ_ D=>?_)
       .have e:=sD ((Pd.bF m a l[i]).1.take j) l;simp at e;unfold iz;dsimp only;rw [cx (by omega),ca,bH A,So.ah,wV _ _ (by omega) (λw o=>by
         rcases ny.1 o with o|o
         .have:=Ur h (f w o);omega
         .have:=Ur h (c w (qX o));omega),So.ah,Pa.bQ (by omega),So.ah]
        rw [show (Pd.bF m a l[i]).1.take (j+1)=(Pd.bF m a l[i]).1.take j++[(Pd.bF m a l[i]).1[j]] from nA A,Pd.Kn];rw [show dp (dp l ((Pd.bF m a l[i]).1.take j)) [(Pd.bF m a l[i]).1[j]]=iB (dp l ((Pd.bF m a l[i]).1.take j)) (Pd.bF m a l[i]).1[j] from rfl];by_cases hp:vr (Pd.bF m a l[i]).1[j] 0 (dp l ((Pd.bF m a l[i]).1.take j))<0
        .rw [cx hp,ca,DP.1 hp,Sy.aO (Sy.cD (by simp;omega) (by simp;omega))]
        .rw [cy hp,b7,DP.2 hp]
       .unfold iz;dsimp only;rw [cy (by omega),b7,qx,Pa.bQ (by omega)]
      rw [v];have b:∀x∈l,x∈dp l (Pd.bF m a l[i]).1:=λx hx=>ny.2 (.inl hx);have e:=sD (Pd.bF m a l[i]).1 l;refine n _ (by omega) ?_ (λx hx=>?_) (λx hx=>b x (z x hx)) (λx hx=>?_)
      .have:=(Rm (Pd.bF m a l[i]).1 l).length_le;omega
      .rcases ny.1 hx with hx|hx
       .exact f x hx
       .exact c x hx
      .have t:(dp l (Pd.bF m a l[i]).1).take (i+1)=l.take i++[l[i]]:=by obtain ⟨q,E⟩:=Rm (Pd.bF m a l[i]).1 l;rw [<-E,List.take_append_of_le_length (by omega),nA hi]
       rw [t] at hx;rcases List.mem_append.1 hx with hx|hx
       .exact ⟨(g x hx).1,λy s=>b y ((g x hx).2 y s)⟩
       .rw [List.mem_singleton.1 hx];exact ⟨r,λy s=>ny.2 (.inr s)⟩
     .rw [show ((Pd.bF m a l[i]).2 != 0)=true by simpa using r,ca];exact ⟨_,rfl,λp=>absurd p r⟩
    .rw [cy (by omega),b7,b7];rw [fa (by omega)] at g;exact ⟨_,rfl,λ_=>⟨by grind,f,z,λx hx=>(g x hx).1,λx hx=>(g x hx).2⟩⟩
 have hl:=ae8 h;exact key (most+1) 0 an (vq m a) (by omega) (by show most+1<2^64;omega) (by omega) (by omega) (Sm h) (λ_ h=>h) (λx hx=>by simp at hx)
def CN(S:List So.Fd)(cap:Int)(Us W G:List V)(t:St):Prop:=
 (∃(L:List V) (g:So.Gf),So.UH t S cap L g/\L.Nodup/\(∀x∈L,x∈Us)/\(∀x∈W,x∈L)/\∀x∈G,g true x=true)\/
 (∃(M K:Nat) (seed:Int) (p0 p1 p2:Nat->Bool),So.OkL t S M K seed p0 p1 p2/\(∀x∈W,So.afY S x seed K M p0=true)/\∀x∈G,(So.Xb S x seed K M).all p2=true)
structure Bz(S:List So.Fd)(Us:List V):Prop where
 right:So.mb S
 mem:∀x∈Us,So.In S x/\x.length<100000000
theorem RZ{p:Nat->Bool}{l:zl}(q:zl)(h:l.all p=true):l.all (So.xp p q)=true:=by simp_all [So.xp]
theorem Vr(p:Nat->Bool)(l:zl):l.all (So.xp p l)=true:=by simp_all [So.xp,List.contains_iff_mem]
theorem ai4{S:List So.Fd}{Us:List V}(hS:Bz S Us){cap:Int}{Bd:Er->Prop}(h:cap<(Us.length:Int)->Bd (.inl (7,[])))(W G:List V)(t:St)(x:V)(ht:CN S cap Us W G t)(hx:x∈Us):
  (∃e,Az t x=some (.error e)/\Bd (.inl e))\/(∃t',Az t x=some (.ok (false,t'))/\CN S cap Us (x::W) G t')\/(∃t',Az t x=some (.ok (true,t'))/\CN S cap Us (x::W) G t'/\x∉W):=by
 obtain ⟨f,hl⟩:=hS.mem x hx;have l:=So.pU.2 f;unfold Az;rcases ht with ⟨L,g,i,n,p,d,c⟩|⟨M,K,seed,p0,p1,p2,i,d,c⟩
 .obtain ⟨t',j,a,_⟩:=So.Zv hS.right i x hl;rw [j,So.ah];unfold So.Ru at a ⊢;rw [du l] at a ⊢;unfold So.wZ at a ⊢;by_cases hm:x∈L
  .rw [du hm] at a ⊢;exact .inr (.inl ⟨t',rfl,.inl ⟨L,g,a,n,p,λz b=>by
    grind,c⟩⟩)
  .rw [dk hm] at a ⊢;by_cases o:cap<=(L.length)
   .have:=Df.IP (List.nodup_cons.2 ⟨hm,n⟩) (m:=Us) (λz b=>by grind)
    grind
   .rw [dk o] at a ⊢;refine .inr (.inr ⟨t',rfl,.inl ⟨_,g,a,?_,λz b=>?_,λz b=>?_,c⟩,λk=>hm (d x k)⟩)
    .grind
    .grind
    grind
 .obtain ⟨t',j,a⟩:=So.apt (So.mb.fds hS.right) i x hl;rw [j,So.ah];rw [du l] at a ⊢;cases hm:So.afY S x seed K M p0 with
  |true=>
   refine .inr (.inl ⟨t',rfl,.inr ⟨M,K,seed,_,p1,p2,a,λz b=>?_,c⟩⟩);rcases List.mem_cons.1 b with rfl|b
   .exact Vr _ _
   .exact RZ _ (d z b)
  |false=>
   refine .inr (.inr ⟨t',rfl,.inr ⟨M,K,seed,_,p1,p2,a,λz b=>?_,c⟩,λk=>by grind⟩);rcases List.mem_cons.1 b with rfl|b
   .exact Vr _ _
   .exact RZ _ (d z b)
theorem aqY{S:List So.Fd}{Us:List V}(hS:Bz S Us){cap:Int}{Bd:Er->Prop}(f:cap<(Us.length:Int)->Bd (.inl (7,[])))(W G:List V)(t:St)(x:V)(ht:CN S cap Us W G t)(hx:x∈Us):
  (∃e,GI t x=some (.error e)/\Bd (.inl e))\/(∃t',GI t x=some (.ok (false,t'))/\CN S cap Us W G t')\/(∃t',GI t x=some (.ok (true,t'))/\CN S cap Us W (x::G) t'/\x∉G):=by
 obtain ⟨l,hl⟩:=hS.mem x hx;have s:=So.pU.2 l;have key:∀{t':St} {b:Bool},Az t x=some (.ok (b,t'))->CN S cap Us (x::W) G t'->(∃t'',GI t x=some (.ok (false,t''))/\CN S cap Us W G t'')\/(∃t'',GI t x=some (.ok (true,t''))/\CN S cap Us W (x::G) t''/\x∉G):=λ{t' b} r q=>by
  unfold GI;rw [r];show ((∃t'',(dw t' x 1).bind _=_/\_))\/(∃t'',(dw t' x 1).bind _=_/\_);rcases q with ⟨L,g,d,h,p,i,k⟩|⟨M,K,seed,p0,p1,p2,d,i,k⟩
  .have a:So.GZ S L x 1=0:=by unfold So.GZ So.gK;rw [du s,dk (by omega),du (i x (c8 ..))]
   rw [So.Zp hS.right d x hl 1,So.ah];obtain ⟨t2,n,j,_⟩:=So.abe hS.right d x hl 1;unfold So.afP;unfold So.am2 at j;rw [du a] at j ⊢;cases m:g ((1:Int)==1) x with
   |true=>exact .inl ⟨t',rfl,.inl ⟨L,g,d,h,p,λz c=>i z (cb _ c),k⟩⟩
   |false=>
    rw [b7,n,So.ah];refine .inr ⟨t2,rfl,.inl ⟨L,_,j,h,p,λz c=>i z (cb _ c),λz c=>?_⟩,λo=>by have:=k x o;rw [show ((1:Int)==1)=true from rfl,this] at m;cases m⟩;unfold So.mJ;rcases List.mem_cons.1 c with rfl|c
    .simp
    .rw [k z c,vy]
  .have a:So.Dq S x seed K M p0 1=0:=by simp_all [So.Dq,So.Bf,So.afY,So.Xb]
   rw [So.apj (So.mb.fds hS.right) d x hl 1,So.ah];obtain ⟨t2,n,j⟩:=So.apl (So.mb.fds hS.right) d x hl 1;rw [du a,du rfl];rw [dk (by omega),du ⟨a,rfl⟩] at j;cases m:(So.Xb S x seed K M).all p2 with
   |true=>exact .inl ⟨t',rfl,.inr ⟨M,K,seed,p0,p1,p2,d,λz c=>i z (cb _ c),k⟩⟩
   |false=>
    rw [b7,n,So.ah];refine .inr ⟨t2,rfl,.inr ⟨M,K,seed,p0,p1,_,j,λz c=>i z (cb _ c),λz c=>?_⟩,λo=>by grind⟩;rcases List.mem_cons.1 c with rfl|c
    .exact Vr _ _
    grind [RZ]
 rcases ai4 hS f W G t x ht hx with ⟨e,d,h⟩|⟨t',d,h⟩|⟨t',d,h,_⟩
 .refine .inl ⟨e,?_,h⟩;unfold GI;rw [d];rfl
 .exact .inr (key d h)
 grind
end Ns
namespace Ns
open Sp
variable {m : bp} {a : Au} {Us : List V} {Bd : Er -> Prop} {cap most : Int}
structure Ends(m:bp)(a:Au)(Us:List V)(cap most:Int)(Bd:Er->Prop):Prop where
 st:∀x∈Us,Pd.St m a.1.length x
 next:∀x∈Us,(Pd.bF m a x).2=0->∀y∈(Pd.bF m a x).1,y∈Us
 full:cap<(Us.length:Int)->Bd (.inl (7,[]))
 stack:most<(Us.length:Int)->Bd (.inl (8,[]))
 code:∀x∈Us,(Pd.bF m a x).2≠0->Bd (.inl ((Pd.bF m a x).2,x.dropLast))
 found:∀p:List V×List V,(∀x∈p.1,x∈Us)->(∀x∈p.2,x∈Us)->p.2≠[]->p.1.length<=Us.length->p.2.length<=Us.length->Bd (.inr p)
theorem DX(h:kr m a)(b:Ends m a Us cap most Bd):ah5 Us 2000000 Bd (sG m a most):=λn y d hn=>by
 unfold sG;by_cases e:most<=(n)
 .rw [du e];exact .inl ⟨_,rfl,b.stack (by omega)⟩
 .rw [dk e];by_cases c:(Pd.bF m a y).2=0
  .rw [du c];exact .inr ⟨_,rfl,b.next y d c,Pd.Hg h.hm.toSafeS h.ha (b.st y d)⟩
  .rw [dk c];exact .inl ⟨_,rfl,b.code y d c⟩
theorem ZV{x:V}(hx:x∈Us){l:List V}(hl:∀z∈l,z∈Us):Dl Us [(x,l)]:=
 ⟨λf a=>by grind,λf a=>by grind,by simp⟩
theorem aeB{K:List V}{x:V}{l:List V}(a:Us.length<=1000000)(hl:l.length<=2000000):mu Us K*(2000000+2)+wt [(x,l)]<an:=by have b:=arH (Us:=Us) (K:=K);show _<2^64;simp [wt,e9,List.map_nil,List.sum_cons,List.sum_nil];omega
theorem akd(h:kr m a){S:List So.Fd}(hS:Bz S Us)(j:Ends m a Us cap most Bd)(D:Us.length<=1000000){W:List V}{t:St}(ht:CN S cap Us W [] t){s:ka}(k:Dl Us s)(n:s≠[]):
  O6 (λK t=>CN S cap Us K [] t) Bd W (S2 m a most an t s):=by
 match s,n with
 |(x,l)::r,_=>
  have hx:=k.st _ (c8 ..);unfold S2;dsimp only;cases meet a x with
  |false=>exact .inr ⟨W,t,rfl,ht,λ_ h=>h⟩
  |true=>
   unfold allI;rcases DX h j 0 x hx (List.length_pos_of_mem hx) with ⟨e,q,p⟩|⟨l',q,p,E⟩
   .simp [q];exact .inl ⟨_,rfl,p⟩
   .simp only [q];have C:=NI (nw:=GI) (se:=seI x ((x,l)::r).reverse) (bot:=some x)
     (λK t y hi A=>by
      rcases aqY hS j.full W K t y hi A with ⟨e,d,c⟩|⟨t',d,c⟩|⟨t',d,c,H⟩
      .grind
      .grind
      grind)
     (λy w e A B hn i=>by
      unfold seI at i;split at i
      .cases i;refine j.found _ (λz b=>?_) (λz b=>?_) (by simpa using hn) (by have:=k.da;simp at this ⊢; omega) (by have:=B.da;simpa using this)
       .obtain ⟨f,o,rfl⟩:=List.mem_map.1 b;exact k.st f (List.mem_reverse.1 ((List.dropLast_sublist _).subset o))
       .obtain ⟨f,o,rfl⟩:=List.mem_map.1 b;exact B.st f (List.mem_reverse.1 o)
      .cases i)
     (λy w i I=>by grind [seI,Option.some.inj])
     (λK t w hi _ _=> .inr ⟨K,t,rfl,hi,λ_ h=>h⟩)
     (DX h j) an t [(x,l')] [] ht (ZV hx p) (λz b=>by grind) (aeB D E)
    rcases C with ⟨e,d,c⟩|⟨J,t',d,c,_⟩
    .exact .inl ⟨e,d,c⟩
    .refine .inr ⟨W,t',d,c.imp (λ⟨L,g,v,G,F,u,_⟩=>⟨L,g,v,G,F,u,λz b=>by cases b⟩) (λ⟨M,K,s,p0,p1,p2,v,u,_⟩=>⟨M,K,s,p0,p1,p2,v,u,λz b=>by cases b⟩),λ_ h=>h⟩
theorem UA{S:List So.Fd}(hS:Bz S Us)(f:Ends m a Us cap most Bd):aoB Us (λK t=>CN S cap Us K [] t) Bd Az:=λK t y hi d=>by
 rcases ai4 hS f.full K [] t y hi d with ⟨e,c,b⟩|⟨t',c,b⟩|⟨t',c,b,g⟩
 .grind
 .grind
 grind
theorem aaB(h:kr m a){S:List So.Fd}(hS:Bz S Us)(b:Ends m a Us cap most Bd)(l:Us.length<=1000000):∀(L:List V),(∀x∈L,x∈Us)->∀(W:List V) (t:St),CN S cap Us W [] t->O6 (λK t=>CN S cap Us K [] t) Bd W (ol m a most L t)
 |[],_,W,t,ht=> .inr ⟨W,t,rfl,ht,λ_ h=>h⟩
 |x::r,hL,W,t,ht=>by
  have hx:=hL x (c8 ..);have ih:=λG t' k=>aaB h hS b l r (λy w=>hL y (cb _ w)) G t' k;unfold ol;rcases UA hS b W t x ht hx with ⟨e,d,c⟩|⟨g,t',d,c,j⟩|⟨g,t',d,c,j,J,I⟩
  .rw [d];exact .inl ⟨_,rfl,c⟩
  .rw [d];rcases ih g t' c with ⟨e,r1,r2⟩|⟨u,t2,r1,r2,i⟩
   .exact .inl ⟨e,r1,r2⟩
   .exact .inr ⟨u,t2,r1,r2,λz f=>i z (j z f)⟩
  .rw [d];rcases DX h b 0 x hx (List.length_pos_of_mem hx) with ⟨e,o,n⟩|⟨l',o,n,E⟩
   .simp [o];exact .inl ⟨_,rfl,n⟩
   .simp [o];have A:O6 (λK t=>CN S cap Us K [] t) Bd g (PU m a most an t' [(x,l')]):=NI (bot:=none)
     (UA hS b) (λ_ _ _ _ _ _ C=>by cases C) (λ_ _ _ D=>by cases D) (λK t s hi B hn=>akd h hS b l hi B hn) (DX h b) an t' [(x,l')] g c (ZV hx n) (λz f=>by grind) (aeB l E)
    rcases A with ⟨e,q,p⟩|⟨u,t2,q,p,F⟩
    .rw [q];exact .inl ⟨e,rfl,p⟩
    .rw [q];rcases ih u t2 p with ⟨e,r1,r2⟩|⟨H,v,r1,r2,i⟩
     .exact .inl ⟨e,r1,r2⟩
     .exact .inr ⟨H,v,r1,r2,λz f=>i z (F z (j z f))⟩
end Ns
namespace Ns
open Sp
theorem apC:s8=some true:=by kernel_rfl
theorem apm{m:bp}{a:Au}(f:Sy.Wf m)(hb:Qp a)(d:(∀q∈a.2.2.1,0<=q/\q<(a.1.length:Int))/\a.2.1.length=a.1.length/\(∀l∈a.2.1,∀q∈l,0<=q/\q<(a.1.length:Int))/\(∀l∈a.1,∀e∈l,(rt e).1=2))
  (j:dL a.2.1<4000/\dL a.2.2.2<4000/\a.2.2.1.length<4000/\dL a.1<4000/\(∀l∈a.1,∀e∈l,cE e=some true)/\a.1.length<=40)
  (i:∀l∈a.1,∀e∈l,fw (m.1.length:Int) e=true) (h:a.2.2.2.length=1):kr m a:=by
 have c:∀l∈a.1,∀e∈l,e.sz<1000000:=λl hl e b=>by have:=(ajp (by have:=(hb.l1 l hl).2 e b;omega) (j.2.2.2.2.1 l hl e b)).2;omega
 refine ⟨aoG f,aqD f,⟨rfl,d.2.1,by omega,λl hl=>⟨by have:=K8 hl;omega,c l hl⟩,⟨by omega,d.1⟩,λl hl=>⟨by have:=K8 hl;omega,d.2.2.1 l hl⟩⟩,λl hl e b=>⟨i l hl e b,d.2.2.2 l hl e b,c l hl e b⟩,⟨?_⟩⟩;cases g:a.2.2.2 with
 |nil=>rw [g] at h;cases h
 |cons A r=>exact ⟨A,r,rfl,by have:=K8 (l:=a.2.2.2) (x:=A) (by rw [g];simp);omega⟩
theorem ace{m:bp}{a:Au}(hb:Qp a):A0 (Sy.Wf m->kr m a) (mw m a):=by
 unfold mw;obtain ⟨i,h,f⟩:=are hb;rw [h,So.ah];cases i with
 |false=>exact uE
 |true=>
  obtain ⟨k,g,e⟩:=alx hb;obtain ⟨j,e3,d⟩:=alb hb (m.1.length:Int);rw [g,So.ah,e3,So.ah];refine ⟨_,rfl,λb c=>?_⟩;simp only [au,n4] at b;exact apm c hb (e b.1.1) (f rfl) (d b.1.2) (by have:=b.2;omega)
theorem akD(text:aE){a:Au}(hb:Qp a):∃q,gJ text a=some q/\(q.2=true->kr q.1 a/\a.1.length<=12):=by
 unfold gJ;obtain ⟨q,h,g⟩:=abn text;rw [h,So.ah];cases e:q.2 with
 |false=>exact ⟨(q.1,false),rfl,λc=>by cases c⟩
 |true=>
  have b:=g e;obtain ⟨n,k,i⟩:=ace (m:=q.1) hb;rw [og,k,So.ah];simp only [So.aK,fc];cases n with
  |false=>exact ⟨(q.1,false),rfl,λc=>by cases c⟩
  |true=>
   by_cases hl:a.1.length<=12
   .rw [cx (show (a.1.length:Int)<=12 by omega)];obtain ⟨l,j⟩:=alA (m:=q.1) (by have:=b.names;have:=b.schema;omega) (λf d=>by have:=b.fields f d;have:=this.le;have:=b.fields f d;have:=this.lo;have:=b.fields f d;have:=this.hi;have:=b.fields f d;have:=this.wide;omega);show ∃q',bn true _ _ _=_/\_;rw [og,j,So.ah];exact ⟨(q.1,l),rfl,λ_=>⟨i rfl b,hl⟩⟩
   .rw [cy (show ¬(a.1.length:Int)<=12 by omega)];exact ⟨(q.1,false),rfl,λc=>by cases c⟩
abbrev Ht(m:bp)(a:Au):List So.Fd:=m.2.1++[(0,max 0 ((a.1.length:Int)-1))]
theorem Dd{m:bp}{a:Au}(h:kr m a):So.mb (Ht m a):=by
 have hk:=h.ha.da;have e:=h.hm.pos;have d:=h.hm.da;refine ⟨by simp [Ht],by simp [Ht];omega,λf b=>?_⟩;rcases List.mem_append.1 b with b|b
 .have c:=h.hm.field f b;exact ⟨c.lo,c.hi,c.le,c.wide⟩
 .rw [List.mem_singleton.1 b];dsimp only;omega
theorem aeY{m:bp}{a:Au}(h:kr m a):So.FI (Ht m a):=λf b=>by have:=(Dd h).each f b;exact ⟨⟨by omega,by omega⟩,⟨by omega,by omega⟩⟩
theorem Xd{m:bp}{a:Au}(h:kr m a):vZ m a=some (Ht m a,0):=by
 have hk:=h.ha.da;have d:=h.hm.da;unfold vZ;rw [bq (by omega)];have c:So.FI [((0:Int),max 0 ((a.1.length:Int)-1))]:=λf b=>by rw [List.mem_singleton.1 b];exact ⟨⟨by dsimp only;omega,by dsimp only;omega⟩,⟨by dsimp only;omega,by dsimp only;omega⟩⟩
 rw [So.abX c,So.ah,So.XG.2 ⟨by simp,by simp,λf b=>by rw [List.mem_singleton.1 b];dsimp only;omega⟩];show (cQ m.2.1).bind _=_;rw [So.M6 (by omega),So.ah,Sy.aO (Sy.cD (by simp;omega) (by simp;omega))]
theorem abl:∀{S:xb} {v:zk},fits S v=true->∀(i:Nat) (h:i<S.length) (a:i<v.length),S[i].1<=v[i]/\v[i]<=S[i].2
 |s::S,n::w,h,0,_,_=>by
  simp only [fits,au,eT] at h;exact h.1
 |s::S,n::w,h,i+1,h1,h2=>by simp only [fits,au,eT] at h;exact abl h.2 i (by simpa using h1) (by simpa using h2)
theorem atb{m:bp}{a:Au}(h:kr m a){x:V}(hx:Pd.St m a.1.length x):So.In (Ht m a) x/\x.length<100000000:=by
 refine ⟨?_,by have:=Ur h hx;omega⟩;obtain ⟨v,q,rfl,b,f⟩:=hx;have hl:=b.len;refine ⟨by simp [Ht,hl],λi hi=>?_⟩;have d:i<m.2.1.length+1:=by simpa [Ht] using hi
 by_cases c:i<m.2.1.length
 .have:=abl b.fit i c (by omega);rw [List.getElem_append_left c,List.getElem_append_left (by omega)];exact this
 .have e:i=m.2.1.length:=by omega
  subst e;rw [List.getElem_append_right (by omega),List.getElem_append_right (by omega)];simp only [hl,Nat.sub_self,List.getElem_cons_zero];omega
theorem asH{m:bp}{a:Au}(h:kr m a){Us:List V}(b:∀x∈Us,Pd.St m a.1.length x):Bz (Ht m a) Us:=⟨Dd h,λx hx=>atb h (b x hx)⟩
end Ns
namespace Ns
open Sp
theorem runM{σ τ ρ:Type}{F:(σ->Option ρ)->σ->Option ρ}{K:τ->Option ρ}(Inv:σ->Prop)(μ:σ->Nat)(bg:τ->Prop)
  (c:∀s,Inv s->∀k,(∃o,F k s=K o/\bg o)\/(∃a,F k s=k a/\Inv a/\μ a<μ s)):∀(n:Nat) (s:σ),Inv s->μ s<n->∃o,aj F n s=K o/\bg o
 |0,_,_,h=>by omega
 |n+1,s,hi,h=>by
  rw [ar];rcases c s hi (aj F n) with b|⟨a,b,d,e⟩
  .exact b
  .rw [b];exact runM Inv μ bg c n a d (by omega)
def dU(l:zj):Nat:=l.countP id
theorem aiK(l:zj):dU l<=l.length:=List.countP_le_length
theorem afo{l:zj}{i:Nat}(h:i<l.length)(b:Bool)(hb:l[i]= !b):if b then dU (l.set i b)=dU l+1 else dU (l.set i b)+1=dU l:=by
 induction l generalizing i with
 |nil=>simp at h
 |cons x l ih=>
  cases i with
  |zero=>
   simp only [List.getElem_cons_zero] at hb;subst hb;cases b <;> simp [dU]
  |succ i=>
   have:=ih (i:=i) (by simpa using h) (by simpa using hb);cases b <;> simp only [dU,List.set_cons_succ,List.countP_cons] at this ⊢ <;> simp only [eF,qn,qT] at this ⊢ <;> omega
theorem wE{l:List α}{i:Int}(b:0<=i)(a:i<(l.length:Int)):idx l i=some (l[i.toNat]'(by omega)):=by obtain ⟨n,rfl⟩:∃n:Nat,i=n:=⟨i.toNat,by omega⟩;rw [bH (by omega)];simp
structure Gr(next:w5)(n:Nat):Prop where
 len:next.length=n
 da:n<=1000
 row:∀r∈next,r.length<=2000000/\∀j∈r,0<=j/\j<(n:Int)
variable {next : w5} {n : Nat} {sets : List zj}
theorem as3(g:Gr next n){f:zj}(hl:f.length=n){h:Int}(hk:0<=h/\h<(sets.length:Int))(q:∀s∈sets,s.length=n){a:Int}(hi:0<=a/\a<(n:Int))(c0:Nat){ag:(zj×Bool×Int)->Option zj}(l:zj)(b:Bool)(D:l.length=n)(C:c0<=dU l)(B:b=true->c0<dU l):
  ∃o:zj×Bool,aj (rz next sets f h a ag) an (l,b,0)=ag (o.1,o.2,a+1)/\(o.1.length=n/\c0<=dU o.1/\(o.2=true->c0<dU o.1)):=by
 have z:=g.len;have A:=g.da;have m:=g.row _ (c9 (l:=next) (n:=a.toNat) (by omega));refine runM (K:=λo:zj×Bool=>ag (o.1,o.2,a+1)) (λs=>s.1.length=n/\c0<=dU s.1/\(s.2.1=true->c0<dU s.1)/\0<=s.2.2/\s.2.2<=2000000) (λs=>(2000001-s.2.2).toNat) _ (λs ⟨p,t,r,w,E⟩ k=>?_) an (l,b,0) ⟨D,C,B,by simp⟩ (by show _<2^64;simp);obtain ⟨c,d,j⟩:=s;dsimp only at p t r w E ⊢;have u:IntKind.i64.wrap (a+1)=a+1:=bq (by omega);unfold rz;dsimp only;simp only [wE hi.1 (show a<(next.length:Int) by omega),So.ah,So.aK];by_cases v:j<(next[a.toNat].length:Int)
 .have y:IntKind.i64.wrap (j+1)=j+1:=bq (by omega);have hx:=m.2 _ (c9 (l:=next[a.toNat]) (n:=j.toNat) (by omega));rw [cx v,og,wE hi.1 (show a<(f.length:Int) by omega),So.ah,fc];cases F:f[a.toNat] with
  |false=>
   simp only [DY,lk,b7,u];exact .inl ⟨(c,d),rfl,p,t,r⟩
  |true=>
   rw [og,wE hi.1 (show a<(c.length:Int) by omega),So.ah,fc];cases ht:c[a.toNat] with
   |true=>
    simp only [pd,b7,u];exact .inl ⟨(c,d),rfl,p,t,r⟩
   |false=>
    simp only [iN,ca];rw [wE w v,So.ah,wE hx.1 (by omega),So.ah];have step:(∃s',k (c,d,IntKind.i64.wrap (j+1))=k s'/\(s'.1.length=n/\c0<=dU s'.1/\(s'.2.1=true->c0<dU s'.1)/\0<=s'.2.2/\s'.2.2<=2000000)/\(2000001-s'.2.2).toNat<(2000001-j).toNat):=
     ⟨_,rfl,⟨p,t,r,by dsimp only;omega,by dsimp only;have:=m.1;omega⟩,by dsimp only;omega⟩
    have e:(∃s',k (List.set c (Int.toNat a) true,true,IntKind.i64.wrap (j+1))=k s'/\(s'.1.length=n/\c0<=dU s'.1/\(s'.2.1=true->c0<dU s'.1)/\0<=s'.2.2/\s'.2.2<=2000000)/\(2000001-s'.2.2).toNat<(2000001-j).toNat):=by have:=afo (l:=c) (i:=a.toNat) (by omega) true ht;simp only [qT] at this;exact ⟨_,rfl,⟨by simpa using p,by dsimp only;omega,λ_=>by dsimp only;omega,by dsimp only;omega,by dsimp only;have:=m.1;omega⟩,by dsimp only;omega⟩
    have G:=q _ (c9 (l:=sets) (n:=h.toNat) (by omega));cases x:f[(next[a.toNat][j.toNat]).toNat] with
    |false=>
     simp only [DY,lk,b7];exact .inr step
    |true=>
     rw [og,wE hk.1 hk.2,So.ah,og,wE hx.1 (by omega),So.ah,fc];cases H:sets[h.toNat][(next[a.toNat][j.toNat]).toNat] with
     |true=>
      simp only [pd,DY,vy,fc,ca];exact .inr e
     |false=>
      rw [iN,og,wE hx.1 (by omega),So.ah];cases c[(next[a.toNat][j.toNat]).toNat] with
      |true=>
       simp only [Bool.or_true,fc,ca];exact .inr e
      |false=>
       simp only [Bool.or_false,fc,b7];exact .inr step
 .rw [cy v];simp only [DY,lk,b7,u];exact .inl ⟨(c,d),rfl,p,t,r⟩
theorem asT(g:Gr next n){c:zj}(hl:c.length=n){a:Int}(hk:0<=a/\a<(sets.length:Int))(d:∀s∈sets,s.length=n){ag:(zj×Bool)->Option zj}(l:zj)(t:l.length=n):
  ∃o:zj×Bool,aj (pZ next sets c a ag) an (l,false,0)=ag o/\(o.1.length=n/\dU l<=dU o.1/\(o.2=true->dU l<dU o.1)):=by
 have q:=g.len;have r:=g.da;refine runM (λs=>s.1.length=n/\dU l<=dU s.1/\(s.2.1=true->dU l<dU s.1)/\0<=s.2.2/\s.2.2<=(n:Int)) (λs=>((n:Int)-s.2.2).toNat) _ (λs ⟨m,j,h,p,x⟩ k=>?_) an (l,false,0) ⟨t,cK _,nofun,by simp,by simp⟩ (by show _<2^64;dsimp only;omega);obtain ⟨f,b,i⟩:=s;dsimp only at m j h p x ⊢;unfold pZ;dsimp only;by_cases hi:i<(n:Int)
 .rw [cx (show i<(next.length:Int) by omega),ca];obtain ⟨o,e,w,v,u⟩:=as3 g hl hk d ⟨p,hi⟩ (dU l) (ag:=k) f b m j h;exact .inr ⟨_,e,⟨w,v,u,by dsimp only;omega,by dsimp only;omega⟩,by dsimp only;omega⟩
 .rw [cy (show ¬i<(next.length:Int) by omega),b7];exact .inl ⟨_,rfl,m,j,h⟩
theorem asJ{d e:zj}(hn:n<=1000)(u:e.length=n){a:Int}(hk:0<=a/\a<1000){ag:(zj×Bool×Int)->Option zj}(b:Bool)(c0:Nat)(w:d.length=n)(v:dU d<=c0)(r:b=true->dU d<c0):
  ∃o:zj×Bool,aj (pY a ag e) an (d,b,0)=ag (o.1,o.2,a+1)/\(o.1.length=n/\dU o.1<=c0/\(o.2=true->dU o.1<c0)):=by
 have q:IntKind.i64.wrap (a+1)=a+1:=bq (by omega);refine runM (K:=λo:zj×Bool=>ag (o.1,o.2,a+1)) (λs=>s.1.length=n/\dU s.1<=c0/\(s.2.1=true->dU s.1<c0)/\0<=s.2.2/\s.2.2<=(n:Int)) (λs=>((n:Int)-s.2.2).toNat) _ (λs ⟨f,h,g,m,x⟩ k=>?_) an (d,b,0) ⟨w,v,r,by simp,by simp⟩ (by show _<2^64;dsimp only;omega);obtain ⟨c,t,i⟩:=s;dsimp only at f h g m x ⊢;unfold pY;dsimp only;by_cases hi:i<(n:Int)
 .have j:IntKind.i64.wrap (i+1)=i+1:=bq (by omega);rw [cx (show i<(c.length:Int) by omega),ca,wE m (by omega),So.ah,j];cases p:c[i.toNat] with
  |false=>
   simp only [DY,So.aK,lk,b7];exact .inr ⟨_,rfl,⟨f,h,g,by dsimp only;omega,by dsimp only;omega⟩,by dsimp only;omega⟩
  |true=>
   rw [og,wE m (by omega),So.ah];cases e[i.toNat] with
   |true=>
    simp only [So.aK,pd,qK,b7];exact .inr ⟨_,rfl,⟨f,h,g,by dsimp only;omega,by dsimp only;omega⟩,by dsimp only;omega⟩
   |false=>
    have:=afo (l:=c) (i:=i.toNat) (by omega) false p;simp only [eF,qn] at this;simp only [So.aK,iN,Bool.and_true,ca,So.ah];exact .inr ⟨_,rfl,⟨by simpa using f,by dsimp only;omega,λ_=>by dsimp only;omega,by dsimp only;omega,by dsimp only;omega⟩,by dsimp only;omega⟩
 .rw [cy (show ¬i<(c.length:Int) by omega),b7,q];exact .inl ⟨(c,t),rfl,f,h,g⟩
theorem as5(g:Gr next n){c:zj}(hl:c.length=n){b:Int}(hk:0<=b/\b<(sets.length:Int))(p:sets.length<=1000)(f:∀s∈sets,s.length=n){ag:(zj×Bool×Int)->Option zj}(a:Bool)(c0:Nat)(r:dU c<=c0)(q:a=true->dU c<c0)(l:zj)(t:l.length=n):
  ∃o:zj×Bool,aj (rb next sets c a b ag) an (l,true)=ag (o.1,o.2,b+1)/\(o.1.length=n/\dU o.1<=c0/\(o.2=true->dU o.1<c0)):=by
 have i:=g.da;refine runM (K:=λo:zj×Bool=>ag (o.1,o.2,b+1)) (λs=>s.1.length=n) (λs=>2*(n-dU s.1)+s.2.toNat) _ (λs j k=>?_) an (l,true) t (by show _<2^64;simp;omega);obtain ⟨h,d⟩:=s;dsimp only at j ⊢;unfold rb;dsimp only;cases d with
 |true=>
  rw [ca];obtain ⟨o,e,v,w,u⟩:=asT g hl hk f (ag:=k) h j;have:=aiK o.1;refine .inr ⟨o,e,v,?_⟩;cases m:o.2 with
  |true=>have:=u m;simp only [Bool.toNat_true];omega
  |false=>simp only [Bool.toNat_true,Bool.toNat_false];omega
 |false=>
  rw [b7];exact .inl (asJ i j (by omega) a c0 hl r q)
theorem asM(g:Gr next n)(c:sets.length<=1000)(b:∀s∈sets,s.length=n){ag:(zj×Bool)->Option zj}(l:zj)(r:l.length=n):
  ∃o:zj×Bool,aj (ry next sets ag) an (l,false,0)=ag o/\(o.1.length=n/\dU o.1<=dU l/\(o.2=true->dU o.1<dU l)):=by
 have p:=g.len;have q:=g.da;refine runM (λs=>s.1.length=n/\dU s.1<=dU l/\(s.2.1=true->dU s.1<dU l)/\0<=s.2.2/\s.2.2<=(sets.length:Int)) (λs=>((sets.length:Int)-s.2.2).toNat) _ (λs ⟨h,f,d,j,w⟩ k=>?_) an (l,false,0) ⟨r,cK _,nofun,by simp,by simp⟩ (by show _<2^64;dsimp only;omega);obtain ⟨m,a,i⟩:=s;dsimp only at h f d j w ⊢;unfold ry;dsimp only;by_cases hi:i<(sets.length:Int)
 .rw [cx hi,ca,Sy.aO (cx (by omega)),Sy.aO (Sy.cD (by omega) (by omega))];obtain ⟨o,e,v,u,t⟩:=as5 g h ⟨j,hi⟩ c b (ag:=k) a (dU l) f d (List.replicate (Int.toNat (next.length:Int)) false) (by simp;omega);exact .inr ⟨_,e,⟨v,u,t,by dsimp only;omega,by dsimp only;omega⟩,by dsimp only;omega⟩
 .rw [cy hi,b7];exact .inl ⟨_,rfl,h,f,d⟩
theorem ao7(g:Gr next n)(d:sets.length<=1000)(b:∀s∈sets,s.length=n){on:zj}(c:on.length=n):∃z,oK next on sets=some z/\z.length=n:=by
 have i:=g.da;unfold oK;rw [Sy.aO (Sy.cD (by simp only [qe];omega) (by simp only [qe];omega))];refine runM (K:=some) (λs=>s.1.length=n) (λs=>2*dU s.1+s.2.toNat) _ (λs f k=>?_) an ([]++on,true) (by simpa using c) (by have:=aiK ([]++on);show _<2^64;simp at this ⊢; omega);obtain ⟨l,a⟩:=s;dsimp only at f ⊢;unfold xq;dsimp only;cases a with
 |true=>
  rw [ca];obtain ⟨o,e,m,p,j⟩:=asM g d b (ag:=k) l f;refine .inr ⟨o,e,m,?_⟩;cases h:o.2 with
  |true=>have:=j h;simp only [Bool.toNat_true];omega
  |false=>simp only [Bool.toNat_true,Bool.toNat_false];omega
 |false=>
  rw [b7];exact .inl ⟨_,rfl,f⟩
end Ns
namespace Ns
open Sp
variable {m : bp} {a : Au}
theorem aiv{v:V}:∀{l:List V} {k:Nat},vr v k l<(k+l.length:Nat)+0
 |[],k=>by simp [vr];omega
 |x::r,k=>by
  unfold vr;split
  .simp;omega
  .have:=aiv (v:=v) (l:=r) (k:=k+1);simp at this ⊢; omega
theorem aoI(h:kr m a){x:V}(hx:Pd.St m a.1.length x):∃b,kb a x=some b:=by
 obtain ⟨A,r,c,hl⟩:=h.da.acc;obtain ⟨v,q,rfl,f,_⟩:=hx;have d:=Nn h f;unfold kb;refine nK (F:=kK a (v++[q])) (λi=>(i:Int)) (λ_=>True) (λx=>∃b,x=some b) A.length (by omega) (λi hi _ k=>?_) (λ_ k=>?_)
 .unfold kK;rw [c,show idx (A::r) 0=some A from rfl,So.ah,cx (by omega),ca,So.ah,bH hi,So.ah];have e:IntKind.i64.wrap (((v++[q]).length:Int)-1)=(v.length:Int):=by rw [bq (by simp;omega)];simp
  rw [e,Sy.ll (pre:=v) (r:=[]) rfl,So.ah];cases A[i]==q with
  |true=>exact .inl ⟨_,rfl⟩
  |false=>exact .inr ⟨trivial,by rw [b7,Pa.bQ (by omega)]⟩
 .unfold kK;rw [c,show idx (A::r) 0=some A from rfl,So.ah,cy (by omega),b7];exact ⟨_,rfl⟩
def sM(m:bp)(a:Au)(l:List V):w5:=l.map λx=>(Pd.bF m a x).1.map λy=>vr y 0 l
theorem ajU(h:kr m a){l:List V}(hl:l.length<=1000)(b:amk m a l):Gr (sM m a l) l.length:=by refine ⟨by simp [sM],hl,λr d=>?_⟩;obtain ⟨x,hx,rfl⟩:=List.mem_map.1 d;refine ⟨by simpa using Pd.Hg h.hm.toSafeS h.ha (b.st x hx),λj e=>?_⟩;obtain ⟨y,c,rfl⟩:=List.mem_map.1 e;have g:¬vr y 0 l<0:=λhn=>OF.1 hn (b.next x hx y c);have f:=aiv (v:=y) (l:=l) (k:=0);simp at f;omega
theorem aqn(h:kr m a){most:Nat}(d:most<=1000):∃l z c,nL m a (most:Int)=some (l,z,c)/\(c=0->l.length<=most/\amk m a l/\Gr z l.length):=by
 unfold nL;obtain ⟨⟨l,c⟩,A,q⟩:=apW h d;rw [A,So.ah];dsimp only at q ⊢;by_cases g:c=0
 .subst g;obtain ⟨f,b⟩:=q rfl;rw [show ((0:Int) != 0)=false from rfl,b7];have n:∀u∈l,u.length<100000000:=λu t=>by have:=Ur h (b.st u t);omega
  have key:aj (iw m a (l,0)) an ([],0)=some (l,sM m a l,0):=by
   refine nK (F:=iw m a (l,0)) (λi=>((sM m a l).take i,(i:Int))) (λ_=>True) (λx=>x=some (l,sM m a l,0)) l.length (by omega) (λi hi _ k=> .inr ⟨trivial,?_⟩) (λ_ k=>?_)
   .unfold iw;dsimp only;have hx:=b.st _ (c9 hi);have p:=Pd.Hg h.hm.toSafeS h.ha hx;have e:(sM m a l)[i]'(by simp [sM];exact hi)=(Pd.bF m a l[i]).1.map λy=>vr y 0 l:=by simp [sM]
    rw [cx (by omega),ca,bH hi,So.ah,ajg h hx,So.ah];refine nK (F:=kO (l,0) ((sM m a l).take i) (i:Int) k (Pd.bF m a l[i])) (λj=>(((Pd.bF m a l[i]).1.map λy=>vr y 0 l).take j,(j:Int))) (λ_=>True) (λx=>x=k ((sM m a l).take (i+1),((i+1:Nat):Int))) (Pd.bF m a l[i]).1.length (by omega) (λj o _ r=> .inr ⟨trivial,?_⟩) (λ_ r=>?_)
    .unfold kO;dsimp only;rw [cx (by omega),ca,bH o,So.ah,wV _ _ (by omega) (λw s=>by have:=n w s;omega),So.ah,Sy.aO (Sy.cD (by simp;omega) (by simp;omega)),Pa.bQ (by omega)];rw [nA (l:=(Pd.bF m a l[i]).1.map λy=>vr y 0 l) (by simpa using o),List.getElem_map]
    .unfold kO;dsimp only;rw [cy (by omega),b7,fa (l:=(Pd.bF m a l[i]).1.map λy=>vr y 0 l) (by simp),Sy.aO (Sy.cD (by simp;omega) (by simp;omega)),Pa.bQ (by omega),<-e,<-nA]
   .unfold iw;dsimp only;rw [cy (by omega),b7,fa (by simp [sM])]
  exact ⟨l,sM m a l,0,key,λ_=>⟨f,b,ajU h (by omega) b⟩⟩
 .rw [show (c != 0)=true by simpa using g,ca];exact ⟨_,_,_,rfl,λv=>absurd v g⟩
theorem alH(h:kr m a):∃r,mC m a 80=some r:=by
 unfold mC;obtain ⟨l,z,c,G,E⟩:=aqn h (most:=80) (by omega);rw [show (80:Int)=((80:Nat):Int) from rfl,G,So.ah];by_cases p:c=0
 .subst p;obtain ⟨q,d,C⟩:=E rfl;dsimp only;rw [show ((0:Int) != 0)=false from rfl,b7,Sy.aO (cx (by omega)),Sy.aO (Sy.cD (by omega) (by omega))];have:=runM (F:=oa a (l,z,0)) (K:=some) (λs=>s.1.length=s.2.2.toNat/\s.2.1.length=l.length/\0<=s.2.2/\s.2.2<=(l.length:Int)) (λs=>((l.length:Int)-s.2.2).toNat) (λ_=>True) (λs ⟨I,g,f,H⟩ k=>?_) an ([],List.replicate (Int.toNat (l.length:Int)) false,0) ⟨rfl,by simp,by simp,by simp⟩ (by show _<2^64;dsimp only;omega)
  .obtain ⟨o,e,_⟩:=this;exact ⟨o,e⟩
  obtain ⟨t,on,i⟩:=s;dsimp only at I g f H ⊢;unfold oa;dsimp only;by_cases hi:i<(l.length:Int)
  .obtain ⟨b,hb⟩:=aoI h (d.st _ (c9 (l:=l) (n:=i.toNat) (by omega)));rw [cx hi,ca,wE f hi,So.ah,hb,So.ah,Sy.aO (Sy.cD (by simp;omega) (by simp;omega)),wE f (by omega),So.ah,bq (by omega)];exact .inr ⟨_,rfl,⟨by simp;omega,by simpa using g,by dsimp only;omega,by dsimp only;omega⟩,by dsimp only;omega⟩
  .rw [cy hi,b7];obtain ⟨w,D,J⟩:=ao7 (sets:=[t]) C (by simp) (λs v=>by rw [List.mem_singleton.1 v];omega) (on:=on) g;rw [D,So.ah];have y:∃o,aj (gT (l,z,0) w) an 0=some o:=by
    refine nK (F:=gT (l,z,0) w) (λi=>(i:Int)) (λ_=>True) (λx=>∃o,x=some o) w.length (by omega) (λj B _ u=>?_) (λ_ u=>?_)
    .unfold gT;rw [cx (by omega),ca,bH B,So.ah];cases w[j] with
     |true=>exact .inl ⟨_,rfl⟩
     |false=>exact .inr ⟨trivial,by rw [b7,Pa.bQ (by omega)]⟩
    .unfold gT;rw [cy (by omega),b7];exact ⟨_,rfl⟩
   obtain ⟨o,A⟩:=y;exact .inl ⟨o,A,trivial⟩
 .dsimp only;rw [show (c != 0)=true by simpa using p,ca];exact ⟨_,rfl⟩
end Ns
namespace Ns
open Sp
def Twin(S:List So.Fd)(c c':Int)(t t':St):Prop:= ∃(L:List V) (g:So.Gf),So.UH t S c L g/\So.UH t' S c' L g
def alk(S:List So.Fd)(c c':Int)(Us:List V)(nw:St->V->Option (Except (Int×V) (Bool×St))):Prop:=
 ∀t t' x b u,Twin S c c' t t'->x∈Us->nw t x=some (.ok (b,u))->∃u',nw t' x=some (.ok (b,u'))/\Twin S c c' u u'
theorem WZ{S:List So.Fd}{Us:List V}(hS:Bz S Us){c i:Int}(o:c<=i):alk S c i Us Az:=λt t' x b u ⟨L,g,l,k⟩ hx a=>by
 obtain ⟨f,hl⟩:=hS.mem x hx;obtain ⟨t1,n,e,_⟩:=So.Zv hS.right l x hl;obtain ⟨t2,m,d,_⟩:=So.Zv hS.right k x hl;unfold Az at a ⊢;rw [n,So.ah] at a;rw [m,So.ah];unfold So.Ru at a e d ⊢;rw [du (So.pU.2 f)] at a e d ⊢;unfold So.wZ at a e d ⊢;by_cases hm:x∈L
 .rw [du hm] at a e d ⊢;cases a;exact ⟨t2,rfl,L,g,e,d⟩
 .rw [dk hm] at a e d ⊢;by_cases j:c<=(L.length:Int)
  .rw [du j] at a;cases a
  .rw [dk j] at a e;by_cases h:i<=(L.length:Int)
   .omega
   .rw [dk h] at d ⊢;cases a;exact ⟨t2,rfl,_,g,e,d⟩
theorem aqe{S:List So.Fd}{Us:List V}(hS:Bz S Us){c m:Int}(o:c<=m):alk S c m Us GI:=λt t' x b u ht hx a=>by
 obtain ⟨n,hl⟩:=hS.mem x hx;unfold GI at a ⊢;cases d:Az t x with
 |none=>rw [d] at a;cases a
 |some r=>
  cases r with
  |error e=>rw [d] at a;cases a
  |ok r=>
   obtain ⟨j,k⟩:=r;obtain ⟨f,p,L,g,i,h⟩:=WZ hS o t t' x j k ht hx d;rw [d] at a;rw [p];change (dw k x 1).bind _=_ at a;show ∃u',(dw f x 1).bind _=_/\_;rw [So.Zp hS.right i x hl 1,So.ah] at a;rw [So.Zp hS.right h x hl 1,So.ah];obtain ⟨t1,v,s,_⟩:=So.abe hS.right i x hl 1;obtain ⟨t2,j,q,_⟩:=So.abe hS.right h x hl 1;dsimp only at a ⊢;cases l:So.afP S L g x 1 with
   |true=>
    rw [l] at a;cases a;exact ⟨_,rfl,L,g,i,h⟩
   |false=>
    rw [l,b7,v,So.ah] at a;rw [b7,j,So.ah];cases a;exact ⟨_,rfl,L,_,s,q⟩
def aax(S:List So.Fd)(c c':Int)(w w':Option (Except Er St)):Prop:=
 ∀r,w=some r->(∃e,r= .error (.inl e))\/(∃p,r= .error (.inr p)/\w'=some r)\/∃u u',r= .ok u/\w'=some (.ok u')/\Twin S c c' u u'
theorem NT{S:List So.Fd}{c B:Int}{Us:List V}{nw:St->V->Option (Except (Int×V) (Bool×St))}{se:V->ka->Option Er}{dn A:St->ka->Option (Except Er St)}{pu m:Nat->V->Except (Int×V) (List V)}
  (hn:alk S c B Us nw) (hd:∀t t' s,Twin S c B t t'->(∀f∈s,f.1∈Us)->aax S c B (dn t s) (A t' s)) (hp:∀k y l,pu k y= .ok l->y∈Us->m k y= .ok l/\∀z∈l,z∈Us):
  ∀(n:Nat) (t t':St) (s:ka),Twin S c B t t'->(∀f∈s,f.1∈Us)->(∀f∈s,∀y∈f.2,y∈Us)->aax S c B (wk nw se dn pu n t s) (wk nw se A m n t' s)
 |0,_,_,_,_,_,_=>λr h=>by cases h
 |n+1,t,t',[],ht,_,_=>λr h=>by cases h;exact .inr (.inr ⟨t,t',rfl,rfl,ht⟩)
 |n+1,t,t',(x,[])::s,ht,hs,hy=>by
  unfold wk;have C:=hd t t' ((x,[])::s) ht hs;intro r h;cases g:dn t ((x,[])::s) with
  |none=>rw [g] at h;cases h
  |some q=>
   rw [g] at h;rcases C q g with ⟨e,rfl⟩|⟨p,rfl,j⟩|⟨u,u',rfl,j,e3⟩
   .cases h;exact .inl ⟨e,rfl⟩
   .cases h;rw [j];exact .inr (.inl ⟨p,rfl,rfl⟩)
   .rw [j];exact NT hn hd hp n u u' s e3 (λf a=>hs f (cb _ a)) (λf a=>hy f (cb _ a)) r h
 |n+1,t,t',(x,y::ys)::s,ht,hs,hy=>by
  have d:y∈Us:=hy _ (c8 ..) y (c8 ..);have w:∀f∈(x,ys)::s,f.1∈Us:=λf a=>by
   rcases List.mem_cons.1 a with rfl|a
   .exact hs (x,y::ys) (c8 ..)
   .exact hs f (cb _ a)
  have o:∀f∈(x,ys)::s,∀z∈f.2,z∈Us:=λf a=>by
   rcases List.mem_cons.1 a with rfl|a
   .exact λz D=>hy (x,y::ys) (c8 ..) z (cb _ D)
   .exact hy f (cb _ a)
  unfold wk;intro r h;cases v:se y ((x,ys)::s) with
  |some e=>
   rw [v] at h;cases h;cases e with
   |inl e=>exact .inl ⟨e,rfl⟩
   |inr p=>exact .inr (.inl ⟨p,rfl,rfl⟩)
  |none=>
   rw [v] at h;dsimp only at h ⊢;cases g:nw t y with
   |none=>rw [g] at h;cases h
   |some q=>
    rw [g] at h;cases q with
    |error e=>cases h;exact .inl ⟨e,rfl⟩
    |ok q=>
     obtain ⟨b,u⟩:=q;obtain ⟨u',E,j⟩:=hn t t' y b u ht d g;rw [E];cases b with
     |false=>exact NT hn hd hp n u u' _ j w o r h
     |true=>
      dsimp only [Option.bind_some] at h ⊢;cases i:pu (s.length+1) y with
      |error e=>rw [i] at h;cases h;exact .inl ⟨e,rfl⟩
      |ok l=>
       obtain ⟨p1,p2⟩:=hp _ _ _ i d;rw [i] at h;rw [p1];exact NT hn hd hp n u u' ((y,l)::(x,ys)::s) j (λf a=>by
        rcases List.mem_cons.1 a with rfl|a
        .exact d
        .exact w f a) (λf a=>by
        rcases List.mem_cons.1 a with rfl|a
        .exact p2
        .exact o f a) r h
variable {m : bp} {a : Au} {Us : List V} {cap cap' most most' : Int} {S : List So.Fd}
theorem O4(hm:most<=most')(b:∀x∈Us,(Pd.bF m a x).2=0->∀y∈(Pd.bF m a x).1,y∈Us):∀k y l,sG m a most k y= .ok l->y∈Us->sG m a most' k y= .ok l/\∀z∈l,z∈Us:=λk y l h e=>by
 unfold sG at h ⊢;by_cases d:most<=(k:Int)
 .rw [du d] at h;cases h
 .rw [dk d] at h;rw [dk (by omega)];by_cases c:(Pd.bF m a y).2=0
  .rw [du c] at h ⊢;cases h;exact ⟨rfl,b y e c⟩
  .rw [dk c] at h;cases h
theorem aql(hS:Bz S Us)(i:cap<=cap')(hm:most<=most')(b:∀x∈Us,(Pd.bF m a x).2=0->∀y∈(Pd.bF m a x).1,y∈Us)(t t':St)(s:ka)(ht:Twin S cap cap' t t')(d:∀f∈s,f.1∈Us):
  aax S cap cap' (S2 m a most an t s) (S2 m a most' an t' s):=by
 intro r h;unfold S2 at h ⊢
 match s,d with
 |[],_=>cases h
 |(x,l)::q,d=>
  dsimp only at h ⊢;cases c:meet a x with
  |false=>rw [c] at h;cases h;exact .inr (.inr ⟨t,t',rfl,rfl,ht⟩)
  |true=>
   rw [c,ca] at h;rw [ca];unfold allI at h ⊢;cases hp:sG m a most 0 x with
   |error e=>rw [hp] at h;cases h;exact .inl ⟨e,rfl⟩
   |ok l'=>
    have hx:=d _ (c8 ..);obtain ⟨p1,p2⟩:=O4 hm b _ _ _ hp hx;rw [hp] at h;rw [p1];exact NT (aqe hS i) (λt t' s ht _ r h=>by cases h;exact .inr (.inr ⟨t,t',rfl,rfl,ht⟩)) (O4 hm b) an t t' [(x,l')] ht (λf g=>by rw [List.mem_singleton.1 g];exact hx) (λf g=>by rw [List.mem_singleton.1 g];exact p2) r h
theorem ajX(hS:Bz S Us)(g:cap<=cap')(hm:most<=most')(c:∀x∈Us,(Pd.bF m a x).2=0->∀y∈(Pd.bF m a x).1,y∈Us):∀(L:List V) (t t':St),(∀x∈L,x∈Us)->Twin S cap cap' t t'->aax S cap cap' (ol m a most L t) (ol m a most' L t')
 |[],t,t',_,ht=>λr h=>by cases h;exact .inr (.inr ⟨t,t',rfl,rfl,ht⟩)
 |x::L,t,t',hL,ht=>by
  have hx:=hL x (c8 ..);have ih:=λu u'=>ajX hS g hm c L u u' (λy o=>hL y (cb _ o));intro r h;unfold ol at h ⊢;cases d:Az t x with
  |none=>rw [d] at h;cases h
  |some q=>
   rw [d] at h;cases q with
   |error e=>cases h;exact .inl ⟨e,rfl⟩
   |ok q=>
    obtain ⟨b,u⟩:=q;obtain ⟨u',A,j⟩:=WZ hS g t t' x b u ht hx d;rw [A];cases b with
    |false=>exact ih u u' j r h
    |true=>
     dsimp only [Option.bind_some] at h ⊢;cases hp:sG m a most 0 x with
     |error e=>rw [hp] at h;cases h;exact .inl ⟨e,rfl⟩
     |ok l=>
      obtain ⟨p1,p2⟩:=O4 hm c _ _ _ hp hx;rw [hp] at h;rw [p1];have w:aax S cap cap' (PU m a most an u [(x,l)]) (PU m a most' an u' [(x,l)]):=NT (WZ hS g) (λt t' s ht z=>aql hS g hm c t t' s ht z) (O4 hm c) an u u' [(x,l)] j (λf d=>by rw [List.mem_singleton.1 d];exact hx) (λf d=>by rw [List.mem_singleton.1 d];exact p2);dsimp only at h ⊢;cases hk:PU m a most an u [(x,l)] with
      |none=>rw [hk] at h;cases h
      |some q=>
       rw [hk] at h;rcases w q hk with ⟨e,rfl⟩|⟨p,rfl,i⟩|⟨v,k,rfl,i,n⟩
       .cases h;exact .inl ⟨e,rfl⟩
       .rw [i];cases h;exact .inr (.inl ⟨p,rfl,rfl⟩)
       .rw [i];exact ih v k n r h
end Ns
namespace Ns
open Sp
def Nu:xb->List V
 |[]=>[[]]
 |s::S=>(List.range (s.2-s.1+1).toNat).flatMap λ(k:Nat)=>(Nu S).map λv=>(s.1+(k:Int))::v
def Gx:xb->Int
 |[]=>1
 |s::S=>(s.2-s.1+1)*Gx S
theorem Kh:∀{S:xb} {v:V},v∈Nu S↔sO S v
 |[],v=>by
  constructor
  .intro h;rw [List.mem_singleton.1 h];exact ⟨rfl,rfl⟩
  .intro h;have:=List.length_eq_zero_iff.1 h.len;rw [this];exact List.mem_singleton.2 rfl
 |s::S,v=>by
  unfold Nu;constructor
  .intro h;obtain ⟨k,hk,h⟩:=List.mem_flatMap.1 h;obtain ⟨w,b,rfl⟩:=List.mem_map.1 h;have ih:=Kh.1 b;have hk:=List.mem_range.1 hk;refine ⟨by simp [ih.len],?_⟩;unfold fits;rw [ih.fit,cx (by omega),cx (by omega)];rfl
  .intro h
   match v,h with
   |[],h=>exact absurd h.len (by simp)
   |n::w,h=>
    have a:=h.fit;unfold fits at a;simp only [au,eT] at a;exact List.mem_flatMap.2 ⟨(n-s.1).toNat,List.mem_range.2 (by omega),List.mem_map.2 ⟨w,Kh.2 ⟨by simpa using h.len,a.2⟩,by congr 1;omega⟩⟩
theorem QO{α β:Type}{f:α->List β}{c:Nat}:∀{l:List α},(∀x∈l,(f x).length=c)->(l.flatMap f).length=l.length*c
 |[],_=>by simp
 |x::l,h=>by rw [qO,et,h x (c8 ..),QO (λy a=>h y (cb _ a)),eb,qL];omega
theorem aav:∀{S:xb},(∀s∈S,0<=s.2-s.1)->((Nu S).length:Int)=Gx S
 |[],_=>rfl
 |s::S,h=>by unfold Nu Gx;rw [QO (c:=(Nu S).length) (λk _=>by simp),List.length_range,<-aav (λx hx=>h x (cb _ hx)),Int.natCast_mul];have:=h s (c8 ..);congr 1;omega
def Lm(m:bp)(k:Nat):List V:=(Nu m.2.1).flatMap λv=>(List.range k).map λ(q:Nat)=>v++[(q:Int)]
theorem Fc{m:bp}{x:V}:x∈Lm m k↔Pd.St m k x:=by
 constructor
 .intro h;obtain ⟨v,a,h⟩:=List.mem_flatMap.1 h;obtain ⟨q,b,rfl⟩:=List.mem_map.1 h;have:=List.mem_range.1 b;exact ⟨v,q,rfl,Kh.1 a,by omega,by omega⟩
 .rintro ⟨v,q,rfl,a,d,c⟩;exact List.mem_flatMap.2 ⟨v,Kh.2 a,List.mem_map.2 ⟨q.toNat,List.mem_range.2 (by omega),by congr 2;omega⟩⟩
theorem ana{m:bp}(h:∀s∈m.2.1,0<=s.2-s.1)(hp:Gx m.2.1<=200)(hk:k<=12):(Lm m k).length<=2400:=by
 unfold Lm;rw [QO (c:=k) (λv _=>by simp)];have:=aav h;have a:(Nu m.2.1).length<=200:=by omega
 exact dx (Nat.mul_le_mul a hk) (cK _)
theorem ao2{m:bp}(hS:m.2.1.length<=1048576)(e:∀f∈m.2.1,0<=f.2-f.1/\f.2-f.1<=100000000/\ -2000000000<=f.1/\f.2<=2000000000)(h:fD m 200=some true):Gx m.2.1<=200:=by
 unfold fD at h;have key:∀(d i M:Nat) (n:Int),i+d=m.2.1.length->d<M->0<=n->n<=100000000000->aj (cm m 200) M (n,(i:Int))=some true->n*Gx (m.2.1.drop i)<=200:=λd=>by
  induction d with
  |zero=>
   intro i M n o l c j a;obtain ⟨M,rfl⟩:∃q,M=q+1:=⟨M-1,by omega⟩;rw [ar] at a;generalize aj _ M=k at a;unfold cm at a;simp only [So.aK] at a;rw [cy (show ¬(i:Int)<(m.2.1.length:Int) by omega),lk,b7] at a;rw [si (by omega)];have:=qB (gr a);simp only [Gx];omega
  |succ d ih=>
   intro i M n o l c j a;obtain ⟨M,rfl⟩:∃q,M=q+1:=⟨M-1,by omega⟩;have hi:i<m.2.1.length:=by omega
   have r:=e _ (c9 hi);have b:=λn=>ih (i+1) M n (by omega) (by omega);rw [ar] at a;generalize aj (cm m 200) M=k at b a;unfold cm at a;simp only [So.aK] at a;rw [cx (show (i:Int)<(m.2.1.length:Int) by omega),fc] at a;by_cases hn:n<=200
   .rw [cx hn,ca,bH hi,So.ah,So.ah,Pa.bQ (by omega)] at a;have p:IntKind.i64.wrap (IntKind.i64.wrap (m.2.1[i].2-m.2.1[i].1)+1)=m.2.1[i].2-m.2.1[i].1+1:=by rw [bq (x:=m.2.1[i].2-m.2.1[i].1) (by omega),bq (by omega)]
    have g:0<=n*(m.2.1[i].2-m.2.1[i].1+1):=Int.mul_nonneg c (by omega);have s:n*(m.2.1[i].2-m.2.1[i].1+1)<=200*100000001:=Int.mul_le_mul hn (by omega) (by omega) (by omega);rw [p,bq (by omega)] at a;have:=b _ g (by omega) a;rw [mN hi];unfold Gx;rw [<-Int.mul_assoc];exact this
   .rw [cy hn,b7] at a;cases a
 have:=key m.2.1.length 0 an 1 (by omega) (by show _<2^64;omega) (by omega) (by omega) h;rw [n9] at this;omega
end Ns
namespace Ns
open Sp
theorem agD(text:aE){a:Au}(hb:Qp a):∃q,gJ text a=some q/\(q.2=true->kr q.1 a/\(Lm q.1 a.1.length).length<=2400):=by
 obtain ⟨q,c,l⟩:=akD text hb;refine ⟨q,c,λd=>?_⟩;obtain ⟨h,hk⟩:=l d;refine ⟨h,?_⟩;have i:∀f∈q.1.2.1,0<=f.2-f.1/\f.2-f.1<=100000000/\ -2000000000<=f.1/\f.2<=2000000000:=λf j=>by have e:=h.hm.field f j;have:=e.le;have:=e.lo;have:=e.hi;have:=e.wide;omega
 refine ana (λs g=>(i s g).1) (ao2 (by have:=h.hm.da;omega) i ?_) hk;obtain ⟨m,b⟩:=q;dsimp only at d;subst d;unfold gJ at c;obtain ⟨q,e,o⟩:=abn text;rw [e,So.ah] at c;cases d:q.2 with
 |false=>rw [d] at c;cases c
 |true=>
  obtain ⟨n,k,_⟩:=ace (m:=q.1) hb;rw [d,og,k,So.ah] at c;simp only [So.aK,fc] at c;cases n with
  |false=>cases c
  |true=>
   cases hd:decide ((a.1.length:Int)<=12) with
   |false=>rw [hd] at c;cases c
   |true=>
    rw [hd] at c;change bn true _ _ _=_ at c;rw [og] at c;cases g:fD q.1 200 with
    |none=>rw [g] at c;cases c
    |some p=>
     rw [g,So.ah] at c;cases c;exact g
variable {m : bp} {a : Au}
theorem ahw{x:V}(hx:(Pd.bF m a x).2≠0):(Pd.bF m a x).2=6:=by
 unfold Pd.bF Pd.Gw at hx ⊢;by_cases h:(fk m.2.1 m.2.2.2.2 x.dropLast).2=0
 .rw [du h] at hx;exact absurd rfl hx
 .rw [dk h];dsimp only;unfold fk OL at h ⊢;split at h
  .exact absurd rfl h
  .rename_i c;rw [dk c];cases b:(goes x.dropLast m.2.2.2.2).all (fits m.2.1) with
   |true=>rw [b] at h;exact absurd rfl h
   |false=>rfl
def Cd(e:Er):Prop:= ∀c,e= .inl c->c.1≠0/\c.1≠1
theorem QJ(h:kr m a)(cap most:Int):Ends m a (Lm m a.1.length) cap most Cd:=
 ⟨λx hx=>Fc.1 hx,λx hx _ y d=>Fc.2 (Pd.R7 h.ha (Fc.1 hx) y d),λ_ c b=>by cases b;decide,λ_ c b=>by cases b;decide,λx _ hx c b=>by cases b;rw [ahw hx];exact ⟨show (6:Int)≠0 by decide,show (6:Int)≠1 by decide⟩,λp _ _ _ _ _ c b=>by cases b⟩
theorem akX(h:kr m a)(G:(Lm m a.1.length).length<=2400)(k c i s d:Int)(hk:0<=k/\k<4)(o:0<=c/\c<=i/\i<=1048576)(n:1<=s/\s<=d/\d<=1048576):
  ∃x y,ld m a (k,c,s,0,0,0)=some x/\ld m a (k,i,d,0,0,0)=some y/\(x.2.2.1=0->y.2.2.1=0/\x.1=y.1):=by
 have hS:=asH h (λx hx=>Fc.1 hx:∀x∈Lm m a.1.length,Pd.St m a.1.length x);have hi:∀x∈vq m a,x∈Lm m a.1.length:=λx hx=>Fc.2 (Sm h x hx);have H:=ae8 h;obtain ⟨t,F,A,_⟩:=(So.ael (aeY h) (Dd h) (k,c,s,0,0,0) hk).2 o.1 (by dsimp only;omega);obtain ⟨t',d1,d2,_⟩:=(So.ael (aeY h) (Dd h) (k,i,d,0,0,0) hk).2 (by dsimp only;omega) o.2.2;have z:=aeZ h.hm.toSafeS h.hi h.ha h.da (by omega) (Sm h) (k,c,s,0,0,0) (Xd h) F;have v:=aeZ h.hm.toSafeS h.hi h.ha h.da (by omega) (Sm h) (k,i,d,0,0,0) (Xd h) d1;rw [du ⟨rfl,n.1,by dsimp only;omega⟩] at z;rw [du ⟨rfl,by dsimp only;omega,n.2.2⟩] at v;have r1:=aaB h hS (QJ h c s) (by omega) (vq m a) hi [] t (.inl ⟨[],_,A,by simp,nofun,nofun,nofun⟩);have r2:=aaB h hS (QJ h i d) (by omega) (vq m a) hi [] t' (.inl ⟨[],_,d2,by simp,nofun,nofun,nofun⟩);have b:=ajX hS o.2.1 n.2.1 (QJ h c s).next (vq m a) t t' hi ⟨_,_,A,d2⟩;have l:∀{c:Int} {w:Option (Except Er St)},O6 (λK t=>CN (Ht m a) c (Lm m a.1.length) K [] t) Cd [] w->∃r,w=some r:=λE=>by
  rcases E with ⟨e,q,_⟩|⟨_,t,q,_⟩
  .exact ⟨_,q⟩
  .exact ⟨_,q⟩
 rw [z,v];dsimp only;obtain ⟨y,D⟩:=l r2;rcases r1 with ⟨e,f,B⟩|⟨K,u,f,_⟩
 .rcases b _ f with ⟨e',g⟩|⟨p,g,j⟩|⟨_,_,g,_⟩
  .cases g;rw [f,D];refine ⟨_,_,rfl,rfl,λC=>absurd C ?_⟩;exact (B e' rfl).1
  .cases g;rw [f,j];exact ⟨_,_,rfl,rfl,λ_=>⟨rfl,rfl⟩⟩
  .cases g
 .rcases b _ f with ⟨e',g⟩|⟨p,g,j⟩|⟨_,_,_,j,_⟩
  .cases g
  .cases g
  .rw [f,j];exact ⟨_,_,rfl,rfl,λ_=>⟨rfl,rfl⟩⟩
theorem ai1(w:aE×Au×Int×Int×Int×Int)(hb:Qp w.2.1)(hk:0<=w.2.2.1/\w.2.2.1<=255)(e:0<=w.2.2.2.1/\w.2.2.2.1<=255)(d:0<=w.2.2.2.2.1/\w.2.2.2.2.1<=255)(hm:0<=w.2.2.2.2.2/\w.2.2.2.2.2<=255):kJ w=some true:=by
 obtain ⟨text,a,kind,most,stack,b⟩:=w;dsimp only at hb hk e d hm;unfold kJ;dsimp only;rw [apC,So.ah];obtain ⟨q,m,l⟩:=agD text hb;rw [m,So.ah];cases j:q.2 with
 |false=>rfl
 |true=>
  obtain ⟨h,k⟩:=l j;rw [pd,b7];obtain ⟨r,u⟩:=alH h;rw [u,So.ah];cases r.2.2==7 with
  |true=>rfl
  |false=>
   rw [b7];have m1:Int.tmod kind 4=kind%4:=Int.tmod_eq_emod_of_nonneg hk.1;have i:Int.tmod most 101=most%101:=Int.tmod_eq_emod_of_nonneg e.1;have g:Int.tmod stack 100=stack%100:=Int.tmod_eq_emod_of_nonneg d.1;have m4:Int.tmod b 50=b%50:=Int.tmod_eq_emod_of_nonneg hm.1;have f:Int.tdiv b 50=b/50:=Int.tdiv_eq_ediv_of_nonneg hm.1;rw [bq (x:=kind) (by omega),bq (x:=most) (by omega),bq (x:=stack) (by omega),bq (x:=b) (by omega),m1,i,g,m4,f,bq (x:=1+stack%100) (by omega),bq (x:=most%101+b%50) (by omega),bq (x:=b/50) (by omega),bq (x:=1+stack%100+b/50) (by omega)];obtain ⟨x,y,t,s,p⟩:=akX h k (kind%4) (most%101) (most%101+b%50) (1+stack%100) (1+stack%100+b/50) (by omega) (by omega) (by omega);rw [t,So.ah,s,So.ah];simp only [So.aK,fc];by_cases c:x.2.2.1=0
   .obtain ⟨o,n⟩:=p c;rw [c,o,n];simp
   .rw [show (x.2.2.1 != 0)=true by simpa using c];rfl
end Ns
variable {w : World}
open Go.Lib Go.ChangeAt Go.ChangeShapes Go.WideShapes Go.RowKit
theorem afw{P:Program}{w:World}:∀(l:List (String×DataW Unit)) (ps:List MemPlace),DataW.LaidVars P w l ps->∀(i:Nat) (n:String) (d:DataW Unit),l[i]? =some (n,d)->
  ∃g t cs a p,P.globalNamed n=some g/\(P.globals[g]?).map (·.type)=some t/\w.var? P n=some cs/\DataW.trod (λ_=>()) P w 0 (λ_=>true) false a t cs.toList=some (d,p)
 |[],_,_,i,n,d,h=>by simp at h
 |(n0,d0)::l,ps,h,i,n,d,hi=>by
  obtain ⟨g,t,cs,a,p,q,j,f,e,c,b,_⟩:=h;cases i with
  |zero=>
   simp only [qk,ej,q7] at hi;obtain ⟨rfl,rfl⟩:=hi;exact ⟨g,t,cs,a,p,j,f,e,c⟩
  |succ i=>exact afw l q b i n d (by simpa using hi)
theorem ahV{P:Program}{laid:List (String×DataW Unit)}(a:(laid.filter λx=>x.2.handleName?.isSome)=[])(h:laidMetH P laid w):laidMet P laid w:=by unfold laidMetH at h;rw [a] at h;exact h
theorem api{P:Program}{laid:List (String×DataW Unit)}{Γ:Ctx}(h:laidMet P laid w)(i:Nat){n:String}{kd:IntKind}{zs:zk}{g:Nat}{t e:TypeId}{k:Nat}
  (hi:laid[i]? =some (n,tabData kd zs)) (m:P.globalNamed n=some g) (b:(P.globals[g]?).map (·.type)=some t)
  (ht:P.underlying t=some (.array k e)) (q:P.underlying e=some (.int kd)) (l:P.cellsOf e=1) (j:P.cellsOf t=k) (r:¬ Γ.M g):(gl g (zs.map (Value.int kd))).P Γ.M w:=by
 obtain ⟨ps,hl,_⟩:=h;obtain ⟨u,t',cs,o,p,f,d,a,hd⟩:=afw _ _ hl i n _ hi;obtain rfl:=gr (m.symm.trans f);obtain rfl:=gr (b.symm.trans d);have s:=cells_of_tab ht q l j hd;refine ⟨r,?_⟩;unfold World.var? at a;rw [m] at a;simp only [Option.bind_some] at a;split at a
 next c ty fr hb=>obtain rfl:=gr a;exact ⟨ty,fr,by rw [hb,<-s]⟩
 .cases a
def Xi(Γ:Ctx):Prop:= ∀b,¬ Γ.M b
theorem aeA:Xi []:=λb h=>by obtain ⟨it,h,_⟩:=h;cases h
theorem aa6{it:Item}{Γ:Ctx}(hp:it.own=[])(h:Xi Γ):Xi (it::Γ):=λb hb=>by
 rcases Ctx.EU.1 hb with a|a
 .rw [hp] at a;cases a
 .exact h b a
theorem aiO(w:World):Sat [kept w (λ_=>False)] w:=Sat.nil.add rfl ⟨iZ.refl w,cK _,λb _ _=>⟨aeA b,rfl⟩⟩
theorem ajd(w:World):Xi [kept w (λ_=>False)]:=aa6 rfl aeA
theorem amP{Γ:Ctx}(h:Xi Γ):Mv (λ_=>False) w Γ.M w:=⟨cK _,λb _ _=>⟨h b,rfl⟩⟩
theorem ajx{w':World}{Γ:Ctx}{i:Nat}(h:Sat Γ w')(hi:Γ[i]? =some (kept w (λ_=>False))):Below w.heap.size w w':=by obtain ⟨a,c,b⟩:=h.kept hi;exact ⟨a.os,a.tape,a.output,c,λk hk=>(b k hk (λh=>h)).2⟩
theorem Un{Y:Type}(R:Nat->Y->Ex->Prop):∀(ys:List Y),(∀i y,ys[i]? =some y->∃e,R i y e)->∃l:List Ex,l.length=ys.length/\∀i y e,ys[i]? =some y->l[i]? =some e->R i y e
 |[],_=>⟨[],rfl,λi y e h=>by simp at h⟩
 |y::ys,h=>by
  obtain ⟨e,d⟩:=h 0 y rfl;obtain ⟨l,hl,c⟩:=Un (λi=>R (i+1)) ys (λi y a=>h (i+1) y (by simpa using a));refine ⟨e::l,by simp [hl],λi b e' a hx=>?_⟩;cases i with
  |zero=>
   simp only [qk,ej] at a hx;subst a;subst hx;exact d
  |succ i=>exact c i b e' (by simpa using a) (by simpa using hx)
theorem aki{H:Type}:∀(l:List Ex) (ds:List (DataW H)),l.length=ds.length->(∀(i:Nat) (e:Ex) (d:DataW H),l[i]? =some e->ds[i]? =some d->e.sz<=Rows.uptoBulk d)->xK l<=Rows.uptoBulkAll ds
 |[],[],_,_=>cK _
 |e::l,d::ds,hl,h=>by
  have c:=h 0 e d rfl rfl;have b:=aki l ds (by simpa using hl) (λi e d a hd=>h (i+1) e d (by simpa using a) (by simpa using hd));simp only [xK,Rows.uptoBulkAll];omega
 |[],_::_,h,_=>by simp at h
 |_::_,[],h,_=>by simp at h
theorem QQ{H:Type}(d:DataW H):1<=Rows.uptoBulk d:=by
 cases d with
 |lit l=>cases l <;> simp [Rows.uptoBulk]
 |nil=>simp [Rows.uptoBulk]
 |ptr d=>simp [Rows.uptoBulk]
 |slice e b=>simp [Rows.uptoBulk]
 |agg c=>simp [Rows.uptoBulk]
 |iface t d=>simp [Rows.uptoBulk]
 |map a=>simp [Rows.uptoBulk]
 |held h=>simp [Rows.uptoBulk]
theorem B7{H:Type}{d:DataW H}:∀{l:List (DataW H)},d∈l->Rows.uptoBulk d<=Rows.uptoBulkAll l
 |x::r,h=>by
  simp only [Rows.uptoBulkAll];rcases List.mem_cons.1 h with rfl|h
  .omega
  .have:=B7 h;omega
structure aix(P:Program)(t:TypeId):Prop where
 fields:∃(fs:Array Field) (f0 f1 f2 f3:Field),P.underlying t=some (.struct fs)/\fs.size=4/\fs[0]? =some f0/\fs[1]? =some f1/\fs[2]? =some f2/\fs[3]? =some f3/\
  (f0.offset=0/\P.underlying f0.type=some (.int .i64)/\P.cellsOf f0.type=1)/\(f1.offset=1/\P.underlying f1.type=some (.int .i64)/\P.cellsOf f1.type=1)/\
  (f2.offset=2/\P.underlying f2.type=some (.int .i64)/\P.cellsOf f2.type=1)/\(f3.offset=3/\P.underlying f3.type=some (.slice t)/\P.cellsOf f3.type=1)
 cells:P.cellsOf t=4
theorem ar9{P:Program}{a:Nat}{t:TypeId}{v:Value}{b:Array Field}(ht:P.underlying t=some (.struct b))(h:Value.okWide P w .any a t v):
  ∃cs,v= .agg cs/\cs.size=P.cellsOf t/\Row.okWide P w .any a t cs:=by
 unfold Value.okWide at h;rw [ht] at h;exact h
theorem af6{a:Addr}{v:Value}(h:w.cell? a=some v):a.spot=none/\∃cs e fr,w.heap[a.block]? =some (.cells cs e fr)/\cs[a.off]? =some v:=by
 unfold World.cell? at h;split at h
 .rename_i cs e fr hb;split at h
  .cases h
  next b=>exact ⟨by simpa using b,cs,e,fr,hb,h⟩
 .cases h
theorem ah1{H:Type}{enc:TypeId×Value->H}{P:Program}{W:World}{t:TypeId}(L:aix P t):∀(p:Nat) (cs:zb) (x:DataW H×List MemPlace),
  DataW.trod enc P W 0 (λ_=>true) true p t cs=some x->∃e,yh (λ_=>False) W cs e/\e.sz<=Rows.uptoBulk x.1:=by
 intro p
 induction p using Nat.strongRecOn with
 |ind p ih=>
 intro cs x h;obtain ⟨⟨fs,f0,f1,f2,f3,hT,hsz,g0,g1,g2,g3,⟨o0,u0,c0⟩,⟨o1,u1,c1⟩,⟨o2,u2,c2⟩,⟨o3,u3,c3⟩⟩,hc⟩:=L;obtain ⟨xs,n,rfl,rfl,hl,D,X⟩:=DataW.trod_struct hT h;rw [hc] at hl;rw [hsz] at D;obtain ⟨a0,V,U,C,rfl⟩:∃a0 V U C,cs=[a0,V,U,C]:=by
  match cs,hl with
  |[a,b,c,d],_=>exact ⟨a,b,c,d,rfl⟩
 obtain ⟨x0,x1,x2,A,rfl⟩:∃a0 V U C,xs=[a0,V,U,C]:=by
  match xs,D with
  |[a,b,c,d],_=>exact ⟨a,b,c,d,rfl⟩
 have Z:=X 0 f0 g0;have t1:=X 1 f1 g1;have t2:=X 2 f2 g2;have Y:=X 3 f3 g3;rw [o0,c0] at Z;rw [o1,c1] at t1;rw [o2,c2] at t2;rw [o3,c3] at Y;simp only [n9,q5,tJ,List.drop_succ_cons,qk,gy] at Z t1 t2 Y;obtain ⟨z,e0,_,_⟩:=DataW.trod_int u0 Z;obtain ⟨w,e1,_,_⟩:=DataW.trod_int u1 t1;obtain ⟨v,e2,_,_⟩:=DataW.trod_int u2 t2;obtain rfl:a0= .int .i64 z:=by simpa using e0
 obtain rfl:V= .int .i64 w:=by simpa using e1
 obtain rfl:U= .int .i64 v:=by simpa using e2
 have hb:∀d,A.1=d->Rows.uptoBulk d+1<=Rows.uptoBulk (DataW.agg ([x0,x1,x2,A].map (·.1))):=λd hd=>by subst hd;have:=B7 (d:=A.1) (l:=[x0,x1,x2,A].map (·.1)) (by simp);simp only [Rows.uptoBulk];omega
 rcases DataW.trod_slice u3 Y with ⟨q,E⟩|⟨a,len,cap,f,rest,m,rfl,q,E,_,hlc,_,J,O,hsp,_⟩
 .obtain rfl:C= .slice none 0 0:=by simpa using q
  refine ⟨.mk z w v [],.nil z w v none,?_⟩;have:=hb _ rfl;have:=QQ A.1;simp only [Ex.sz,xK];omega
 .obtain rfl:C= .slice (some a) len cap:=by simpa using q
  obtain ⟨hrl,G⟩:=hsp rfl;rw [hc] at O G
  -- all of it is there
  have cell:∀i,i<cap->∃us y,W.cells? 0 (a.add (i*4)) 4=some us/\us.length=4/\(∀j,j<4->W.cell? ((a.add (i*4)).add j)=us[j]?)/\DataW.trod enc P W 0 (λ_=>true) true m t us=some y/\(i<len->f[i]? =some y):=λi hi=>by
   by_cases M:i<len
   .obtain ⟨y,r⟩:∃y,f[i]? =some y:=⟨f[i]'(by omega),b9 _⟩;have:=O i M;rw [r,q6] at this;obtain ⟨us,B,S⟩:=this;obtain ⟨_,q,u⟩:=World.cells?_some B;exact ⟨us,y,B,q,u,S,λ_=>r⟩
   .obtain ⟨y,r⟩:∃y,rest[i-len]? =some y:=⟨rest[i-len]'(by omega),b9 _⟩;have:=G (i-len) (by omega);rw [r,q6] at this;obtain ⟨us,B,S⟩:=this;have e:len+(i-len)=i:=by omega
    rw [e] at B;obtain ⟨_,q,u⟩:=World.cells?_some B;exact ⟨us,y,B,q,u,S,λh=>absurd h M⟩
  by_cases Q:cap=0
  .subst Q;obtain rfl:len=0:=by omega
   refine ⟨.mk z w v [],.nil z w v (some a),?_⟩;have:=hb _ rfl;have:=QQ A.1;simp only [Ex.sz,xK];omega
  .obtain ⟨us0,_,_,hl0,hc0,_⟩:=cell 0 (by omega);have T:=hc0 0 (by omega);rw [b9 (by omega)] at T;obtain ⟨hs,o,e',fr,R,_⟩:=af6 T;have F:a.spot=none:=by simpa [Addr.add] using hs
   have k:W.heap[a.block]? =some (.cells o e' fr):=by simpa [Addr.add] using R
   obtain ⟨b,g,sp⟩:=a;simp only at F k;subst F;have at_:∀i j,((⟨b,g,none⟩:Addr).add (i*4)).add j=⟨b,g+i*4+j,none⟩:=λi j=>by unfold Addr.add;split <;> split <;> simp_all
   have s:∀i,i<cap->∃us y,us.length=4/\(∀j,j<4->o[g+i*4+j]? =us[j]?)/\DataW.trod enc P W 0 (λ_=>true) true m t us=some y/\(i<len->f[i]? =some y):=λi hi=>by obtain ⟨us,y,_,q,u,h5,h6⟩:=cell i hi;refine ⟨us,y,q,λj K=>?_,h5,h6⟩;have:=u j K;rw [at_] at this;simpa [World.cell?,k] using this
   have hsize:g+cap*4<=o.size:=by obtain ⟨us,_,q,u,_⟩:=s (cap-1) (by omega);have:=u 3 (by omega);rw [b9 (by omega)] at this;have:=(Array.getElem?_eq_some_iff.1 this).1;omega
   have N:∀i y,f[i]? =some y->∃e,(yh (λ_=>False) W (((o.toList.drop g).drop (i*4)).take 4) e/\e.sz<=Rows.uptoBulk y.1):=λi y r=>by
    have hi:i<len:=by rw [<-J];exact (List.getElem?_eq_some_iff.1 r).1
    obtain ⟨us,y',q,u,h5,h6⟩:=s i (by omega);obtain rfl:y'=y:=by have:=h6 hi;rw [r] at this;exact (gr this).symm
    have hus:((o.toList.drop g).drop (i*4)).take 4=us:=by
     apply mi;intro j;by_cases K:j<4
     .rw [qj,du K,qw,qw,<-u j K];simp [q8]
     .rw [qj,dk K,l7 (by omega)]
    rw [hus];exact ih m (by omega) us y' h5
   obtain ⟨l,hll,hR⟩:=Un (λi y e=>yh (λ_=>False) W (((o.toList.drop g).drop (i*4)).take 4) e/\e.sz<=Rows.uptoBulk y.1) f N;have I:l.length=len:=by omega
   refine ⟨.mk z w v l,?_,?_⟩
   .rw [<-I];refine .some z w v l b g cap o e' fr (λh=>h) k (by omega) (by omega) ?_ (λi hi=>?_)
    .simp only [dq,iQ,fb];omega
    .obtain ⟨y,r⟩:∃y,f[i]? =some y:=⟨f[i]'(by omega),b9 _⟩;have:=(hR i y l[i] r (b9 _)).1;rw [qy,qH];have e4:min 4 (l.length*4-i*4)=4:=by omega
     rw [e4];exact this
   .have B:=aki l (f.map (·.1)) (by simp [hll]) (λi e d he hd=>by rw [qt,Option.map_eq_some_iff] at hd;obtain ⟨y,r,rfl⟩:=hd;exact (hR i y e r he).2)
    have S:A.1= .slice (f.map (·.1)) (rest.map (·.1)):=by rw [E]
    have q:=hb _ S;simp only [Ex.sz];have u:Rows.uptoBulk (DataW.slice (f.map (·.1)) (rest.map (·.1)))=Rows.uptoBulkAll (f.map (·.1))+Rows.uptoBulkAll (rest.map (·.1))+1:=by simp only [Rows.uptoBulk]
    omega
variable {Q : Nat -> Prop} {W : World}
open Go.ChangeMaps (open_string)
def wh:Ty->wb
 | .p a b=>wh a++wh b
 | .l _|.ex=>[none]
 |_=>[]
def asx:Ty->Pt
 | .i k=> .int k
 | .bo=> .bool
 | .s=> .str
 | .l t=> .sli t
 |t=> .dat t (wh t)
def LJ(Q:Nat->Prop):(t:Ty)->t.T->Prop
 | .i k,x=>(Lit.int k x).wf=true
 | .s,x=>x.length<=9223372036854775807
 | .p a b,x=>LJ Q a x.1/\LJ Q b x.2
 | .l t,x=>(List.length (α:=t.T) x<=9223372036854775807/\Q (List.length (α:=t.T) x))/\∀y:t.T,List.Mem y x->LJ Q t y
 | .ex,x=>Q x.sz
 |_,_=>True
def Oq(P:Program)(t:TypeId):Bool:=(match P.underlying t with
 |some (.int .i64)=>true
 |_=>false)&&P.cellsOf t==1
def exB(P:Program)(t:TypeId):Bool:=(match P.underlying t with
 |some (.struct fs)=>(match fs.toList with
  |[f0,f1,f2,f3]=>f0.offset==0&&Oq P f0.type&&(f1.offset==1&&Oq P f1.type)&&(f2.offset==2&&Oq P f2.type)&&(f3.offset==3&&P.cellsOf f3.type==1&&(match P.underlying f3.type with
   |some (.slice e)=>e==t
   |_=>false))
  |_=>false)
 |_=>false)&&P.cellsOf t==4
def DH(P:Program)(fit:TypeId->Ty->Bool)(tot:Nat):List Field->Nat->Ty->Bool
 |[],_,_=>false
 |[f],off,t=>f.offset==off&&off+P.cellsOf f.type==tot&&P.cellsOf f.type==t.rep.n&&fit f.type t
 |f::g::fs,off,t=>match t with
  | .p a b=>f.offset==off&&P.cellsOf f.type==a.rep.n&&fit f.type a&&DH P fit tot (g::fs) (off+P.cellsOf f.type) b
  |_=>false
def fits(P:Program):Nat->TypeId->Ty->Bool
 |0,_,_=>false
 |n+1,i,t=>match P.underlying i with
  |some (.int k)=>(match t with
   | .i k'=>decide (k=k')
   |_=>false)
  |some .bool=>(match t with
   | .bo=>true
   |_=>false)
  |some .string=>(match t with
   | .s=>true
   |_=>false)
  |some (.slice e)=>(match t with
   | .l u=>P.cellsOf e==u.rep.n&&Nat.blt 0 u.rep.n&&fits P n e u
   |_=>false)
  |some (.struct fs)=>(match t with
   | .ex=>exB P i
   | .p a b=>DH P (fits P n) (P.cellsOf i) fs.toList 0 (.p a b)
   |_=>false)
  |_=>false
def Xe:Ty->Bool
 | .n=>false
 | .p a b=>Xe a&&Xe b
 |_=>true
theorem Oa{P:Program}{fit:TypeId->Ty->Bool}(h:∀i t,fit i t=true->Xe t=true){d:Nat}:∀(j:List Field) (c:Nat) (t:Ty),DH P fit d j c t=true->Xe t=true
 |[],_,_,e=>by cases e
 |[f],c,t,e=>by
  simp only [DH,au] at e;exact h _ _ e.2
 |f::g::j,c,t,e=>by
  unfold DH at e;split at e
  next a b=>simp only [au] at e;simp only [Xe,au];exact ⟨h _ _ e.1.2,Oa h (g::j) _ b e.2⟩
  .cases e
theorem aa2{P:Program}:∀(n:Nat) (i:TypeId) (t:Ty),fits P n i t=true->Xe t=true
 |0,_,_,e=>by cases e
 |n+1,i,t,e=>by
  unfold fits at e;split at e <;> (try cases e)
  .split at e
   .rfl
   .cases e
  .split at e
   .rfl
   .cases e
  .split at e
   .rfl
   .cases e
  .split at e
   .rfl
   .cases e
  .split at e
   .rfl
   .exact Oa (λi t=>aa2 n i t) _ _ _ e
   .cases e
theorem xH{P:Program}{t:TypeId}(h:Oq P t=true):P.underlying t=some (.int .i64)/\P.cellsOf t=1:=by
 unfold Oq at h;simp only [au,n4] at h;refine ⟨?_,h.2⟩;revert h;split
 next h=>intro _;exact h
 .intro h;cases h.1
theorem ase{P:Program}{t:TypeId}(h:exB P t=true):aix P t:=by
 unfold exB at h;simp only [au,n4] at h;obtain ⟨a,q⟩:=h;split at a
 .rename_i d b;split at a
  .rename_i k j f c hl;simp only [au,n4] at a;obtain ⟨⟨⟨⟨a0,n⟩,w,m⟩,v,l⟩,⟨u,r⟩,s⟩:=a;have g:∀i:Nat,d[i]? =[k,j,f,c][i]? :=λi=>by rw [<-hl,so]
   have o:P.underlying c.type=some (.slice t):=by
    revert s;split
    next e p=>intro hb;rw [p,(by simpa using hb:e=t)]
    .intro hb;cases hb
   refine ⟨⟨d,k,j,f,c,b,?_,g 0,g 1,g 2,g 3,⟨a0,(xH n).1,(xH n).2⟩,⟨w,(xH m).1,(xH m).2⟩,⟨v,(xH l).1,(xH l).2⟩,⟨u,o,r⟩⟩,q⟩;rw [<-fb,hl];rfl
  .cases a
 .cases a
theorem amd{a:Addr}{v:Value}(h:w.cell? a=some v):a.spot=none/\∃cs e fr,w.heap[a.block]? =some (.cells cs e fr)/\cs[a.off]? =some v:=by
 unfold World.cell? at h;split at h
 .rename_i cs e fr hb;split at h
  .cases h
  next b=>exact ⟨by simpa using b,cs,e,fr,hb,h⟩
 .cases h
theorem PQ{Y α:Type}(R:Nat->Y->α->Prop):∀(ys:List Y),(∀i y,ys[i]? =some y->∃e,R i y e)->∃l:List α,l.length=ys.length/\∀i y e,ys[i]? =some y->l[i]? =some e->R i y e
 |[],_=>⟨[],rfl,λi y e h=>by simp at h⟩
 |y::ys,h=>by
  obtain ⟨e,d⟩:=h 0 y rfl;obtain ⟨l,hl,c⟩:=PQ (λi=>R (i+1)) ys (λi y a=>h (i+1) y (by simpa using a));refine ⟨e::l,by simp [hl],λi b e' a hx=>?_⟩;cases i with
  |zero=>
   simp only [qk,ej] at a hx;subst a;subst hx;exact d
  |succ i=>exact c i b e' (by simpa using a) (by simpa using hx)
theorem Qa{H:Type}:∀(l:List (DataW H)),l.length<=Rows.uptoBulkAll l
 |[]=>pA _
 |d::l=>by have:=Qa l;have:=QQ d;simp only [eb,Rows.uptoBulkAll];omega
theorem ajT{H:Type}{enc:TypeId×Value->H}{P:Program}{t e:TypeId}{A:fm α}{D:α->Prop}(ht:P.underlying t=some (.slice e))(hA:P.cellsOf e=A.n)(hn:0<A.n)
  (q:Nat) (cs:zb) (x:DataW H×List MemPlace) (hQ:∀n,n<=Rows.uptoBulk x.1->Q n)
  (he:∀(q:Nat) (us:zb) (y:DataW H×List MemPlace),(∀n,n<=Rows.uptoBulk y.1->Q n)->DataW.trod enc P W 0 (λ_=>true) true q e us=some y->∃z,A.rd (λ_=>False) W us z/\D z)
  (h:DataW.trod enc P W 0 (λ_=>true) true q t cs=some x):
  ∃(u:jU) (zs:List α),cs=[sl u]/\bT A (λ_=>False) W (sl u) zs/\(zs.length<=9223372036854775807/\Q zs.length)/\∀z∈zs,D z:=by
 rcases DataW.trod_slice ht h with ⟨p,_⟩|⟨a,len,cap,c,rest,m,rfl,p,hx,_,hlc,C,F,K,T,_⟩
 .exact ⟨(none,0,0),[],p,bT.nil,⟨by simp,hQ _ (pA _)⟩,by simp⟩
 .obtain ⟨hrl,B⟩:=T rfl;rw [hA] at K B;have C:cap<=9223372036854775807:=C;have hb:Rows.uptoBulk x.1=Rows.uptoBulkAll (c.map (·.1))+Rows.uptoBulkAll (rest.map (·.1))+1:=by rw [hx];simp only [Rows.uptoBulk]
  have hlb:len<=Rows.uptoBulk x.1:=by have:=Qa (c.map (·.1));simp only [mE] at this;omega
  have V:∀y∈c,∀n,n<=Rows.uptoBulk y.1->Q n:=λy o n hn=>hQ n (by have:=B7 (d:=y.1) (l:=c.map (·.1)) (List.mem_map.2 ⟨y,o,rfl⟩);omega)
  have cell:∀i,i<cap->∃us y,us.length=A.n/\(∀j,j<A.n->W.cell? ((a.add (i*A.n)).add j)=us[j]?)/\DataW.trod enc P W 0 (λ_=>true) true m e us=some y/\(i<len->c[i]? =some y):=λi hi=>by
   by_cases I:i<len
   .obtain ⟨y,o⟩:∃y,c[i]? =some y:=⟨c[i]'(by omega),b9 _⟩;have:=K i I;rw [o,q6] at this;obtain ⟨us,O,Z⟩:=this;obtain ⟨_,p,s⟩:=World.cells?_some O;exact ⟨us,y,p,s,Z,λ_=>o⟩
   .obtain ⟨y,o⟩:∃y,rest[i-len]? =some y:=⟨rest[i-len]'(by omega),b9 _⟩;have:=B (i-len) (by omega);rw [o,q6,show len+(i-len)=i by omega] at this;obtain ⟨us,O,Z⟩:=this;obtain ⟨_,p,s⟩:=World.cells?_some O;exact ⟨us,y,p,s,Z,λh=>absurd h I⟩
  by_cases L:cap=0
  .subst L;obtain rfl:len=0:=by omega
   exact ⟨(some a,0,0),[],p,bT.emp,⟨by simp,hQ _ (pA _)⟩,by simp⟩
  .obtain ⟨us0,_,hl0,U,_⟩:=cell 0 (by omega);have N:=U 0 hn;rw [b9 (by omega)] at N;obtain ⟨hs,g,e',fr,M,_⟩:=amd N;have w:a.spot=none:=by simpa [Addr.add] using hs
   have k:W.heap[a.block]? =some (.cells g e' fr):=by simpa [Addr.add] using M
   obtain ⟨b,f,sp⟩:=a;simp only at w k;subst w;have at_:∀i j,((⟨b,f,none⟩:Addr).add (i*A.n)).add j=⟨b,f+i*A.n+j,none⟩:=λi j=>by unfold Addr.add;split <;> split <;> simp_all
   have r:∀i,i<cap->∃us y,us.length=A.n/\(∀j,j<A.n->g[f+i*A.n+j]? =us[j]?)/\DataW.trod enc P W 0 (λ_=>true) true m e us=some y/\(i<len->c[i]? =some y):=λi hi=>by obtain ⟨us,y,p,s,Y,X⟩:=cell i hi;refine ⟨us,y,p,λj G=>?_,Y,X⟩;have:=s j G;rw [at_] at this;simpa [World.cell?,k] using this
   have v:f+cap*A.n<=g.size:=by
    obtain ⟨us,_,p,s,_⟩:=r (cap-1) (by omega);have:=s (A.n-1) (by omega);rw [b9 (by omega)] at this;have:=(Array.getElem?_eq_some_iff.1 this).1;have e1:cap*A.n=(cap-1)*A.n+A.n:=by
     have:cap=(cap-1)+1:=by omega
     conv=>lhs;rw [this]
     rw [qq,Nat.one_mul]
    omega
   have J:∀i y,c[i]? =some y->∃z,(A.rd (λ_=>False) W (((g.toList.drop f).drop (i*A.n)).take A.n) z/\D z):=λi y o=>by
    have hi:i<len:=by rw [<-F];exact (List.getElem?_eq_some_iff.1 o).1
    obtain ⟨us,R,p,s,Y,X⟩:=r i (by omega);obtain rfl:R=y:=by have:=X hi;rw [o] at this;exact (gr this).symm
    have S:((g.toList.drop f).drop (i*A.n)).take A.n=us:=by
     apply mi;intro j;by_cases G:j<A.n
     .rw [qj,du G,qw,qw,<-s j G];simp [q8]
     .rw [qj,dk G,l7 (by omega)]
    rw [S];exact he m us R (V R (fj o)) Y
   obtain ⟨l,hll,hR⟩:=PQ (λi y z=>A.rd (λ_=>False) W (((g.toList.drop f).drop (i*A.n)).take A.n) z/\D z) c J;have E:l.length=len:=by omega
   have get:∀i (hi:i<l.length),A.rd (λ_=>False) W (((g.toList.drop f).drop (i*A.n)).take A.n) l[i]/\D l[i]:=λi hi=>by obtain ⟨y,o⟩:∃y,c[i]? =some y:=⟨c[i]'(by omega),b9 _⟩;exact hR i y l[i] o (b9 _)
   refine ⟨(some ⟨b,f,none⟩,len,cap),l,p,.inr ⟨b,f,cap,g,e',fr,by rw [E];rfl,(λh=>h),k,by omega,v,?_⟩,⟨by omega,hQ _ (by omega)⟩,λz hz=>?_⟩
   .have hle:l.length*A.n<=cap*A.n:=hU _ (by omega);refine ⟨?_,λi hi=>?_⟩
    .simp only [dq,iQ,fb];omega
    .have O:i*A.n+A.n<=l.length*A.n:=by rw [<-qL];exact hU _ hi
     rw [qy,qH,hV (by omega)];exact (get i hi).1
   .obtain ⟨i,hi,rfl⟩:=qR hz;exact (get i hi).2
theorem adk{H:Type}{enc:TypeId×Value->H}{P:Program}:∀(n:Nat) (i:TypeId) (t:Ty),fits P n i t=true->∀(o:Nat) (cs:zb) (x:DataW H×List MemPlace),
  (∀n,n<=Rows.uptoBulk x.1->Q n)->DataW.trod enc P W 0 (λ_=>true) true o i cs=some x->∃z:t.T,t.rep.rd (λ_=>False) W cs z/\LJ Q t z:=by
 intro n
 induction n with
 |zero=>intro i t h;cases h
 |succ n ih=>
 intro i t c o cs x hQ h;unfold fits at c;split at c
 .rename_i k v;split at c
  .obtain ⟨z,q,_,w⟩:=DataW.trod_int v h;have e:=qB c;subst e;exact ⟨z,q,w⟩
  .cases c
 .rename_i v;split at c
  .obtain ⟨z,q,_⟩:=DataW.trod_bool v h;exact ⟨z,q,trivial⟩
  .cases c
 .rename_i v;split at c
  .obtain ⟨⟨⟨z⟩⟩,q,_,w⟩:=DataW.trod_string v h;exact ⟨z,q,w⟩
  .cases c
 .rename_i e v;split at c
  next u=>simp only [au,n4,j0] at c;obtain ⟨⟨q,G⟩,w⟩:=c;obtain ⟨p,zs,a1,a2,Z,Y⟩:=ajT (A:=u.rep) (Q:=Q) (D:=LJ Q u) v q G o cs x hQ (λo us y K h=>ih e u w o us y K h) h;exact ⟨zs,⟨p,a1,a2⟩,Z,Y⟩
  .cases c
 .rename_i C v;have key:∀t:Ty,DH P (fits P n) (P.cellsOf i) C.toList 0 t=true->∃z:t.T,t.rep.rd (λ_=>False) W cs z/\LJ Q t z:=λt c=>by
   obtain ⟨xs,m,_,hx,hl,L,O⟩:=DataW.trod_struct v h;have hb:Rows.uptoBulk x.1=Rows.uptoBulkAll (xs.map (·.1))+1:=by rw [hx];simp only [Rows.uptoBulk]
   have R:∀y∈xs,∀n,n<=Rows.uptoBulk y.1->Q n:=λy K n hn=>hQ n (by have:=B7 (d:=y.1) (l:=xs.map (·.1)) (List.mem_map.2 ⟨y,K,rfl⟩);omega)
   have one:∀(j:Nat) (f:Field) (t:Ty),C.toList[j]? =some f->fits P n f.type t=true->∃z:t.T,t.rep.rd (λ_=>False) W ((cs.drop f.offset).take (P.cellsOf f.type)) z/\LJ Q t z:=λj f t I ht=>by
    have F:C[j]? =some f:=by simpa using I
    have q:=O j f F;have N:j<xs.length:=by rw [L];exact (Array.getElem?_eq_some_iff.1 F).1
    rw [b9 N] at q;exact ih f.type t ht m _ _ (R _ (c9 _)) q
   have go:∀(r:List Field) (j s:Nat) (t:Ty),C.toList.drop j=r->DH P (fits P n) (P.cellsOf i) r s t=true->∃z:t.T,t.rep.rd (λ_=>False) W (cs.drop s) z/\LJ Q t z:=λr=>by
    induction r with
    |nil=>intro j s t _ h;cases h
    |cons f r J=>
     intro j s t U c;have I:C.toList[j]? =some f:=by have:=congrArg (·[0]?) U;simpa [qw] using this
     have M:C.toList.drop (j+1)=r:=by rw [<-qz,U];rfl
     cases r with
     |nil=>
      simp only [DH,au,n4] at c;obtain ⟨⟨⟨q,G⟩,w⟩,S⟩:=c;obtain ⟨z,B,E⟩:=one j f t I S;rw [q,fa (by simp;omega)] at B;exact ⟨z,B,E⟩
     |cons g r=>
      unfold DH at c;split at c
      next a b=>simp only [au,n4] at c;obtain ⟨⟨⟨q,G⟩,w⟩,S⟩:=c;obtain ⟨z,B,E⟩:=one j f a I w;obtain ⟨y,X,V⟩:=J (j+1) _ b M S;rw [q] at B;refine ⟨(z,y),⟨_,_,?_,B,X⟩,E,V⟩;rw [<-qz];exact (qv ..).symm
      .cases c
   obtain ⟨z,B,E⟩:=go C.toList 0 0 t rfl c;exact ⟨z,by simpa using B,E⟩
  split at c
  .obtain ⟨e,q,G⟩:=ah1 (ase c) o cs x h;exact ⟨e,q,hQ _ G⟩
  .exact key _ c
  .cases c
 .cases c
def oz(W:World)(I:ga):Prop:= ∀it∈I,it.1=false/\it.2.cP=true/\∀M,Mv (λ_=>False) W M W->it.2.P M W
theorem oz.nil:oz W []:=λit h=>by cases h
theorem oz.app{I J:ga}(h:oz W I)(k:oz W J):oz W (I++J):=λit bJ=>by
 rcases List.mem_append.1 bJ with a|a
 .exact h it a
 .exact k it a
theorem oz.one{A:fm α}{p:jU}{l:List α}(h:bT A (λ_=>False) W (sl p) l):oz W [(false,MB true A p l false)]:=λit bJ=>by
 rcases List.mem_singleton.1 bJ with rfl
 exact ⟨rfl,rfl,λM hm _=>⟨h.mv hm,λh=>by cases h⟩⟩
theorem JM{W:World}:∀(t:Ty) (cs:zb) (x:t.T),Xe t=true->t.rep.rd (λ_=>False) W cs x->∀(o:wb) (N:List Nm),∃I N',R5 t x cs (wh t++o) N I N' o/\oz W I
 | .i k,cs,x,hn,h,o,N=>⟨[],N,⟨h,rfl,rfl,rfl⟩,.nil⟩
 | .bo,cs,x,hn,h,o,N=>⟨[],N,⟨h,rfl,rfl,rfl⟩,.nil⟩
 | .s,cs,x,hn,h,o,N=>⟨[],N,⟨h,rfl,rfl,rfl⟩,.nil⟩
 | .un,cs,x,hn,h,o,N=>⟨[],N,⟨h,rfl,rfl,rfl⟩,.nil⟩
 | .n,cs,x,hn,h,o,N=>by cases hn
 | .mp _ _,cs,x,hn,h,o,N=>absurd h id
 | .p a b,cs,x,hn,h,o,N=>by
  simp only [Xe,au] at hn;obtain ⟨c1,e,d,c,r⟩:=h;obtain ⟨j,f,q,v⟩:=JM a c1 x.1 hn.1 c (wh b++o) N;obtain ⟨g,N2,m,u⟩:=JM b e x.2 hn.2 r o f;refine ⟨j++g,N2,⟨c1,e,f,j,g,wh b++o,?_,m,d,rfl⟩,v.app u⟩;rw [show wh (.p a b)++o=wh a++(wh b++o) by simp [wh]];exact q
 | .l t,cs,x,hn,h,o,N=>by
  obtain ⟨p,d,c⟩:=h;exact ⟨_,_,⟨⟨0,p,⟨0,0,none⟩,none,.bool false,⟨.un,()⟩⟩,d,rfl,.inl ⟨rfl,rfl⟩⟩,.one c⟩
 | .ex,cs,x,hn,h,o,N=>by obtain ⟨p,d,c⟩:=KW h;exact ⟨_,_,⟨⟨0,p,⟨0,0,none⟩,none,.bool false,⟨.un,()⟩⟩,d,rfl,.inl ⟨rfl,rfl⟩⟩,.one c⟩
def Arg(W:World)(t:Ty)(v:Value)(z:t.T):Prop:= ∀N:List Nm,∃I N',Sem (asx t) v none none N [⟨t,z⟩] I [] N'/\oz W I
theorem adC{H:Type}{enc:TypeId×Value->H}{P:Program}{o:Nat}{n:Nat}{i:TypeId}(t:Ty)(f:fits P n i t=true){v:Value}{d:DataW H}{ps:List MemPlace}
  (l:Value.okWide P W .any o i v) (hQ:∀n,n<=Rows.uptoBulk d->Q n) (h:DataW.Trod enc P W 0 (λ_=>true) true i v d ps):∃z:t.T,Arg W t v z/\LJ Q t z:=by
 have hk:=h;obtain ⟨m,hx⟩:=h;obtain ⟨z,c,w⟩:=adk n i t f m _ _ hQ hx;refine ⟨z,?_,w⟩;cases n with
 |zero=>cases f
 |succ n=>
 unfold fits at f;split at f
 .rename_i k j;split at f
  .have e:=qB f;subst e;obtain ⟨y,rfl,_⟩:=open_int j l hk;have:y=z:=by
    have c:([.int k y]:zb)=[.int k z]:=c;injection c with c _
    injection c
   subst this;exact λN=>⟨[],N,⟨y,rfl,rfl,rfl,rfl,rfl⟩,.nil⟩
  .cases f
 .rename_i j;split at f
  .obtain ⟨y,rfl,_⟩:=open_bool j l hk;have:y=z:=by
    have c:([.bool y]:zb)=[.bool z]:=c;injection c with c _
    injection c
   subst this;exact λN=>⟨[],N,⟨y,rfl,rfl,rfl,rfl,rfl⟩,.nil⟩
  .cases f
 .rename_i j;split at f
  .obtain ⟨⟨⟨y⟩⟩,rfl,_⟩:=open_string j l hk;have:y=z:=by
    have c:([S y]:zb)=[S z]:=c;injection c with c _
    injection c with c
    injection c with c
    injection c
   subst this;exact λN=>⟨[],N,⟨y,rfl,rfl,rfl,rfl,rfl⟩,.nil⟩
  .cases f
 .rename_i e j;split at f
  .rename_i u;obtain ⟨a,len,cap,rfl⟩:=okWide_slice j l;obtain ⟨p,r,q⟩:=c;have x:Value.slice a len cap=sl p:=by simpa [Value.cells] using r
   rw [x];exact λN=>⟨_,_,⟨⟨0,p,⟨0,0,none⟩,none,.bool false,⟨.un,()⟩⟩,z,rfl,rfl,rfl,rfl,rfl⟩,.one q⟩
  .cases f
 .rename_i B j;obtain ⟨cs,rfl,_,_⟩:=ar9 j l;split at f
  .obtain ⟨p,r,q⟩:=KW c;exact λN=>⟨_,_,⟨cs.toList,z,[],by simp,rfl,⟨⟨0,p,⟨0,0,none⟩,none,.bool false,⟨.un,()⟩⟩,r,rfl,.inl ⟨rfl,rfl⟩⟩,rfl⟩,.one q⟩
  .rename_i a b;exact λN=>by
    obtain ⟨I,A,s,g⟩:=JM (.p a b) _ z (Oa (λi t=>aa2 n i t) _ _ _ f) c [] N;exact ⟨I,A,⟨cs.toList,z,[],by simp,rfl,by simpa [Value.cells] using s,rfl⟩,g⟩
  .cases f
 .cases f
def anh(W:World)(ps:List Pt)(vs:zb)(D:List cq):Prop:= ∀N:List Nm,∃I N',yX ps vs [] [] N D I [] N'/\oz W I
theorem amE:anh W [] [] []:=λN=>⟨[],N,⟨rfl,rfl,rfl,rfl,rfl⟩,.nil⟩
theorem aie{W:World}{t:Ty}{v:Value}{z:t.T}{ps:List Pt}{vs:zb}{D:List cq}(h:Arg W t v z)(k:anh W ps vs D):anh W (asx t::ps) (v::vs) (⟨t,z⟩::D):=λN=>by obtain ⟨c,a,e,g⟩:=h N;obtain ⟨b,N2,d,f⟩:=k a;exact ⟨c++b,N2,⟨v,vs,[⟨t,z⟩],D,c,b,[],[],a,rfl,e,d,rfl,rfl,rfl⟩,g.app f⟩
theorem anz{I:ga}{Γ:Ctx}(g:oz W I)(hn:Xi Γ)(h:Sat Γ W):Sat (dG I++Γ) W:=EY h _ (λit bJ=>by obtain ⟨x,hx,rfl⟩:=List.mem_map.1 bJ;exact ⟨(g x hx).2.1,(g x hx).2.2 _ (amP hn)⟩)
namespace Ns
theorem as1{a:Au}(h:LJ (λn=>n<=1048576) (.p (.l (.l .ex)) (.p (.l (.l (.i .i64))) (.p (.l (.i .i64)) (.l (.l (.i .i64)))))) a):Qp a:=
 ⟨h.1.1.2,λl hl=>⟨(h.1.2 l hl).1.2,λe b=>(h.1.2 l hl).2 e b⟩,h.2.1.1.2,λl hl=>(h.2.1.2 l hl).1.2,h.2.2.1.1.2,h.2.2.2.1.2,λl hl=>(h.2.2.2.2 l hl).1.2⟩
theorem ahd{x:Int}(h:(Lit.int .u8 x).wf=true):0<=x/\x<=255:=by simp only [Lit.wf,au,eT] at h;exact h
theorem ar4(w:aE×Au×Int×Int×Int×Int)(h:LJ (λn=>n<=1048576) (.p .s (.p (.p (.l (.l .ex)) (.p (.l (.l (.i .i64))) (.p (.l (.i .i64)) (.l (.l (.i .i64)))))) (.p (.i .u8) (.p (.i .u8) (.p (.i .u8) (.i .u8)))))) w):kJ w=some true:=
 ai1 w (as1 h.2.1) (ahd h.2.2.1) (ahd h.2.2.2.1) (ahd h.2.2.2.2.1) (ahd h.2.2.2.2.2)
end Ns
end
end Go.Proofs.YtcgihjbfppkcfaaGreatDoor
