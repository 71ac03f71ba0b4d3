/- Own texts for NestAlwaysQ, cut and joined by a program. -/
import Derived.Test.YtcgihjbfppkcfaaGreatDoorNestAlwaysQJ
import Derived.Lib.LaidTab
import Derived.Below
import Derived.ProofKit
import Derived.Test.YtcgihjbfppkcfaaGreatDoorRows
import Derived.Carry
import Derived.ChangeSlices
import Derived.OpenShut
set_option linter.all false
namespace Go.Proofs.YtcgihjbfppkcfaaGreatDoor
open IntKind (i64)
noncomputable section
namespace Ns
abbrev V:=zn
abbrev ki:=List (V×List V)
abbrev bn:=Sy.bn
abbrev Au:=Pd.Au
abbrev St:=So.St
abbrev FT:=Int×yx×Int×Int×x3×zn×zn×(List (Int×x3×zn))×Int×x3×zn×zn×(List (Int×x3×zn))×zn×Int×(List (yx×Int))×Int×Int×zn×Int×(List (yx×Int))×Int×Int×zn×Int×(List (yx×Int))×Int×Int×zn×Int×Int×Int×zn×zn×zn
abbrev fl(t:St):FT:=(t.1,t.2.1,t.2.2.1,t.2.2.2.1.1.1,t.2.2.2.1.1.2.1,t.2.2.2.1.1.2.2,t.2.2.2.1.2,t.2.2.2.2.1.1,t.2.2.2.2.1.2.1.1,t.2.2.2.2.1.2.1.2.1,t.2.2.2.2.1.2.1.2.2,t.2.2.2.2.1.2.2,t.2.2.2.2.2.1.1,t.2.2.2.2.2.1.2,t.2.2.2.2.2.2.1.1.1,t.2.2.2.2.2.2.1.1.2.1,t.2.2.2.2.2.2.1.1.2.2.1,t.2.2.2.2.2.2.1.1.2.2.2.1,t.2.2.2.2.2.2.1.1.2.2.2.2,t.2.2.2.2.2.2.1.2.1.1,t.2.2.2.2.2.2.1.2.1.2.1,t.2.2.2.2.2.2.1.2.1.2.2.1,t.2.2.2.2.2.2.1.2.1.2.2.2.1,t.2.2.2.2.2.2.1.2.1.2.2.2.2,t.2.2.2.2.2.2.1.2.2.1,t.2.2.2.2.2.2.1.2.2.2.1,t.2.2.2.2.2.2.1.2.2.2.2.1,t.2.2.2.2.2.2.1.2.2.2.2.2.1,t.2.2.2.2.2.2.1.2.2.2.2.2.2,t.2.2.2.2.2.2.2.1,t.2.2.2.2.2.2.2.2.1,t.2.2.2.2.2.2.2.2.2.1,t.2.2.2.2.2.2.2.2.2.2.1,t.2.2.2.2.2.2.2.2.2.2.2.1,t.2.2.2.2.2.2.2.2.2.2.2.2)
abbrev Er:=(Int×V) ⊕ (List V×List V)
section
variable {β : Type} (x : V) (s : ki) (m : bn) (a : Au) (t : St) (k : Int)
abbrev Gm(f:Int->yx->Int->Int->x3->zn->zn->List (Int×x3×zn)->Int->x3->zn->zn->List (Int×x3×zn)->zn->Int->List (yx×Int)->Int->Int->zn->Int->List (yx×Int)->Int->Int->zn->Int->List (yx×Int)->Int->Int->zn->Int->Int->Int->zn->zn->zn->β):β:=f t.1 t.2.1 t.2.2.1 t.2.2.2.1.1.1 t.2.2.2.1.1.2.1 t.2.2.2.1.1.2.2 t.2.2.2.1.2 t.2.2.2.2.1.1 t.2.2.2.2.1.2.1.1 t.2.2.2.2.1.2.1.2.1 t.2.2.2.2.1.2.1.2.2 t.2.2.2.2.1.2.2 t.2.2.2.2.2.1.1 t.2.2.2.2.2.1.2 t.2.2.2.2.2.2.1.1.1 t.2.2.2.2.2.2.1.1.2.1 t.2.2.2.2.2.2.1.1.2.2.1 t.2.2.2.2.2.2.1.1.2.2.2.1 t.2.2.2.2.2.2.1.1.2.2.2.2 t.2.2.2.2.2.2.1.2.1.1 t.2.2.2.2.2.2.1.2.1.2.1 t.2.2.2.2.2.2.1.2.1.2.2.1 t.2.2.2.2.2.2.1.2.1.2.2.2.1 t.2.2.2.2.2.2.1.2.1.2.2.2.2 t.2.2.2.2.2.2.1.2.2.1 t.2.2.2.2.2.2.1.2.2.2.1 t.2.2.2.2.2.2.1.2.2.2.2.1 t.2.2.2.2.2.2.1.2.2.2.2.2.1 t.2.2.2.2.2.2.1.2.2.2.2.2.2 t.2.2.2.2.2.2.2.1 t.2.2.2.2.2.2.2.2.1 t.2.2.2.2.2.2.2.2.2.1 t.2.2.2.2.2.2.2.2.2.2.1 t.2.2.2.2.2.2.2.2.2.2.2.1 t.2.2.2.2.2.2.2.2.2.2.2.2
abbrev rW(f:List aE->yx->zn->List aE->List (Int×Ex×List (Int×Ex))->List (List Ex)->x3->zn->x3->β):β:=f m.1 m.2.1 m.2.2.1 m.2.2.2.1 m.2.2.2.2 a.1 a.2.1 a.2.2.1 a.2.2.2
end
noncomputable section
variable (x : V) (s : ki) (m : bn) (a : Au) (t : St) (k : Int)
abbrev F7:=Gm t (rW m a (jh x)) k
abbrev Se:=Gm t (rW m a (oF x)) k
abbrev vN:=Gm t (rW m a (fq s x)) k
abbrev KU:=Gm t (rW m a (mO x)) k
abbrev Iy:=Gm t (rW m a (lq s)) k
abbrev ahh:=Gm t (rW m a (vC x)) k
abbrev Un:=Gm t (rW m a oC) k
abbrev o6:=rW m a j3 k
abbrev AG:=rW m a mJ k
abbrev H9:=rW m a lv k
end
def wH(t:St)(x:V):Option (Except (Int×V) (Bool×St)):=(dz t x).bind λr=>bif (r.2.2 != 0) then some (.error (r.2.2,[])) else some (.ok (r.2.1,r.1))
def Qz(t:St)(x:V):Option (Except (Int×V) (Bool×St)):=Bz (wH t x) λr=>(eK r.2 x 1).bind λg=>bif g.1 then some (.ok (false,r.2)) else (gK r.2 x 1).bind λs=>some (.ok (true,s.1))
abbrev No{E A B:Type}(f:A->B)(x:Option (Except E A)):Option (Except E B):=x.map λr=>match r with
 | .error e=> .error e
 | .ok v=> .ok (f v)
theorem OM(x:V)(m:bn)(a:Au)(t:St)(most:Int):F7 x m a t most=No (λr:Bool×St=>(r.1,r.2.1,r.2.2.1,r.2.2.2.1,r.2.2.2.2.1.1.1,r.2.2.2.2.1.1.2.1,r.2.2.2.2.1.1.2.2,r.2.2.2.2.1.2,r.2.2.2.2.2.1.1,r.2.2.2.2.2.1.2.1.1,r.2.2.2.2.2.1.2.1.2.1,r.2.2.2.2.2.1.2.1.2.2,r.2.2.2.2.2.1.2.2,r.2.2.2.2.2.2.1.1,r.2.2.2.2.2.2.1.2,r.2.2.2.2.2.2.2.1.1.1,r.2.2.2.2.2.2.2.1.1.2.1,r.2.2.2.2.2.2.2.1.1.2.2.1,r.2.2.2.2.2.2.2.1.1.2.2.2.1,r.2.2.2.2.2.2.2.1.1.2.2.2.2,r.2.2.2.2.2.2.2.1.2.1.1,r.2.2.2.2.2.2.2.1.2.1.2.1,r.2.2.2.2.2.2.2.1.2.1.2.2.1,r.2.2.2.2.2.2.2.1.2.1.2.2.2.1,r.2.2.2.2.2.2.2.1.2.1.2.2.2.2,r.2.2.2.2.2.2.2.1.2.2.1,r.2.2.2.2.2.2.2.1.2.2.2.1,r.2.2.2.2.2.2.2.1.2.2.2.2.1,r.2.2.2.2.2.2.2.1.2.2.2.2.2.1,r.2.2.2.2.2.2.2.1.2.2.2.2.2.2,r.2.2.2.2.2.2.2.2.1,r.2.2.2.2.2.2.2.2.2.1,r.2.2.2.2.2.2.2.2.2.2.1,r.2.2.2.2.2.2.2.2.2.2.2.1,r.2.2.2.2.2.2.2.2.2.2.2.2.1,r.2.2.2.2.2.2.2.2.2.2.2.2.2)) (wH t x):=by
 unfold F7 Gm rW jh wH;cases dz t x with
 |none=>rfl
 |some r=>
  obtain ⟨t',b,e⟩:=r;simp;cases e != 0 <;> rfl
theorem ak4(x:V)(m:bn)(a:Au)(t:St)(most:Int):Se x m a t most=No (λr:Bool×St=>(r.1,r.2.1,r.2.2.1,r.2.2.2.1,r.2.2.2.2.1.1.1,r.2.2.2.2.1.1.2.1,r.2.2.2.2.1.1.2.2,r.2.2.2.2.1.2,r.2.2.2.2.2.1.1,r.2.2.2.2.2.1.2.1.1,r.2.2.2.2.2.1.2.1.2.1,r.2.2.2.2.2.1.2.1.2.2,r.2.2.2.2.2.1.2.2,r.2.2.2.2.2.2.1.1,r.2.2.2.2.2.2.1.2,r.2.2.2.2.2.2.2.1.1.1,r.2.2.2.2.2.2.2.1.1.2.1,r.2.2.2.2.2.2.2.1.1.2.2.1,r.2.2.2.2.2.2.2.1.1.2.2.2.1,r.2.2.2.2.2.2.2.1.1.2.2.2.2,r.2.2.2.2.2.2.2.1.2.1.1,r.2.2.2.2.2.2.2.1.2.1.2.1,r.2.2.2.2.2.2.2.1.2.1.2.2.1,r.2.2.2.2.2.2.2.1.2.1.2.2.2.1,r.2.2.2.2.2.2.2.1.2.1.2.2.2.2,r.2.2.2.2.2.2.2.1.2.2.1,r.2.2.2.2.2.2.2.1.2.2.2.1,r.2.2.2.2.2.2.2.1.2.2.2.2.1,r.2.2.2.2.2.2.2.1.2.2.2.2.2.1,r.2.2.2.2.2.2.2.1.2.2.2.2.2.2,r.2.2.2.2.2.2.2.2.1,r.2.2.2.2.2.2.2.2.2.1,r.2.2.2.2.2.2.2.2.2.2.1,r.2.2.2.2.2.2.2.2.2.2.2.1,r.2.2.2.2.2.2.2.2.2.2.2.2.1,r.2.2.2.2.2.2.2.2.2.2.2.2.2)) (Qz t x):=by
 unfold Se Gm rW oF Qz;show Bz (F7 x m a t most) _=_;rw [OM];cases wH t x with
 |none=>rfl
 |some r=>
  cases r with
  |error e=>rfl
  |ok r=>
   obtain ⟨b,t'⟩:=r;show (eK t' x 1).bind _=No _ ((eK t' x 1).bind _);cases eK t' x 1 with
   |none=>rfl
   |some g=>
    simp;cases g.1 with
    |true=>rfl
    |false=>
     cases gK t' x 1 <;> rfl
def sb(m:bn)(a:Au)(most:Int)(n:Nat)(x:V):Except (Int×V) (List V):=
 if most<=(n:Int) then .error (8,[]) else if (Pd.bP m a x).2=0 then .ok (Pd.bP m a x).1 else .error ((Pd.bP m a x).2,x.dropLast)
theorem Mb{m:bn}(hm:Sp.SafeS m.2.1 m.2.2.2.2){a:Au}{k:Nat}(ha:Pd.sW a k){x:V}(hx:Pd.St m k x)(s:ki)(h:s.length<100000000)(t:St)(most:Int):
  vN x s m a t most=some (match sb m a most s.length x with
   | .error e=> .error e
   | .ok l=> .ok (s++[(x,l)])):=by
 unfold vN Gm rW fq sb;simp [So.aV];by_cases c:most<=(s.length)
 .grind
 .rw [df c,c9 c,ca];unfold uB;rw [show vJ (m.1,m.2.1,m.2.2.1,m.2.2.2.1,m.2.2.2.2) (a.1,a.2.1,a.2.2.1,a.2.2.2) x=some (Pd.bP m a x) from Pd.akx hm ha hx];show (ai _ _)=_;simp only [So.aV];by_cases b:(Pd.bP m a x).2=0
  .grind [uE,Pd.bP,Sy.aN,Sy.cO]
  .rw [df b,show ((Pd.bP m a x).2 != 0)=true by simpa using b,cp];obtain ⟨v,q,rfl,f,i⟩:=hx;have d:v.length<1000000:=by have c:=f.len;have b:=hm.dq;omega
   have g:i64.wrap ((List.length (v++[q]))-1)=(v.length):=by grind [bR]
   rw [g,show (v++[q]).length=v.length+1 by simp,Sy.aN (by rw [Pd.acS];simp)];simp [aT]
end Ns
namespace Ns
def wk(nw:St->V->Option (Except (Int×V) (Bool×St)))(se:V->ki->Option Er)(dn:St->ki->Option (Except Er St))(pu:Nat->V->Except (Int×V) (List V)):Nat->St->ki->Option (Except Er St)
 |0,_,_=>none
 |_+1,t,[]=>some (.ok t)
 |n+1,t,(x,[])::s=>(dn t ((x,[])::s)).bind λr=>match r with
  | .error e=>some (.error e)
  | .ok t'=>wk nw se dn pu n t' s
 |n+1,t,(x,y::ys)::s=>match se y ((x,ys)::s) with
  |some e=>some (.error e)
  |none=>(nw t y).bind λr=>match r with
   | .error e=>some (.error (.inl e))
   | .ok (false,t')=>wk nw se dn pu n t' ((x,ys)::s)
   | .ok (true,t')=>match pu (s.length+1) y with
    | .error e=>some (.error (.inl e))
    | .ok l=>wk nw se dn pu n t' ((y,l)::(x,ys)::s)
theorem NA(s:ki)(a:s.length<100000000):∀(r pre:ki),s=pre++r->∀M,r.length<M->ao (tM s) M (pre.map (·.1),(pre.length:Int))=some (s.map (·.1))
 |[],pre,h,M,hM=>by
  obtain ⟨m,rfl⟩:∃m,M=m+1:=⟨M-1,by omega⟩;simp_all [au,tM,c9]
 |f::r,pre,h,M,hM=>by
  obtain ⟨m,rfl⟩:∃m,M=m+1:=⟨M-1,by omega⟩;have hl:pre.length+r.length+1=s.length:=by rw [h];simp;omega
  have ih:=NA s a r (pre++[f]) (by rw [h];simp) m (by simp at hM;omega);rw [au];unfold tM;dsimp only;rw [cy (by omega),cp,Sy.jv h,So.ah,Sy.aN (Sy.cO (by simp;omega) (by simp;omega)),Pa.cz (by omega)];have c:pre.map (·.1)++[f.1]=(pre++[f]).map (·.1):=by simp
  have b:((pre.length+1:Nat))=((pre++[f]).length):=by simp
  rw [c,b];exact ih
theorem afQ(s:ki)(a:s.length<100000000):y8 s=some (s.map (·.1)):=NA s a s [] rfl ax (by show s.length<2^64;omega)
theorem QF(a b:V)(hl:a.length=b.length)(ha:a.length<100000000):∀(r pre s ps:V),a=pre++r->b=ps++s->ps.length=pre.length->∀M,r.length<M->ao (gm a b) M (pre.length:Int)=some (decide (r=s))
 |[],pre,s,ps,h,h',hp,M,hM=>by
  obtain ⟨m,rfl⟩:∃m,M=m+1:=⟨M-1,by omega⟩;simp_all [au,gm,c9]
 |x::r,pre,s,ps,h,h',hp,M,hM=>by
  obtain ⟨m,rfl⟩:∃m,M=m+1:=⟨M-1,by omega⟩;have d:pre.length+r.length+1=a.length:=by rw [h];simp;omega
  match s,h' with
  |[],h'=>
   grind
  |y::s,h'=>
   have ih:=QF a b hl ha r (pre++[x]) s (ps++[y]) (by rw [h];simp) (by rw [h'];simp) (by simp [hp]) m (by simp at hM;omega);rw [show ((pre++[x]).length)=((pre.length+1:Nat)) by simp] at ih;rw [au];generalize ao (gm a b) m=k at ih ⊢;unfold gm;rw [cy (by omega),cp,Sy.jv h,So.ah,<-hp,Sy.jv h',So.ah,hp,Pa.cz (by omega)];by_cases c:x=y
   .subst c;simp only [bne_self_eq_false,ca,ih,qa,true_and]
   .rw [show (x != y)=true by simpa using c,cp,c9 (by simp [c])]
theorem I8(a b:V)(ha:a.length<100000000):lu a b=some (decide (a=b)):=by
 unfold lu;by_cases h:a.length=b.length
 .rw [show ((List.length a:Int) != (List.length b))=false by rw [h];simp,ca];exact QF a b h ha a [] b [] rfl rfl rfl ax (by show a.length<2^64;omega)
 .rw [show ((List.length a:Int) != (List.length b))=true by simp;omega,cp,c9 (λe=>h (by rw [e]))]
theorem BB(l:V)(q:Int)(hl:l.length<100000000):∀(r pre:V),l=pre++r->∀M,r.length<M->∃j,ao (gB l q) M (pre.length:Int)=some j/\(0<=j↔q∈r)
 |[],pre,h,M,hM=>by
  obtain ⟨m,rfl⟩:∃m,M=m+1:=⟨M-1,by omega⟩;rw [au];unfold gB;simp_all
 |x::r,pre,h,M,hM=>by
  obtain ⟨m,rfl⟩:∃m,M=m+1:=⟨M-1,by omega⟩;have a:pre.length+r.length+1=l.length:=by rw [h];simp;omega
  obtain ⟨j,b,c⟩:=BB l q hl r (pre++[x]) (by rw [h];simp) m (by simp at hM;omega);rw [au];generalize ao (gB l q) m=k at b ⊢;unfold gB;rw [cy (by omega),cp,Sy.jv h,So.ah,Pa.cz (by omega)];grind
def aew(a:Au):V:=(a.2.2.2[0]?).getD []
def meet(a:Au)(x:V):Bool:=decide (x.getLastD 0∈aew a)
theorem ak9{a:Au}{A:V}{r:List V}(h:a.2.2.2=A::r)(c:A.length<100000000){v:V}{q:Int}(b:v.length<1000000):wK a (v++[q])=some (meet a (v++[q])):=by unfold wK;rw [Pd.YS b,So.ah,h,show idx (A::r) 0=some A from rfl,So.ah];unfold mT pV;obtain ⟨j,e,d⟩:=BB A q c A [] rfl ax (by show A.length<2^64;omega);grind [meet,aew]
theorem back_eq(s:ki)(y seed:V)(o:ki)(a:y.length<100000000)(c:s.length<100000000)(d:o.length<100000000)(b:o≠[]):
  jE s y seed o=some (if y=seed then .error (o.dropLast.map (·.1),s.map (·.1)) else .ok ()):=by
 unfold jE;rw [I8 y seed a,So.ah];by_cases h:y=seed
 .have hl:1<=o.length:=by grind
  have e:i64.wrap ((List.length o)-1)=((o.length-1:Nat)):=by grind [bR]
  grind [aT,List.dropLast_eq_take,Sy.aN,cR,List.length,afQ,So.ah]
 grind
abbrev stS(t:St)(s:ki):=(t.1,t.2.1,t.2.2.1,t.2.2.2.1.1.1,t.2.2.2.1.1.2.1,t.2.2.2.1.1.2.2,t.2.2.2.1.2,t.2.2.2.2.1.1,t.2.2.2.2.1.2.1.1,t.2.2.2.2.1.2.1.2.1,t.2.2.2.2.1.2.1.2.2,t.2.2.2.2.1.2.2,t.2.2.2.2.2.1.1,t.2.2.2.2.2.1.2,t.2.2.2.2.2.2.1.1.1,t.2.2.2.2.2.2.1.1.2.1,t.2.2.2.2.2.2.1.1.2.2.1,t.2.2.2.2.2.2.1.1.2.2.2.1,t.2.2.2.2.2.2.1.1.2.2.2.2,t.2.2.2.2.2.2.1.2.1.1,t.2.2.2.2.2.2.1.2.1.2.1,t.2.2.2.2.2.2.1.2.1.2.2.1,t.2.2.2.2.2.2.1.2.1.2.2.2.1,t.2.2.2.2.2.2.1.2.1.2.2.2.2,t.2.2.2.2.2.2.1.2.2.1,t.2.2.2.2.2.2.1.2.2.2.1,t.2.2.2.2.2.2.1.2.2.2.2.1,t.2.2.2.2.2.2.1.2.2.2.2.2.1,t.2.2.2.2.2.2.1.2.2.2.2.2.2,t.2.2.2.2.2.2.2.1,t.2.2.2.2.2.2.2.2.1,t.2.2.2.2.2.2.2.2.2.1,t.2.2.2.2.2.2.2.2.2.2.1,t.2.2.2.2.2.2.2.2.2.2.2.1,t.2.2.2.2.2.2.2.2.2.2.2.2,s)
def acR(m:bn)(k:Nat)(s:ki):Prop:= ∀f∈s,∀y∈f.2,Pd.St m k y
def seI(seed:V)(o:ki)(y:V)(s:ki):Option Er:=if y=seed then some (.inr (o.dropLast.map (·.1),s.reverse.map (·.1))) else none
abbrev wkI(m:bn)(a:Au)(most:Int)(seed:V)(o:ki):=wk Qz (seI seed o) (λt _=>some (.ok t)) (sb m a most)
theorem H2{m:bn}{a:Au}{k:Nat}(ha:Pd.sW a k){most:Int}{n:Nat}{x:V}(hx:Pd.St m k x){l:List V}(h:sb m a most n x= .ok l):∀y∈l,Pd.St m k y:=by grind [sb,Pd.akI]
theorem acw{m:bn}{a:Au}{most:Int}{n:Nat}{x:V}{l:List V}(h:sb m a most n x= .ok l):(n:Int)<most:=by grind [sb]
theorem lL(s:ki)(f:V×List V):(f::s).reverse=s.reverse++[f]:=List.reverse_cons
theorem Hj(s:ki)(f:V×List V)(a:s.length<100000000):i64.wrap ((List.length (s.reverse++[f]):Int)-1)=(s.reverse.length:Int):=by grind [bR]
theorem H4{m:bn}(hm:Sp.SafeS m.2.1 m.2.2.2.2){a:Au}{k:Nat}(ha:Pd.sW a k){most:Int}(c:most<=1048576)(seed:V){o:ki}(B:o.length<100000000)(h:o≠[]):
  ∀(n:Nat) (t:St) (s:ki),s.length<=1048576->acR m k s->ao (o6 m a most seed o) n (stS t s.reverse)=No fl (wkI m a most seed o n t s)
 |0,_,_,_,_=>rfl
 |n+1,t,[],hs,hn=>by
  rw [au];generalize ao _ n=d;rfl
 |n+1,t,(x,[])::s,hs,hn=>by
  have ih:=H4 hm ha c seed B h n t s (by simp at hs;omega) (λf i=>hn f (b7 _ i));rw [au];generalize ao (o6 m a most seed o) n=d at ih ⊢;unfold o6 rW j3;dsimp only;simp at hs;rw [lL,cy (by simp),cp,Hj _ _ (by omega),Sy.jv (pre:=s.reverse) (r:=[]) rfl,So.ah];simp only [qg,Int.ofNat_zero];rw [show ((0:Int)==0)=true from rfl,cp];show (some ()).bind _=_;rw [So.ah,Sy.aN (show cR 0 (s.reverse.length:Int) (List.length (s.reverse++[((x,[]):V×List V)]))=true by unfold cR;simp;omega),show aT (s.reverse++[((x,[]):V×List V)]) 0 (s.reverse.length:Int)=s.reverse by unfold aT;simp];exact ih
 |n+1,t,(x,y::ys)::s,hs,hn=>by
  have D:Pd.St m k y:=hn _ (cx ..) y (cx ..);have w:acR m k ((x,ys)::s):=λf i=>by
   rcases List.mem_cons.1 i with rfl|i
   .exact λz E=>hn _ (cx ..) z (b7 _ E)
   .exact hn f (b7 _ i)
  have p:=λt'=>H4 hm ha c seed B h n t' ((x,ys)::s) (by simpa using hs) w;have j:=λt' l (hl:sb m a most (s.length+1) y= .ok l)=>H4 hm ha c seed B h n t' ((y,l)::(x,ys)::s) (by have:=acw hl;simp;omega) (λf i=>by
   rcases List.mem_cons.1 i with rfl|i
   .exact H2 ha D hl
   .exact w f i)
  rw [au];generalize ao (o6 m a most seed o) n=d at p j ⊢;unfold o6 rW j3;dsimp only;simp at hs;have u:List.set (s.reverse++[((x,y::ys):V×List V)]) (Int.toNat (s.reverse.length)) (x,ys)=s.reverse++[(x,ys)]:=by simp
  have C:y.length<100000000:=by obtain ⟨v,q,rfl,F,_⟩:=D;have:=F.len;have:=hm.dq;simp;omega
  rw [lL,cy (by simp),cp,Hj _ _ (by omega),Sy.jv rfl,So.ah];simp only [show (((y::ys).length:Int)==0)=false by simp;omega,ca,show idx (y::ys) 0=some y from rfl,So.ah];rw [Sy.aN (by unfold cR;simp;omega)];have A:aT (y::ys) 1 ((List.length (y::ys)))=ys:=by unfold aT;simp
  simp only [A,u];rw [back_eq _ y seed o C (by simp;omega) B h];unfold wkI wk;simp only [seI];by_cases g:y=seed
  .rw [du g,du g];show some _=some _;rw [lL]
  .rw [df g,df g];show fZ (Se y m a t most) _ _=_;rw [ak4];cases Qz t y with
   |none=>rfl
   |some r=>
    cases r with
    |error e=>rfl
    |ok r=>
     obtain ⟨b,t'⟩:=r;cases b with
     |false=>
      have:=p t';rw [lL] at this;exact this
     |true=>
      show fZ (vN y (s.reverse++[(x,ys)]) m a t' most) _ _=_;rw [Mb hm ha D _ (by simp;omega),show (s.reverse++[((x,ys))]).length=s.length+1 by simp];cases hp:sb m a most (s.length+1) y with
      |error e=>rfl
      |ok l=>
       have:=j t' l hp;rw [lL,lL] at this;exact this
end Ns
namespace Ns
def allI(m:bn)(a:Au)(most:Int)(x:V)(o:ki)(F:Nat)(t:St):Option (Except Er St):=match sb m a most 0 x with
 | .error e=>some (.error (.inl e))
 | .ok l=>wkI m a most x o F t [(x,l)]
def Yy(m:bn)(a:Au)(most:Int)(F:Nat)(t:St)(s:ki):Option (Except Er St):=match s with
 |[]=>none
 |(x,l)::r=>bif meet a x then allI m a most x ((x,l)::r).reverse F t else some (.ok t)
def okS(m:bn)(k:Nat)(s:ki):Prop:= ∀f∈s,Pd.St m k f.1/\∀y∈f.2,Pd.St m k y
structure Yw(a:Au):Prop where
 acc:∃A r,a.2.2.2=A::r/\A.length<100000000
theorem ahF{m:bn}(hm:Sp.SafeS m.2.1 m.2.2.2.2){a:Au}{k:Nat}(ha:Pd.sW a k){most:Int}(b:most<=1048576){x:V}(hx:Pd.St m k x){o:ki}(g:o.length<100000000)(c:o≠[])(t:St):
  KU x m a t most x o=No fl (allI m a most x o ax t):=by
 unfold KU Gm rW mO allI;show fZ (vN x [] m a t most) _ _=_;rw [Mb hm ha hx [] (by simp)];cases hp:sb m a most ([]).length x with
 |error e=>rfl
 |ok l=>
  have:=H4 hm ha b x g c ax t [(x,l)] (by simp) (λf d=>by
   rcases List.mem_cons.1 d with rfl|d
   .exact H2 ha hx hp
   .cases d)
  unfold o6 rW at this;rw [<-this];rfl
theorem aiV{m:bn}(hm:Sp.SafeS m.2.1 m.2.2.2.2){a:Au}{k:Nat}(ha:Pd.sW a k)(h:Yw a){most:Int}(b:most<=1048576){x:V}(hx:Pd.St m k x)(l:List V)(r:ki)(o:r.length<10000000)(t:St):
  Iy ((x,l)::r).reverse m a t most=No fl (Yy m a most ax t ((x,l)::r)):=by
 unfold Iy Gm rW lq Yy;rw [lL,Hj _ _ (by omega),Sy.jv rfl,So.ah];obtain ⟨A,q,n,j⟩:=h.acc;obtain ⟨v,p,c,f,hp⟩:=hx;have g:v.length<1000000:=by have n:=f.len;have j:=hm.dq;omega
 have i:wK (a.1,a.2.1,a.2.2.1,a.2.2.2) x=some (meet a x):=by grind [ak9]
 rw [i,So.ah];dsimp only;cases meet a x with
 |false=>rfl
 |true=>
  show fZ (KU x m a t most x (r.reverse++[(x,l)])) _ _=_;have d:Pd.St m k x:=⟨v,p,c,f,hp⟩;rw [ahF hm ha b d (by simp;omega) (by simp)];rw [cp,lL];generalize allI m a most x (r.reverse++[(x,l)]) ax t=w;cases w with
  |none=>rfl
  |some w=>
   cases w with
   |error e=>cases e <;> rfl
   |ok t'=>rfl
abbrev NG(m:bn)(a:Au)(most:Int):=wk wH (λ_ _=>none) (Yy m a most ax) (sb m a most)
theorem HF{m:bn}(hm:Sp.SafeS m.2.1 m.2.2.2.2){a:Au}{k:Nat}(ha:Pd.sW a k)(d:Yw a){most:Int}(c:most<=1048576):
  ∀(n:Nat) (t:St) (s:ki),s.length<=1048576->okS m k s->ao (AG m a most) n (stS t s.reverse)=No fl (NG m a most n t s)
 |0,_,_,_,_=>rfl
 |n+1,t,[],hs,hn=>by
  rw [au];generalize ao _ n=g;rfl
 |n+1,t,(x,[])::s,hs,hn=>by
  have ih:=λt'=>HF hm ha d c n t' s (by simp at hs;omega) (λf d=>hn f (b7 _ d));rw [au];generalize ao (AG m a most) n=g at ih ⊢;unfold AG rW mJ;dsimp only;simp at hs;have j:=aiV hm ha d c (hn _ (cx ..)).1 [] s (by omega) t;rw [lL] at j ⊢;rw [cy (by simp),cp,Hj _ _ (by omega),Sy.jv (pre:=s.reverse) (r:=[]) rfl,So.ah];simp only [qg,Int.ofNat_zero];rw [show ((0:Int)==0)=true from rfl,cp];show fZ (Iy (s.reverse++[(x,[])]) m a t most) _ _=_;rw [j];unfold NG wk;dsimp only;cases Yy m a most ax t ((x,[])::s) with
  |none=>rfl
  |some w=>
   cases w with
   |error e=>cases e <;> rfl
   |ok t'=>
    show aM _ _=_;rw [Sy.aN (show cR 0 (s.reverse.length:Int) (List.length (s.reverse++[((x,[]):V×List V)]))=true by unfold cR;simp;omega),show aT (s.reverse++[((x,[]):V×List V)]) 0 (s.reverse.length:Int)=s.reverse by unfold aT;simp];exact ih t'
 |n+1,t,(x,y::ys)::s,hs,hn=>by
  have v:=hn _ (cx ..);have u:Pd.St m k y:=v.2 y (cx ..);have i:okS m k ((x,ys)::s):=λf d=>by
   rcases List.mem_cons.1 d with rfl|d
   .exact ⟨v.1,λz A=>v.2 z (b7 _ A)⟩
   .exact hn f (b7 _ d)
  have q:=λt'=>HF hm ha d c n t' ((x,ys)::s) (by simpa using hs) i;have p:=λt' l (hl:sb m a most (s.length+1) y= .ok l)=>HF hm ha d c n t' ((y,l)::(x,ys)::s) (by have:=acw hl;simp;omega) (λf d=>by
   rcases List.mem_cons.1 d with rfl|d
   .exact ⟨u,H2 ha u hl⟩
   .exact i f d)
  rw [au];unfold AG rW mJ;dsimp only;simp at hs;have h:List.set (s.reverse++[((x,y::ys))]) (Int.toNat (s.reverse.length)) (x,ys)=s.reverse++[(x,ys)]:=by simp
  rw [lL,cy (by simp),cp,Hj _ _ (by omega),Sy.jv rfl,So.ah];simp only [show idx (y::ys) 0=some y from rfl,So.ah];rw [Sy.aN (by unfold cR;simp;omega)];have o:aT (y::ys) 1 ((List.length (y::ys)))=ys:=by unfold aT;simp
  simp only [o,h];unfold NG wk;show fZ (F7 y m a t most) _ _=_;rw [OM];cases wH t y with
  |none=>rfl
  |some r=>
   cases r with
   |error e=>rfl
   |ok r=>
    obtain ⟨b,t'⟩:=r;cases b with
    |false=>
     have:=q t';rw [lL] at this;exact this
    |true=>
     show fZ (vN y (s.reverse++[(x,ys)]) m a t' most) _ _=_;rw [Mb hm ha u _ (by simp;omega),show (s.reverse++[((x,ys))]).length=s.length+1 by simp];cases hp:sb m a most (s.length+1) y with
     |error e=>rfl
     |ok l=>
      have:=p t' l hp;rw [lL,lL] at this;exact this
def ol(m:bn)(a:Au)(most:Int):List V->St->Option (Except Er St)
 |[],t=>some (.ok t)
 |x::r,t=>(wH t x).bind λq=>match q with
  | .error e=>some (.error (.inl e))
  | .ok (false,t')=>ol m a most r t'
  | .ok (true,t')=>match sb m a most 0 x with
   | .error e=>some (.error (.inl e))
   | .ok l=>(NG m a most ax t' [(x,l)]).bind λq=>match q with
    | .error e=>some (.error e)
    | .ok t''=>ol m a most r t''
theorem agR{m:bn}(hm:Sp.SafeS m.2.1 m.2.2.2.2){a:Au}{k:Nat}(ha:Pd.sW a k)(c:Yw a){most:Int}(b:most<=1048576){x:V}(hx:Pd.St m k x)(t:St):
  ahh x m a t most=No fl (match sb m a most 0 x with
   | .error e=>some (.error (.inl e))
   | .ok l=>NG m a most ax t [(x,l)]):=by
 show fZ (vN x [] m a t most) _ _=_;rw [Mb hm ha hx [] (by simp)];cases hp:sb m a most ([]).length x with
 |error e=>rfl
 |ok l=>
  have:=HF hm ha c b ax t [(x,l)] (by simp) (λf c=>by
   rcases List.mem_cons.1 c with rfl|c
   .grind [H2]
   .cases c)
  unfold AG rW at this;rw [<-this];rfl
theorem QY{m:bn}(hm:Sp.SafeS m.2.1 m.2.2.2.2){a:Au}{k:Nat}(ha:Pd.sW a k)(j:Yw a){most:Int}(c:most<=1048576)(L:List V)(o:L.length<100000000)(d:∀x∈L,Pd.St m k x):
  ∀(r pre:List V),L=pre++r->∀(t:St) (M:Nat),r.length<M->ao (H9 m a most L) M (t.1,t.2.1,t.2.2.1,t.2.2.2.1.1.1,t.2.2.2.1.1.2.1,t.2.2.2.1.1.2.2,t.2.2.2.1.2,t.2.2.2.2.1.1,t.2.2.2.2.1.2.1.1,t.2.2.2.2.1.2.1.2.1,t.2.2.2.2.1.2.1.2.2,t.2.2.2.2.1.2.2,t.2.2.2.2.2.1.1,t.2.2.2.2.2.1.2,t.2.2.2.2.2.2.1.1.1,t.2.2.2.2.2.2.1.1.2.1,t.2.2.2.2.2.2.1.1.2.2.1,t.2.2.2.2.2.2.1.1.2.2.2.1,t.2.2.2.2.2.2.1.1.2.2.2.2,t.2.2.2.2.2.2.1.2.1.1,t.2.2.2.2.2.2.1.2.1.2.1,t.2.2.2.2.2.2.1.2.1.2.2.1,t.2.2.2.2.2.2.1.2.1.2.2.2.1,t.2.2.2.2.2.2.1.2.1.2.2.2.2,t.2.2.2.2.2.2.1.2.2.1,t.2.2.2.2.2.2.1.2.2.2.1,t.2.2.2.2.2.2.1.2.2.2.2.1,t.2.2.2.2.2.2.1.2.2.2.2.2.1,t.2.2.2.2.2.2.1.2.2.2.2.2.2,t.2.2.2.2.2.2.2.1,t.2.2.2.2.2.2.2.2.1,t.2.2.2.2.2.2.2.2.2.1,t.2.2.2.2.2.2.2.2.2.2.1,t.2.2.2.2.2.2.2.2.2.2.2.1,t.2.2.2.2.2.2.2.2.2.2.2.2,(pre.length:Int))=No fl (ol m a most r t)
 |[],pre,h,t,M,hM=>by
  obtain ⟨n,rfl⟩:∃n,M=n+1:=⟨M-1,by omega⟩;have e  :=by simpa using h
  rw [au];generalize ao _ n=g;unfold H9 rW lv;dsimp only;rw [c9 (by rw [e];omega),ca];rfl
 |x::r,pre,h,t,M,hM=>by
  obtain ⟨n,rfl⟩:∃n,M=n+1:=⟨M-1,by omega⟩;have i:pre.length+r.length+1=L.length:=by rw [h];simp;omega
  have hx:=d x (by rw [h];simp);have ih:=λt'=>QY hm ha j c L o d r (pre++[x]) (by rw [h];simp) t' n (by simp at hM;omega);rw [show ((pre++[x]).length)=((pre.length+1:Nat)) by simp] at ih;rw [au];unfold H9 rW lv;dsimp only;rw [cy (by omega),cp,Sy.jv h,So.ah,Pa.cz (by omega)];unfold ol;show fZ (F7 x m a t most) _ _=_;rw [OM];cases wH t x with
  |none=>rfl
  |some q=>
   cases q with
   |error e=>rfl
   |ok q=>
    obtain ⟨b,t'⟩:=q;cases b with
    |false=>exact ih t'
    |true=>
     show fZ (ahh x m a t' most) _ _=_;rw [agR hm ha j c hx];simp;cases sb m a most 0 x with
     |error e=>rfl
     |ok l=>
      dsimp only;cases NG m a most ax t' [(x,l)] with
      |none=>rfl
      |some w=>
       cases w with
       |error e=>cases e <;> rfl
       |ok f=>exact ih f
def Gk(m:bn)(a:Au):List V:=Sp.cV [] (Pd.dD a m.2.2.1 a.2.2.1)
theorem alj{m:bn}(hm:Sp.SafeS m.2.1 m.2.2.2.2)(hi:Sp.km m.2.1 m.2.2.1){a:Au}{k:Nat}(ha:Pd.sW a k)(d:Yw a){most:Int}(b:most<=1048576)(e:(Gk m a).length<100000000)(c:∀x∈Gk m a,Pd.St m k x)(t:St):
  Un m a t most=No fl (ol m a most (Gk m a) t):=by
 unfold Un Gm rW oC;rw [show Az (m.1,m.2.1,m.2.2.1,m.2.2.2.1,m.2.2.2.2) (a.1,a.2.1,a.2.2.1,a.2.2.2)=some (Gk m a) from Pd.anQ hm hi ha,So.ah];exact QY hm ha d b (Gk m a) e c (Gk m a) [] rfl t ax (by show _<2^64;omega)
def Dq(w:Option (Except Er St)):Option (Bool×(List V×List V)×Int×V):=w.map λr=>match r with
 | .ok _=>(false,([],[]),0,[])
 | .error (.inl e)=>(false,([],[]),e.1,e.2)
 | .error (.inr p)=>(true,p,0,[])
theorem anl{m:bn}(hm:Sp.SafeS m.2.1 m.2.2.2.2)(hi:Sp.km m.2.1 m.2.2.1){a:Au}{k:Nat}(ha:Pd.sW a k)(h:Yw a)(i:(Gk m a).length<100000000)(b:∀x∈Gk m a,Pd.St m k x)(o:So.Op){s:yx}(g:uG m a=some (s,0)){t:St}{c:Int}(hN:jn s o=some (t,c)):
  gN m a o=if c=0/\1<=o.2.2.1/\o.2.2.1<=1048576 then Dq (ol m a o.2.2.1 (Gk m a) t) else some (false,([],[]),1,[]):=by
 unfold gN;rw [g,So.ah];simp only [So.aV];rw [show ((0:Int) != 0)=false from rfl,ca,hN,So.ah];by_cases f:c=0
 .by_cases d:1<=o.2.2.1/\o.2.2.1<=1048576
  .rw [du ⟨f,d⟩,f,c9 (by omega),c9 (by omega)];show fZ (Un m a t o.2.2.1) _ _=_;rw [alj hm hi ha h d.2 i b];cases ol m a o.2.2.1 (Gk m a) t with
   |none=>rfl
   |some w=>
    cases w with
    |error e=>cases e <;> rfl
    |ok t'=>rfl
  grind
 grind
end Ns
namespace Ns
def mu(Us K:List V):Nat:=(Us.filter λx=> !decide (x∈K)).length
theorem adJ{Us K K':List V}(h:∀x∈K,x∈K'):mu Us K'<=mu Us K:=by
 unfold mu
 induction Us with
 |nil=>simp
 |cons y Us ih=>
  grind
theorem aeq{Us K K':List V}(h:∀x∈K,x∈K'){x:V}(hx:x∈Us)(b:x∉K)(a:x∈K'):mu Us K'<mu Us K:=by
 induction Us with
 |nil=>cases hx
 |cons y Us ih=>
  unfold mu at ih ⊢;by_cases e:y=x
  .subst e;have:=adJ (Us:=Us) h;unfold mu at this;simp [b,a];omega
  grind
theorem apN{Us K:List V}:mu Us K<=Us.length:=qQ _ _
def wt(s:ki):Nat:=(s.map λf=>1+f.2.length).sum
structure tG(Us:List V)(s:ki):Prop where
 st:∀f∈s,f.1∈Us
 nx:∀f∈s,∀y∈f.2,y∈Us
 nd:(s.map (·.1)).Nodup
theorem tG.dq{Us:List V}{s:ki}(h:tG Us s):s.length<=Us.length:=by
 have:=Df.xl h.nd (λx hx=>by obtain ⟨f,a,rfl⟩:=List.mem_map.1 hx;exact h.st f a)
 simpa using this
section
variable {nw : St -> V -> Option (Except (Int × V) (Bool × St))} {se : V -> ki -> Option Er} {dn : St -> ki -> Option (Except Er St)} {pu : Nat -> V -> Except (Int × V) (List V)} {Us : List V} {N : Nat} {Inv : List V -> St -> Prop} {Bd : Er -> Prop} {bot : Option V}
def afa(Us:List V)(Inv:List V->St->Prop)(Bd:Er->Prop)(nw:St->V->Option (Except (Int×V) (Bool×St))):Prop:=
 ∀K t x,Inv K t->x∈Us->(∃e,nw t x=some (.error e)/\Bd (.inl e))\/(∃K' t',nw t x=some (.ok (false,t'))/\Inv K' t'/\∀z∈K,z∈K')\/(∃K' t',nw t x=some (.ok (true,t'))/\Inv K' t'/\(∀z∈K,z∈K')/\x∉K/\x∈K')
def alr(Inv:List V->St->Prop)(Bd:Er->Prop)(K:List V)(w:Option (Except Er St)):Prop:=
 (∃e,w=some (.error e)/\Bd e)\/(∃K' t',w=some (.ok t')/\Inv K' t'/\∀z∈K,z∈K')
def agA(Us:List V)(N:Nat)(Bd:Er->Prop)(pu:Nat->V->Except (Int×V) (List V)):Prop:=
 ∀n y,y∈Us->n<Us.length->(∃e,pu n y= .error e/\Bd (.inl e))\/(∃l,pu n y= .ok l/\(∀z∈l,z∈Us)/\l.length<=N)
theorem Qm(o:afa Us Inv Bd nw)(k:∀y s e,y∈Us->tG Us s->s≠[]->se y s=some e->Bd e)(d:∀y s,se y s=none->some y≠bot)
  (p:∀K t s,Inv K t->tG Us s->s≠[]->alr Inv Bd K (dn t s)) (m:agA Us N Bd pu):
  ∀(n:Nat) (t:St) (s:ki) (K:List V),Inv K t->tG Us s->(∀x∈s.map (·.1),x∈K\/some x=bot)->mu Us K*(N+2)+wt s<n->alr Inv Bd K (wk nw se dn pu n t s)
 |0,_,_,_,_,_,_,h=>by omega
 |n+1,t,[],K,hi,_,_,_=> .inr ⟨K,t,rfl,hi,λ_ h=>h⟩
 |n+1,t,(x,[])::s,K,hi,hg,hk,hn=>by
  have C:tG Us s:=⟨λf a=>hg.st f (b7 _ a),λf a=>hg.nx f (b7 _ a),by have:=hg.nd;simp at this;simpa using this.2⟩;unfold wk;rcases p K t _ hi hg (by simp) with ⟨e,r,q⟩|⟨K',t',r,q,i⟩
  .rw [r];exact .inl ⟨e,rfl,q⟩
  .rw [r];have hm:=adJ (Us:=Us) i;have g:mu Us K'*(N+2)+wt s<n:=by have:=gy (N+2) hm;simp [wt] at hn ⊢; omega
   rcases Qm o k d p m n t' s K' q C (λy j=>(hk y (by simp at j ⊢; exact .inr j)).imp (i y) id) g with ⟨e,r1,r2⟩|⟨B,t2,r1,r2,u⟩
   .exact .inl ⟨e,r1,r2⟩
   .exact .inr ⟨B,t2,r1,r2,λz c=>u z (i z c)⟩
 |n+1,t,(x,y::ys)::s,K,hi,hg,hk,hn=>by
  have j  :=hg.nx _ (cx ..) y (cx ..);have b:tG Us ((x,ys)::s):=⟨λf a=>by
    rcases List.mem_cons.1 a with rfl|a
    .exact hg.st (x,y::ys) (cx ..)
    .exact hg.st f (b7 _ a),λf a=>by
    rcases List.mem_cons.1 a with rfl|a
    .exact λz c=>hg.nx (x,y::ys) (cx ..) z (b7 _ c)
    .exact hg.nx f (b7 _ a),hg.nd⟩
  unfold wk;cases D:se y ((x,ys)::s) with
  |some e=>exact .inl ⟨e,rfl,k y _ e j b (by simp) D⟩
  |none=>
   rcases o K t y hi j with ⟨e,r,q⟩|⟨K',t',r,q,i⟩|⟨K',t',r,q,i,E,F⟩
   .rw [r];exact .inl ⟨_,rfl,q⟩
   .rw [r];have hm:=adJ (Us:=Us) i;have g:mu Us K'*(N+2)+wt ((x,ys)::s)<n:=by have:=gy (N+2) hm;simp [wt] at hn ⊢; omega
    rcases Qm o k d p m n t' _ K' q b (λz c=>(hk z (by simpa using c)).imp (i z) id) g with ⟨e,r1,r2⟩|⟨B,t2,r1,r2,u⟩
    .exact .inl ⟨e,r1,r2⟩
    .exact .inr ⟨B,t2,r1,r2,λz c=>u z (i z c)⟩
   .rw [r];have v:y∉((x,ys)::s).map (·.1):=λA=>by
     rcases hk y (by simpa using A) with A|A
     .exact E A
     .exact d y _ D A
    have w  :=by
     have:=Df.xl (List.nodup_cons.2 ⟨v,b.nd⟩) (λz c=>by
      rcases List.mem_cons.1 c with rfl|c
      .exact j
      .obtain ⟨f,a,rfl⟩:=List.mem_map.1 c;exact b.st f a)
     simp at this;omega
    rcases m (s.length+1) y j w with ⟨e,p1,p2⟩|⟨l,p1,p2,G⟩
    .simp [p1];exact .inl ⟨_,rfl,p2⟩
    .simp [p1];have hm:=aeq i j E F;have g:mu Us K'*(N+2)+wt ((y,l)::(x,ys)::s)<n:=by
      have:mu Us K'*(N+2)+(N+2)<=mu Us K*(N+2):=by rw [<-qD];exact gy _ hm
      simp [wt] at hn ⊢; omega
     rcases Qm o k d p m n t' ((y,l)::(x,ys)::s) K' q ⟨λf a=>by
       rcases List.mem_cons.1 a with rfl|a
       .exact j
       .exact b.st f a,λf a=>by
       rcases List.mem_cons.1 a with rfl|a
       .exact p2
       .exact b.nx f a,List.nodup_cons.2 ⟨v,b.nd⟩⟩ (λz c=>by
       grind) g with ⟨e,r1,r2⟩|⟨B,t2,r1,r2,u⟩
     .exact .inl ⟨e,r1,r2⟩
     .exact .inr ⟨B,t2,r1,r2,λz c=>u z (i z c)⟩
end
end Ns
variable {α : Type}
namespace Sy
open Pa
def Er{α:Type}(x:Except gR α):Prop:= ∀e,x= .error e->e.1≠0
theorem Er.ok{a:α}:Er (.ok a:Except gR α):=λe h=>by cases h
theorem Er.lit{e:gR}(h:e.1≠0):Er (.error e:Except gR α):=λe' a=>by cases a;exact h
theorem Er.bif{c:Bool}{a b:Except gR α}(ha:c=true->Er a)(hb:c=false->Er b):Er (bif c then a else b):=by cases c;exact hb rfl;exact ha rfl
theorem Er.of{x:Except gR α}(h:Er x){e:gR}(a:x= .error e){β:Type}:Er (.error e:Except gR β):= .lit (h e a)
theorem akh{names:List aE}{b:List Tok}:Er (EF names b):=λe h=>by
 unfold EF at h;split at h
 next hx=>have a:=Classical.choose_spec hx;rw [h] at a;rcases a.err e rfl with h|h|h <;> omega
 .cases h;decide
theorem DF{x:aE}{a:List Tok}:Er (bY x a):=by
 unfold bY;split
 .exact .lit (by decide)
 .exact .bif (λ_=> .ok) (λ_=> .lit (show (2:Int)≠0 by decide))
theorem YQ{full:Bool}{names a:List aE}{b:List Tok}:Er (fC full names a b):=by
 unfold fC;split
 .exact .lit (by decide)
 .exact .bif (λ_=> .lit (show (2:Int)≠0 by decide)) λ_=> .bif (λ_=> .lit (show (3:Int)≠0 by decide)) λ_=> .bif (λ_=> .lit (show (9:Int)≠0 by decide)) λ_=> .ok
theorem Zu{a:Bool}{b:List Tok}:Er (rK a b):=by
 unfold rK;split
 .exact .lit (by decide)
 .exact .bif (λ_=> .lit (show (2:Int)≠0 by decide)) λ_=> .ok
theorem S3{a:List Tok}:Er (fP a):= .bif (λ_=>Zu) λ_=>Zu
theorem anh{m:bn}{a:List Tok}:Er (pX m a):=by
 unfold pX;split
 next h=>exact YQ.of h
 .split
  next h=>exact S3.of h
  .split
   next h=>exact S3.of h
   .split
    next h=>exact S3.of h
    .split
     next h=>exact DF.of h
     .exact .bif (λ_=> .lit (show (5:Int)≠0 by decide)) λ_=> .ok
theorem Y8{a:Int}{names:List aE}{b:List Tok}:Er (ek a names b):=by
 unfold ek;split
 next h=>exact akh.of h
 .exact .bif (λh=> .lit (by simpa using h)) λ_=> .bif (λ_=> .lit (show (4:Int)≠0 by decide)) λ_=> .ok
theorem WY{names:List aE}:∀(f:Nat) (acc:List (Int×Ex)) (a:List Tok),Er (fv names f acc a)
 |0,_,_=> .lit (show (2:Int)≠0 by decide)
 |f+1,acc,a=>by
  unfold fv;split
  .exact .lit (by decide)
  .refine .bif (λ_=> .lit (show (2:Int)≠0 by decide)) λ_=> .bif (λ_=> .lit (show (3:Int)≠0 by decide)) λ_=>?_;split
   next h=>exact DF.of h
   .split
    next h=>exact Y8.of h
    .exact .bif (λ_=>WY f _ _) λ_=> .ok
theorem amD{m:bn}{a:List Tok}:Er (mZ m a):=by
 unfold mZ;refine .bif (λ_=> .lit (show (9:Int)≠0 by decide)) λ_=>?_;split
 next h=>exact Y8.of h
 .split
  next h=>exact DF.of h
  .split
   next h=>exact (WY _ _ _).of h
   .split
    next h=>exact DF.of h
    .exact .ok
theorem XG:∀(f:Nat) (m:bn) (a:List Tok),Er (lz f m a)
 |0,_,_=> .lit (show (2:Int)≠0 by decide)
 |f+1,m,a=>by
  unfold lz;refine .bif (λ_=> .ok) λ_=>?_;split
  next h=>exact amD.of h
  .exact XG f _ _
theorem aj1{m:bn}{a:List Tok}:Er (uW m a):=by
 unfold uW;split
 next h=>exact YQ.of h
 .split
  next h=>exact DF.of h
  .exact XG _ _ _
theorem KB:∀(f:Nat) (m:bn) (a:List Tok),Er (oN f m a)
 |0,_,_=> .lit (show (2:Int)≠0 by decide)
 |f+1,m,a=>by
  unfold oN;split
  .exact .lit (by decide)
  .refine .bif (λ_=> .bif (λ_=> .lit (show (2:Int)≠0 by decide)) λ_=> .ok) λ_=> .bif (λ_=>?_) λ_=> .bif (λ_=>?_) λ_=> .lit (show (2:Int)≠0 by decide)
   .split
    next h=>exact anh.of h
    .exact KB f _ _
   .split
    next h=>exact aj1.of h
    .exact KB f _ _
theorem ai6{text:aE}{e:gR}(h:OO text= .error e):e.1≠0:=by
 unfold OO at h;split at h
 .cases h;decide
 .split at h
  .exact KB _ _ _ e h
  next hl=>cases h;exact WH _ _ _ _ hl
end Sy
namespace Sp
theorem Z3(a b:zn)(hl:a.length=b.length)(ha:a.length<1000000000):∀(r pre s:zn),a=pre++r->b=pre++s->∀M,r.length<M->ao (dG a b) M (pre.length:Int)=some (r==s)
 |[],pre,s,h,h2,M,hM=>by
  obtain ⟨k,rfl⟩:∃k,M=k+1:=⟨M-1,by simp at hM;omega⟩;rw [au];simp only [dG,Sy.pS h,ca];have:s=[]:=ej (by rw [h,h2] at hl;simpa using hl.symm);subst this;rfl
 |x::r,pre,[],h,h2,M,hM=>by rw [h,h2] at hl;simp at hl
 |x::r,pre,y::s,h,h2,M,hM=>by
  obtain ⟨k,rfl⟩:∃k,M=k+1:=⟨M-1,by omega⟩;rw [au];have c:pre.length+r.length+1=a.length:=by rw [h];simp;omega
  simp only [dG,Sy.pL h,cp,Sy.jv h,Sy.jv h2,ah,Pa.cz (show pre.length<4611686018427387904 by omega)];by_cases e:x=y
  .subst e;have ih:=Z3 a b hl ha r (pre++[x]) s (by rw [h];simp) (by rw [h2];simp) k (by simp at hM;omega);rw [show ((pre++[x]).length:Int)=((pre.length+1:Nat):Int) by simp] at ih;rw [show (x != x)=false by simp,ca,ih];simp
  .rw [show (x != y)=true by simpa using e,cp];simp [e]
theorem agF(a b:zn)(ha:a.length<1000000000):gH a b=some (a==b):=by
 unfold gH;by_cases hl:a.length=b.length
 .rw [show ((List.length a:Int) != (List.length b:Int))=false by rw [hl];simp,ca];exact Z3 a b hl ha a [] b rfl rfl ax (by show _<2^64;omega)
 .rw [show ((List.length a:Int) != (List.length b:Int))=true by simp;omega,cp,beq_eq_false_iff_ne.2 (λe=>hl (by rw [e]))]
def CY(v:zn):Nat->x3->Int
 |_,[]=> -1
 |k,x::r=>if x=v then (k:Int) else CY v (k+1) r
theorem Gr{v:zn}:∀{l:x3} {k:Nat},CY v k l<0↔v∉l
 |[],k=>by simp [CY]
 |x::r,k=>by
  unfold CY;by_cases e:x=v
  .rw [du e];constructor
   .intro h;omega
   .intro h;exact absurd (by rw [e];simp) h
  .rw [df e,Gr (l:=r)];simp only [oi,not_or];exact ⟨λh=>⟨λa=>e a.symm,h⟩,λh=>h.2⟩
def oL(S:yx)(v:zn):Bool:=decide (v.length=S.length)&&fits S v
theorem nc{S:yx}{v:zn}:oL S v=true↔km S v:=by unfold oL;rw [an,gj];exact ⟨λh=>⟨h.1,h.2⟩,λh=>⟨h.len,h.fit⟩⟩
structure uU(S:yx)(C:List Sy.aS):Prop extends SafeS S C where
 rguard:∀c∈C,jy (S.length:Int) c.2.1=true/\(rt c.2.1).1=2
 rsets:∀c∈C,∀s∈c.2.2,jy (S.length:Int) s.2=true/\(rt s.2).1=1
theorem anb{m:Sy.bn}(h:Sy.Wf m):uU m.2.1 m.2.2.2.2:=by
 have d:=h.schema;have g:=h.some_;have f:=h.names;have e:=h.cmds;refine { pos:=by omega,dq:=by omega,field:=h.fields,cmds:=by omega,guard:=λc a=>?_,sets:=λc a=>⟨(h.cmd c a).len,λs b=>?_⟩,rguard:=λc a=>?_,rsets:=λc a s b=>?_ }
 .have:=(h.cmd c a).sz;omega
 .have k:=(h.cmd c a).sets s b;have:=k.var;have:=k.sz;refine ⟨by omega,by omega,by omega⟩
 .have k:=h.cmd c a;rw [d];exact ⟨k.may,k.typ.2⟩
 .have k:=(h.cmd c a).sets s b;rw [d];exact ⟨k.may,k.typ.2⟩
theorem abU:∀{S:yx} {v:zn},(∀(i:Nat) (f:Int×Int) (n:Int),S[i]? =some f->v[i]? =some n->f.1<=n/\n<=f.2)->fits S v=true
 |[],[],_=>rfl
 |[],_::_,_=>rfl
 |_::_,[],_=>rfl
 |s::S,x::v,h=>by have c:=h 0 s x rfl rfl;simp only [fits,an,gj];exact ⟨c,abU λi f n b a=>h (i+1) f n (by simpa using b) (by simpa using a)⟩
theorem am7{m:Sy.bn}(h:Sy.Wf m):km m.2.1 m.2.2.1:=⟨by rw [h.init,h.schema],abU h.first⟩
end Sp
namespace Sp
theorem QI(l:x3)(v:zn)(hl:l.length<1000000000)(a:∀w∈l,w.length<1000000000):∀(r pre:x3),l=pre++r->∀M,r.length<M->ao (iK l v) M (pre.length:Int)=some (CY v pre.length r)
 |[],pre,h,M,hM=>by
  obtain ⟨k,rfl⟩:∃k,M=k+1:=⟨M-1,by simp at hM;omega⟩;rw [au];simp only [iK,Sy.pS h,ca,CY]
 |x::r,pre,h,M,hM=>by
  obtain ⟨k,rfl⟩:∃k,M=k+1:=⟨M-1,by omega⟩;rw [au];have b:pre.length+r.length+1=l.length:=by rw [h];simp;omega
  have ih:=QI l v hl a r (pre++[x]) (by rw [h];simp) k (by simp at hM;omega);rw [show ((pre++[x]).length:Int)=((pre.length+1:Nat):Int) by simp,show (pre++[x]).length=pre.length+1 by simp] at ih;simp only [iK,Sy.pL h,cp,Sy.jv h,ah,Pa.cz (show pre.length<4611686018427387904 by omega)];rw [agF x v (a x (by rw [h];simp)),ah,CY];by_cases e:x=v
  .rw [du e,show (x==v)=true by simpa using e,cp]
  .rw [df e,show (x==v)=false by simpa using e,ca];exact ih
theorem sV(l:x3)(v:zn)(hl:l.length<1000000000)(a:∀w∈l,w.length<1000000000):dM l v=some (CY v 0 l):=
 QI l v hl a l [] rfl ax (by show _<2^64;omega)
end Sp
theorem akq(op n C:Int)(l:List Ex)(v:zn)(a b:Int)(c:15<=op->(a=0\/a=1)/\(b=0\/b=1)):kD (.mk op n C l) v a b=some (NN op n v a b):=by
 have d:(op=1\/op=2\/op=3\/op=4\/op=5\/op=6\/op=7\/op=8\/op=9\/op=10\/op=11\/op=12\/op=13\/op=15\/op=16\/op=17\/op=18\/op=19)\/(op<1\/op=14\/19<op):=by omega
 rcases d with d|d
 .rcases d with rfl|rfl|rfl|rfl|rfl|rfl|rfl|rfl|rfl|rfl|rfl|rfl|rfl|rfl|rfl|rfl|rfl|rfl
  .rfl
  .show (bif (decide (0<=n)&&decide (n<(List.length v:Int))) then (idx v n).bind (λz=>some z) else some 0)=some (bif decide (n<0)||decide ((List.length v:Int)<=n) then 0 else v.getD n.toNat 0);by_cases e:0<=n
   .by_cases r:n<(List.length v:Int)
    .rw [cy e,cy r,c9 (by omega),c9 (by omega)];have:idx v n=some (v.getD n.toNat 0):=by unfold idx;rw [du e,b9 (by omega)];simp [List.getD,b9 (show n.toNat<v.length by omega)]
     rw [this];rfl
    .rw [cy e,c9 r,c9 (by omega),cy (by omega)];rfl
   .rw [c9 e,cy (show n<0 by omega)];rfl
  .rfl
  .rfl
  .rfl
  .rfl
  .show (bd (a==b)).bind (λz=>some z)=some (tr ((a==b) != false));cases (a==b) <;> rfl
  .show (bd (!(a==b))).bind (λz=>some z)=some (tr ((a==b) != true));cases (a==b) <;> rfl
  .show (bd (decide (a<b))).bind (λz=>some z)=some (tr (decide (a<b) != false));cases decide (a<b) <;> rfl
  .show (bd (decide (a<=b))).bind (λz=>some z)=some (tr (decide (a<=b) != false));cases decide (a<=b) <;> rfl
  .show (bd (decide (b<a))).bind (λz=>some z)=some (tr (decide (a<=b) != true));by_cases h:a<=b
   .rw [cy h,c9 (by omega)];rfl
   .rw [c9 h,cy (by omega)];rfl
  .show (bd (decide (b<=a))).bind (λz=>some z)=some (tr (decide (a<b) != true));by_cases h:a<b
   .rw [cy h,c9 (by omega)];rfl
   .rw [c9 h,cy (by omega)];rfl
  .rfl
  .obtain ⟨ha,hb⟩:=c (by omega);rcases ha with rfl|rfl <;> rfl
  .obtain ⟨ha,hb⟩:=c (by omega);rcases ha with rfl|rfl <;> rcases hb with rfl|rfl <;> rfl
  .obtain ⟨ha,hb⟩:=c (by omega);rcases ha with rfl|rfl <;> rcases hb with rfl|rfl <;> rfl
  .obtain ⟨ha,hb⟩:=c (by omega);rcases ha with rfl|rfl <;> rcases hb with rfl|rfl <;> rfl
  .show (bd (a==b)).bind (λz=>some z)=some (tr ((a==b) != false));cases (a==b) <;> rfl
 .have B:(op==1)=false:=beq_eq_false_iff_ne.2 (by omega);have A:(op==2)=false:=beq_eq_false_iff_ne.2 (by omega);have y:(op==3)=false:=beq_eq_false_iff_ne.2 (by omega);have x:(op==4)=false:=beq_eq_false_iff_ne.2 (by omega);have w:(op==5)=false:=beq_eq_false_iff_ne.2 (by omega);have u:(op==6)=false:=beq_eq_false_iff_ne.2 (by omega);have t:(op==7)=false:=beq_eq_false_iff_ne.2 (by omega);have b8:(op==8)=false:=beq_eq_false_iff_ne.2 (by omega);have s:(op==9)=false:=beq_eq_false_iff_ne.2 (by omega);have q:(op==10)=false:=beq_eq_false_iff_ne.2 (by omega);have p:(op==11)=false:=beq_eq_false_iff_ne.2 (by omega);have o:(op==12)=false:=beq_eq_false_iff_ne.2 (by omega);have m:(op==13)=false:=beq_eq_false_iff_ne.2 (by omega);have k:(op==15)=false:=beq_eq_false_iff_ne.2 (by omega);have j:(op==16)=false:=beq_eq_false_iff_ne.2 (by omega);have i:(op==17)=false:=beq_eq_false_iff_ne.2 (by omega);have g:(op==18)=false:=beq_eq_false_iff_ne.2 (by omega);have f:(op==19)=false:=beq_eq_false_iff_ne.2 (by omega);simp only [kD,Ex.op,NN,B,A,y,x,w,u,t,b8,s,q,p,o,m,k,j,i,g,f,ca]
theorem amJ(k:Ex×zn->zf)(e:Ex)(v:zn)(hk:∀x∈e.l,k (x,v)=some (ev v x))(b:15<=e.op->(Bk v e.l=0\/Bk v e.l=1)/\(C9 v e.l=0\/C9 v e.l=1)):
  ln k e v=some (ev v e):=by
 obtain ⟨op,n,a,l⟩:=e;rw [ae3];have key:=akq op n a l v (Bk v l) (C9 v l) b;rw [show NN (Ex.mk op n a l).op (Ex.mk op n a l).n v (Bk v (Ex.mk op n a l).l) (C9 v (Ex.mk op n a l).l)=NN op n v (Bk v l) (C9 v l) from rfl,<-key]
 match l,hk with
 |[],_=>simp only [Bk,C9];rfl
 |[x],hk=>
  have hx:=hk x (by simp [Ex.l]);simp only [Bk,C9];show (k (x,v)).bind _=_;rw [hx];rfl
 |x::y::r,hk=>
  have hx:=hk x (by simp [Ex.l]);have c:=hk y (by simp [Ex.l]);simp only [Bk,C9];have d0:decide ((0:Int)<(List.length (x::y::r):Int))=true:=cy (by simp only [ei];omega);have d1:decide ((1:Int)<(List.length (x::y::r):Int))=true:=cy (by simp only [ei];omega);show (bif decide ((0:Int)<(List.length (x::y::r):Int)) then _ else _)=_;rw [d0];show (k (x,v)).bind _=_;rw [hx];show (bif decide ((1:Int)<(List.length (x::y::r):Int)) then _ else _)=_;rw [d1];show (k (y,v)).bind _=_;rw [c];rfl
theorem adZ{a:Int}(v:zn):∀(N:Nat) (e:Ex),e.sz<=N->jy a e=true->((rt e).1=1\/(rt e).1=2)->ao (λk (s:Ex×zn)=>ln k s.1 s.2) N (e,v)=some (ev v e):=by
 intro N
 induction N with
 |zero=>intro e h;have:=Hf e;omega
 |succ N ih=>
  intro e h hm ht;rw [au];refine amJ _ e v (λx hx=>ih x (by have:=Is hx;omega) ((Kg hm).2.2.2.2 x hx) (aav hm ht x hx)) (λb=>aoV v (λx hx=>?_));rw [rt_eq] at ht;have c:(rP e.op e.at_ (e.l.length:Int) e.l 0 0 0).1=2:=by
   rcases ht with h|h
   .have:=SB _ _ _ _ _ _ _ h;omega
   .exact h
  exact an1 v x.sz x (c8 _) (Mk _ _ _ b (Mm _ _ _ _ _ _ _ c).2 _ _ _ _ (by omega) c x hx).1
theorem Ph{a:Int}(v:zn)(e:Ex)(h:e.sz<1152921504606846)(hm:jy a e=true)(ht:(rt e).1=1\/(rt e).1=2):eB e v=some (ev v e):=adZ v ax e (by show e.sz<=2^64;omega) hm ht
variable {v : zn}
namespace Sp
theorem Vc(m:Sy.bn)(w:zn)(hn:w.length=m.2.1.length)(d:w.length<1000):∀(r pre:zn) (rs ps:yx),w=pre++r->m.2.1=ps++rs->ps.length=pre.length->rs.length=r.length->
  ∀M,r.length<M->ao (iy m w) M (pre.length:Int)=some (bif fits rs r then (w,0) else ([],6))
 |[],pre,rs,ps,h,hS,hl,hr,M,hM=>by
  obtain ⟨m,rfl⟩:∃m,M=m+1:=⟨M-1,by simp at hM;omega⟩;rw [au];simp only [iy,Sy.pS h,ca];have:rs=[]:=ej hr;subst this;rfl
 |x::r,pre,[],ps,h,hS,hl,hr,M,hM=>by simp at hr
 |x::r,pre,s::rs,ps,h,hS,hl,hr,M,hM=>by
  obtain ⟨k,rfl⟩:∃k,M=k+1:=⟨M-1,by omega⟩;rw [au];have e:idx m.2.1 (pre.length:Int)=some s:=by rw [<-hl];exact Sy.jv hS
  have a:pre.length+r.length+1=w.length:=by rw [h];simp;omega
  have ih:=Vc m w hn d r (pre++[x]) rs (ps++[s]) (by rw [h];simp) (by rw [hS];simp) (by simp;omega) (by simpa using hr) k (by simp at hM;omega);rw [show ((pre++[x]).length:Int)=((pre.length+1:Nat):Int) by simp] at ih;simp only [iy,Sy.pL h,cp,Sy.jv h,ah,e,Pa.cz (show pre.length<4611686018427387904 by omega),ih,fits,aV,abx];by_cases c:x<s.1
  .rw [cy c,wi,cp,c9 (show ¬s.1<=x by omega)];rfl
  .rw [c9 c,cy (show s.1<=x by omega)];simp only [ko,cp,mm,mi];by_cases b:s.2<x
   .rw [cy b,c9 (show ¬x<=s.2 by omega)];rfl
   .rw [c9 b,cy (show x<=s.2 by omega)];rfl
theorem Qc(m:Sy.bn)(v:zn)(hm:uU m.2.1 m.2.2.2.2)(hn:v.length=m.2.1.length)(k:Int)(e:Sy.aS)(hk:idx m.2.2.2.2 k=some e)(a:e∈m.2.2.2.2):
  ∀(r pre:List (Int×Ex)),e.2.2=pre++r->∀(w:zn) (M:Nat),w.length=v.length->r.length<M->
   ao (kJ m v k) M (w,(pre.length:Int))=some (fin m.2.1 (r.foldl (Lq v) w))
 |[],pre,h,w,M,hw,hM=>by
  obtain ⟨n,rfl⟩:∃n,M=n+1:=⟨M-1,by simp at hM;omega⟩;rw [au];have i:v.length<1000:=by have:=hm.dq;omega
  simp only [kJ,hk,ah,Sy.pS h,ca,List.foldl_nil,fin];exact Vc m w (by omega) (by omega) w [] m.2.1 [] rfl rfl rfl (by omega) ax (by show _<2^64;omega)
 |s::r,pre,h,w,M,hw,hM=>by
  obtain ⟨n,rfl⟩:∃n,M=n+1:=⟨M-1,by omega⟩;rw [au];have b:s∈e.2.2:=by rw [h];simp
  obtain ⟨g,o,l⟩:=(hm.sets e a).2 s b;obtain ⟨f,d⟩:=hm.rsets e a s b;have j:=(hm.sets e a).1;have c:pre.length+r.length+1=e.2.2.length:=by rw [h];simp;omega
  obtain ⟨x,hx,_⟩:=oP w s.1 g (by omega);have ih:=Qc m v hm hn k e hk a r (pre++[s]) (by rw [h];simp) (Lq v w s) n (by rw [Ou,hw]) (by simp at hM;omega);rw [show ((pre++[s]).length:Int)=((pre.length+1:Nat):Int) by simp] at ih;simp only [kJ,hk,ah,Sy.pL h,cp,Sy.jv h];rw [Ph v s.2 (by omega) f (.inl d)];simp only [ah,hx,Pa.cz (show pre.length<4611686018427387904 by omega)];exact ih
theorem aiy{m:Sy.bn}(hm:uU m.2.1 m.2.2.2.2)(hn:v.length=m.2.1.length)(k:Int):nQ m v k=some (Ma m.2.1 m.2.2.2.2 v k):=by
 have e:v.length<1000:=by have:=hm.dq;omega
 unfold nQ;simp only [aV];unfold Ma;by_cases hk:k<0\/(m.2.2.2.2.length:Int)<=k
 .rw [du hk];rw [show (decide (k<0)||decide ((List.length m.2.2.2.2:Int)<=k))=true by rw [fi,gj,gj];exact hk,cp]
 .rw [df hk];rw [show (decide (k<0)||decide ((List.length m.2.2.2.2:Int)<=k))=false by rw [qk];intro h;rw [fi,gj,gj] at h;exact hk h,ca];obtain ⟨c,d,b⟩:=oP m.2.2.2.2 k (by omega) (by omega);rw [Sy.aN (Sy.cO (by simp;omega) (by simp;omega)),l9];have a:c∈m.2.2.2.2:=gr b;have:=Qc m v hm hn k c d a c.2.2 [] rfl v ax rfl (by have:=(hm.sets c a).1;show _<2^64;omega);rw [show (0:Int)=((([]:List (Int×Ex)).length:Nat):Int) from rfl,this];unfold eW;rw [b];rfl
theorem ZW(m:Sy.bn)(v:zn)(hm:uU m.2.1 m.2.2.2.2):∀(r pre:List Sy.aS),m.2.2.2.2=pre++r->∀(out:zn) (M:Nat),out.length<=pre.length->r.length<M->
  ao (iX m v) M (out,(pre.length:Int))=some (out++mb v pre.length r)
 |[],pre,h,out,M,b,hM=>by
  obtain ⟨k,rfl⟩:∃k,M=k+1:=⟨M-1,by simp at hM;omega⟩;rw [au];simp only [iX,Sy.pS h,ca,mb,ma]
 |c::r,pre,h,out,M,b,hM=>by
  obtain ⟨k,rfl⟩:∃k,M=k+1:=⟨M-1,by omega⟩;rw [au];have d:pre.length+r.length+1=m.2.2.2.2.length:=by rw [h];simp;omega
  have i:=hm.cmds;have g:=hm.guard c (by rw [h];simp);obtain ⟨f,e⟩:=hm.rguard c (by rw [h];simp);simp only [iX,Sy.pL h,cp,Sy.jv h,ah];rw [Ph v c.2.1 (by omega) f (.inr e),ah];have ih:=λout b=>ZW m v hm r (pre++[c]) (by rw [h];simp) out k b (by simp at hM;omega);rw [show ((pre++[c]).length:Int)=((pre.length+1:Nat):Int) by simp,show (pre++[c]).length=pre.length+1 by simp] at ih;simp only [Pa.cz (show pre.length<4611686018427387904 by omega),mb];by_cases a:ev v c.2.1=1
  .rw [du a,show (ev v c.2.1==1)=true by simpa using a,cp,Sy.aN (Sy.cO (by simp;omega) (by simp;omega)),ih _ (by simp;omega),cb];rfl
  .rw [df a,show (ev v c.2.1==1)=false by simpa using a,ca,ih _ (by omega)]
theorem an0{m:Sy.bn}(hm:uU m.2.1 m.2.2.2.2):pc m v=some (mb v 0 m.2.2.2.2):=
 ZW m v hm m.2.2.2.2 [] rfl [] ax (c8 _) (by have:=hm.cmds;show _<2^64;omega)
theorem Cg{l:x3}:(CY v 0 l<0->ga l v=l++[v])/\(¬CY v 0 l<0->ga l v=l):=by
 unfold ga;constructor
 .intro h;rw [Gr] at h;rw [df (by simpa using h)]
 .intro h;rw [Gr] at h;rw [du (by simpa using h)]
theorem Rh(m:Sy.bn)(v:zn)(hm:uU m.2.1 m.2.2.2.2)(hn:v.length=m.2.1.length)(L:zn)(n:∀i∈L,0<=i/\i<m.2.2.2.2.length)(g:L.length<=300):
  ∀(r pre:zn),L=pre++r->∀(l:x3) (M:Nat),(∀w∈l,km m.2.1 w)->l.length<=pre.length->r.length<M->
   ao (kK m v L) M (l,(pre.length:Int))=some (bif (r.map (eW m.2.2.2.2 v)).all (fits m.2.1) then (cV l (r.map (eW m.2.2.2.2 v)),0) else ([],6))
 |[],pre,h,l,M,hs,hl,hM=>by
  obtain ⟨k,rfl⟩:∃k,M=k+1:=⟨M-1,by simp at hM;omega⟩;rw [au];simp only [kK,Sy.pS h,ca];rfl
 |i::r,pre,h,l,M,hs,hl,hM=>by
  obtain ⟨k,rfl⟩:∃k,M=k+1:=⟨M-1,by omega⟩;rw [au];have j:pre.length+r.length+1=L.length:=by rw [h];simp;omega
  obtain ⟨e,d⟩:=n i (by rw [h];simp);simp only [kK,Sy.pL h,cp,Sy.jv h,ah];rw [aiy hm hn i];unfold Ma;rw [df (by omega),ah];unfold fin;rw [eT,qp];obtain ⟨c,_,q⟩:=oP m.2.2.2.2 i e d;have f:(eW m.2.2.2.2 v i).length=m.2.1.length:=by unfold eW;rw [q,<-hn];exact KC v c
  cases p:fits m.2.1 (eW m.2.2.2.2 v i)
  .rfl
  .have b:km m.2.1 (eW m.2.2.2.2 v i):=⟨f,p⟩;simp only [cp,mi];rw [show ((0:Int) != 0)=false from rfl,ca,sV l _ (by omega) (λw a=>(hs w a).short hm.toSafeS),ah];have o:=yJ l (eW m.2.2.2.2 v i);have ih:=Rh m v hm hn L n g r (pre++[i]) (by rw [h];simp) (ga l (eW m.2.2.2.2 v i)) k (λw a=>by
    rcases OK.1 a with h|h
    .exact hs w h
    .rw [h];exact b) (by simp;omega) (by simp at hM;omega)
   rw [show ((pre++[i]).length:Int)=((pre.length+1:Nat):Int) by simp] at ih;simp only [Pa.cz (show pre.length<4611686018427387904 by omega),List.foldl_cons,cV] at ih ⊢;by_cases hp:CY (eW m.2.2.2.2 v i) 0 l<0
   .rw [cy hp,cp,Sy.aN (Sy.cO (by simp;omega) (by simp;omega)),<-Cg.1 hp];exact ih
   .rw [c9 hp,ca];rw [Cg.2 hp] at ih ⊢;exact ih
theorem ZG{m:Sy.bn}(hm:uU m.2.1 m.2.2.2.2)(g:km m.2.1 v):kA m v=some (bO m.2.1 m.2.2.2.2 v):=by
 have b:=Hc v m.2.2.2.2 0;have d:(mb v 0 m.2.2.2.2).length<=300:=by rw [Hc];have:=qQ (λc:Sy.aS=>decide (ev v c.2.1=1)) m.2.2.2.2;have:=hm.cmds;unfold Xq;omega
 have a:(mb v 0 m.2.2.2.2).map (eW m.2.2.2.2 v)=goes v m.2.2.2.2:=Sr v m.2.2.2.2 m.2.2.2.2 [] rfl;have j:=Rh m v hm g.len (mb v 0 m.2.2.2.2) (λi hi=>ahH hi) d (mb v 0 m.2.2.2.2) [] rfl [] ax (λw k=>by cases k) (c8 _) (by show _<2^64;omega);rw [a,show ((([]:zn).length:Nat):Int)=0 from rfl] at j;unfold kA;rw [an0 hm,ah,j,l9,Sy.aN (Sy.cO (by have:=g.short hm.toSafeS;simp;omega) (by have:=g.short hm.toSafeS;simp;omega))];unfold bO LY;by_cases f:goes v m.2.2.2.2=[]
 .have h:(mb v 0 m.2.2.2.2).length=0:=by rw [b];unfold goes at f;have:=congrArg List.length f;simpa using this
  rw [du f,show ((List.length (mb v 0 m.2.2.2.2):Int)==0)=true by rw [h];rfl,cp]
 .have h:(mb v 0 m.2.2.2.2).length≠0:=by rw [b];intro e;apply f;unfold goes;rw [ej e];rfl
  rw [df f,show ((List.length (mb v 0 m.2.2.2.2):Int)==0)=false by simp;simpa using h,ca]
end Sp
namespace Sp
def gA(S:yx)(cmds:List Sy.aS)(most:Int):Nat->x3->Nat->x3×Int×zn
 |0,l,_=>(l,0,[])
 |f+1,l,i=>
  if (l.length:Int)<=most then
   match l[i]? with
   |some v=>if (bO S cmds v).2=0 then gA S cmds most f (cV l (bO S cmds v).1) (i+1) else ([],(bO S cmds v).2,v)
   |none=>(l,0,[])
  else ([],7,[])
end Sp
namespace Sp
theorem Vn{S:yx}{cmds:List Sy.aS}(hS:SafeS S cmds)(i:Int)(a:x3×Int->Option (x3×Int×zn))(q:x3×Int)(d:∀w∈q.1,km S w)(c:q.1.length<1000):
  ∀(r pre:x3),q.1=pre++r->∀(l:x3) (M:Nat),(∀w∈l,km S w)->l.length<=100000+pre.length->r.length<M->
   ao (jZ i a q) M (l,(pre.length:Int))=a (cV l r,i64.wrap (i+1))
 |[],pre,h,l,M,hs,hl,hM=>by
  obtain ⟨k,rfl⟩:∃k,M=k+1:=⟨M-1,by simp at hM;omega⟩;rw [au];simp only [jZ,Sy.pS h,ca];rfl
 |w::r,pre,h,l,M,hs,hl,hM=>by
  obtain ⟨k,rfl⟩:∃k,M=k+1:=⟨M-1,by omega⟩;rw [au];have e:pre.length+r.length+1=q.1.length:=by rw [h];simp;omega
  have b:=d w (by rw [h];simp);have g:=yJ l w;have ih:=Vn hS i a q d c r (pre++[w]) (by rw [h];simp) (ga l w) k (λu f=>by
    rcases OK.1 f with h|h
    .exact hs u h
    .rw [h];exact b) (by simp;omega) (by simp at hM;omega)
  rw [show ((pre++[w]).length:Int)=((pre.length+1:Nat):Int) by simp] at ih;simp only [jZ,Sy.pL h,cp,Sy.jv h,ah,Pa.cz (show pre.length<4611686018427387904 by omega)];rw [sV l _ (by omega) (λw b=>(hs w b).short hS),ah];simp only [List.foldl_cons,cV] at ih ⊢;by_cases hp:CY w 0 l<0
  .rw [cy hp,cp,Sy.aN (Sy.cO (by simp;omega) (by simp;omega)),<-Cg.1 hp];exact ih
  .rw [c9 hp,ca];rw [Cg.2 hp] at ih ⊢;exact ih
theorem Nj(m:Sy.bn)(hm:uU m.2.1 m.2.2.2.2)(most:Int)(c:most<=1000):∀(k:Nat) (i:Nat) (l:x3) (F M:Nat),
  (∀w∈l,km m.2.1 w)->most.toNat+1-i<=k->i<=1001->l.length<100000->(i<l.length\/(l.length:Int)<=most)->k<F->k<M->
   ao (gV m most) M (l,(i:Int))=some (gA m.2.1 m.2.2.2.2 most F l i)
 |0,i,l,F,M,hl,hk,hi,hll,hor,hF,hM=>by
  obtain ⟨n,rfl⟩:∃n,M=n+1:=⟨M-1,by omega⟩;obtain ⟨f,rfl⟩:∃f,F=f+1:=⟨F-1,by omega⟩;rw [au,gA];simp only [gV];by_cases a:(l.length:Int)<=most
  .have hn:¬((i:Int)<(l.length:Int)):=by omega
   rw [du a,c9 hn,ca];rw [l7 (by omega)]
  .rw [df a,cy (show (i:Int)<(l.length:Int) by omega),cp,cy (by omega),cp]
 |k+1,i,l,F,M,hl,hk,hi,hll,hor,hF,hM=>by
  obtain ⟨n,rfl⟩:∃n,M=n+1:=⟨M-1,by omega⟩;obtain ⟨f,rfl⟩:∃f,F=f+1:=⟨F-1,by omega⟩;rw [au,gA];simp only [gV];by_cases a:(l.length:Int)<=most
  .rw [du a];by_cases d:(i:Int)<(l.length:Int)
   .obtain ⟨v,j,b⟩:=oP l (i:Int) (by omega) d;rw [show ((i:Int)).toNat=i from rfl] at b;have e:=hl v (gr b);rw [cy d,cp,c9 (show ¬most<(l.length:Int) by omega),ca,j,ah,ZG hm e,ah,b];simp only;by_cases g:(bO m.2.1 m.2.2.2.2 v).2=0
    .rw [show ((bO m.2.1 m.2.2.2.2 v).2 != 0)=false by simpa using g,ca,du g];have o:=EN (S:=m.2.1) (cmds:=m.2.2.2.2) v;have s:=hm.cmds;have p:=Vn hm.toSafeS (i:Int) (ao (gV m most) n) (bO m.2.1 m.2.2.2.2 v) (yw e) (by omega) (bO m.2.1 m.2.2.2.2 v).1 [] rfl l ax hl (by simp;omega) (by show _<2^64;omega);rw [show ((([]:x3).length:Nat):Int)=0 from rfl] at p;rw [p,Pa.cz (show i<4611686018427387904 by omega)];have r:=vE (bO m.2.1 m.2.2.2.2 v).1 l;exact Nj m hm most c k (i+1) _ f n (λw q=>by
      rcases jR.1 q with h|h
      .exact hl w h
      .exact yw e w h) (by omega) (by omega) (by omega) (by omega) (by omega) (by omega)
    .rw [show ((bO m.2.1 m.2.2.2.2 v).2 != 0)=true by simpa using g,cp,df g,ah]
   .rw [c9 d,ca];rw [l7 (by omega)]
  .rw [df a,cy (show (i:Int)<(l.length:Int) by omega),cp,cy (by omega),cp]
theorem ahV{m:Sy.bn}(hm:uU m.2.1 m.2.2.2.2)(hi:km m.2.1 m.2.2.1)(most:Int)(a:most<=1000):jN m most=some (gA m.2.1 m.2.2.2.2 most 2000 [m.2.2.1] 0):=by unfold jN;have pr:=hi.short hm.toSafeS;rw [Sy.aN (Sy.cO (by simp;omega) (by simp;omega)),l9];exact Nj m hm most a 1001 0 [m.2.2.1] 2000 ax (λw b=>by rw [List.mem_singleton.1 b];exact hi) (by omega) (by omega) (by simp) (.inl (by simp)) (by omega) (by show _<2^64;omega)
end Sp
mutual
def ht:Ex->Nat
 | .mk _ _ _ l=>htL l+1
def htL:List Ex->Nat
 |[]=>0
 |x::r=>max (ht x) (htL r)
end
namespace Ns
theorem Mn{σ ρ:Type}{F:(σ->Option ρ)->σ->Option ρ}(f:Nat->σ)(P:Nat->Prop)(R:Option ρ->Prop)(n:Nat)(hn:n<9223372036854775807)
  (e:∀i,i<n->(∀j,j<i->P j)->∀k,R (F k (f i))\/(P i/\F k (f i)=k (f (i+1)))) (h:(∀j,j<n->P j)->∀k,R (F k (f n))):R (ao F ax (f 0)):=by
 have key:∀(d i m:Nat),i+d=n->d<m->(∀j,j<i->P j)->R (ao F m (f i)):=λd=>by
  induction d with
  |zero=>
   intro i m c b a;obtain ⟨m,rfl⟩:∃q,m=q+1:=⟨m-1,by omega⟩;grind [au]
  |succ d ih=>
   intro i m c b a;obtain ⟨m,rfl⟩:∃q,m=q+1:=⟨m-1,by omega⟩;rw [au];grind
 exact key n 0 ax (by omega) (by show n<2^64;omega) (λj g=>by omega)
theorem ed{α:Type}{l:List α}{i:Nat}(h:i<l.length):idx l (i:Int)=some l[i]:=by simp_all [idx]
end Ns
namespace Ns
open Sp
structure lR(m:bn)(a:Au):Prop where
 hm:uU m.2.1 m.2.2.2.2
 hi:km m.2.1 m.2.2.1
 ha:Pd.sW a a.1.length
 lit:∀l∈a.1,∀e∈l,jy (m.1.length:Int) e=true/\(rt e).1=2/\e.sz<1000000
 dq:Yw a
variable {m : bn} {a : Au}
theorem aoo(h:lR m a){q:Int}(g:0<=q/\q<(a.1.length:Int))(v:V):s8 a q v=some (Pd.nH a q v):=by
 obtain ⟨i,rfl⟩:∃i:Nat,q=(i):=⟨q.toNat,by omega⟩;have hi:i<a.1.length:=by omega
 have hl:=(h.ha.row _ (eF hi)).1;have c:Pd.nH a (i) v=a.1[i].all λe=>ev v e==1:=by grind [Pd.nH,Pd.ZI]
 rw [c];refine Mn (F:=kR a (i) v) (λj=>(j)) (λj=>∀e,a.1[i][j]? =some e->ev v e=1) (λx=>x=some (a.1[i].all λe=>ev v e==1)) a.1[i].length (by omega) (λj b _ k=>?_) (λl k=>?_)
 .unfold kR;obtain ⟨f,d,o⟩:=h.lit _ (eF hi) _ (eF b);rw [ed hi,So.ah,cy (by omega),cp,So.ah,ed b,So.ah,Ph v _ (by omega) f (.inr d),So.ah];by_cases n:ev v a.1[i][j]=1
  .grind [List.getElem?_eq_getElem,Pa.cz]
  grind
 .unfold kR;rw [ed hi,So.ah,c9 (by omega),ca];grind [List.all_eq_true,List.mem_iff_getElem?,List.getElem?_eq_some_iff]
theorem ahB(v:V)(p q:zn):Pd.dD a v (p++q)=Pd.dD a v p++Pd.dD a v q:=by simp [Pd.dD]
theorem G0{A R:Type}{d:A}{x:Option A}{f:A->Option R}:bF true d x f=x.bind f:=rfl
theorem amU{A R:Type}{d:A}{x:Option A}{b:A->Bool}{p q:Option R}:(bF false d x λr=>ai (b r) λc=>ai (false&&c) λe=>bif e then p else q)=q:=rfl
theorem alC(h:lR m a){v:V}(p:v.length<1000000){qs:zn}(n:∀q∈qs,0<=q/\q<(a.1.length:Int))(j:qs.length<=5000){l:List V}(hl:l.length<=20000000)(g:∀w∈l,w.length<2000000):
  lD l a v qs=some (cV l (Pd.dD a v qs)):=by
 have c:∀i,(cV l (Pd.dD a v (qs.take i))).length<=l.length+i:=λi=>by grind [vE,Pd.dD,Pd.Kd]
 have e:∀i,∀w∈cV l (Pd.dD a v (qs.take i)),w.length<2000000:=λi w b=>by
  rcases jR.1 b with d|d
  .exact g w d
  .obtain ⟨q,_,_,rfl⟩:=Pd.Eo d;simp;omega
 refine Mn (F:=jF a v qs) (λi=>(cV l (Pd.dD a v (qs.take i)),(i))) (λ_=>True) (λx=>x=some (cV l (Pd.dD a v qs))) qs.length (by omega) (λi hi _ k=> .inr ⟨trivial,?_⟩) (λ_ k=>?_)
 .unfold jF;dsimp only;have d:=c i;rw [cy (by omega),cp,ed hi,So.ah,Sy.aN (Sy.cO (by simp;omega) (by simp;omega)),Sy.aN (Sy.cO (by simp;omega) (by simp;omega)),So.ah,aoo h (n _ (eF hi)),So.ah,l9,Pa.cz (by omega)];rw [show qs.take (i+1)=qs.take i++[qs[i]] from q0 hi,ahB,Pd.Ov];cases f:Pd.nH a qs[i] v with
  |false=>
   have:Pd.dD a v [qs[i]]=[]:=by simp [Pd.dD,f]
   rw [this,show cV (cV l (Pd.dD a v (qs.take i))) []=cV l (Pd.dD a v (qs.take i)) from rfl];rw [amU]
  |true=>
   have o:Pd.dD a v [qs[i]]=[v++[qs[i]]]:=by simp [Pd.dD,f]
   rw [o];rw [G0,sV _ _ (by omega) (λw b=>by grind),So.ah];simp only [So.aV,mi];have hd:cV (cV l (Pd.dD a v (qs.take i))) [v++[qs[i]]]=ga (cV l (Pd.dD a v (qs.take i))) (v++[qs[i]]):=rfl;rw [hd];by_cases hp:CY (v++[qs[i]]) 0 (cV l (Pd.dD a v (qs.take i)))<0
   .rw [cy hp,cp,Cg.1 hp,Sy.aN (Sy.cO (by simp;omega) (by simp;omega))]
   .rw [c9 hp,ca,Cg.2 hp]
 simp_all [jF,ca]
theorem CZ(h:lR m a){v:V}(b:km m.2.1 v):v.length<1000000:=by have d:=b.len;have c:=h.hm.dq;omega
theorem aph(h:lR m a):np m a=some (Gk m a):=by unfold np;have:=h.ha.init;rw [alC h (CZ h h.hi) this.2 this.1 (by simp) (λw b=>by cases b)];rfl
theorem afR(h:lR m a){x:V}(hx:Pd.St m a.1.length x):x.length<1000001:=by obtain ⟨v,q,rfl,b,_⟩:=hx;grind [CZ]
theorem apD(h:lR m a){x:V}(hx:Pd.St m a.1.length x):nX m a x=some (Pd.bP m a x):=by
 obtain ⟨v,q,rfl,g,A⟩:=hx;rw [Pd.Cm];have s:=CZ h g;unfold nX Pd.Ez;have r:i64.wrap ((List.length (v++[q]))-1)=(v.length):=by grind [bR]
 have y:aT (v++[q]) 0 (v.length)=v:=by unfold aT;simp
 rw [r,Sy.aN (by grind [cR]),y,ZG h.hm g,So.ah];have o:=EN (S:=m.2.1) (cmds:=m.2.2.2.2) v;have t:=h.hm.cmds;by_cases n:(bO m.2.1 m.2.2.2.2 v).2=0
 .rw [du n,show ((bO m.2.1 m.2.2.2.2 v).2 != 0)=false by simp [n],ca];obtain ⟨i,rfl⟩:∃i:Nat,q=(i):=⟨q.toNat,by omega⟩;have hi:i<a.2.1.length:=by have:=h.ha.next;omega
  have l:Pd.sk a (i)=a.2.1[i]:=by grind [Pd.sk]
  have c:=h.ha.nxt _ (eF hi);have f:∀w∈(bO m.2.1 m.2.2.2.2 v).1,w.length<1000000:=λw b=>CZ h (yw g w b);have d:∀j,j<=(bO m.2.1 m.2.2.2.2 v).1.length->(cV [] (Pd.oA a a.2.1[i] ((bO m.2.1 m.2.2.2.2 v).1.take j))).length<=5000*j:=λj e=>by grind [vE,Pd.oA,bO,Pd.KI,min]
  rw [l];refine Mn (F:=kN a (v++[(i:Int)]) (bO m.2.1 m.2.2.2.2 v)) (λj=>(cV [] (Pd.oA a a.2.1[i] ((bO m.2.1 m.2.2.2.2 v).1.take j)),(j))) (λ_=>True) (λx=>x=some (cV [] (Pd.oA a a.2.1[i] (bO m.2.1 m.2.2.2.2 v).1),0)) (bO m.2.1 m.2.2.2.2 v).1.length (by omega) (λj e _ k=> .inr ⟨trivial,?_⟩) (λ_ k=>?_)
  .unfold kN;dsimp only;have e3:idx (v++[(i:Int)]) (v.length)=some (i:Int):=by grind [ed]
   rw [cy (by omega),cp,ed e,So.ah,r,e3,So.ah,ed hi,So.ah];have B:=d j (by omega);rw [alC h (f _ (eF e)) c.2 c.1 (by omega) (λw b=>?_),So.ah,Pa.cz (by omega),show (bO m.2.1 m.2.2.2.2 v).1.take (j+1)=(bO m.2.1 m.2.2.2.2 v).1.take j++[(bO m.2.1 m.2.2.2.2 v).1[j]] from q0 e]
   .grind [Pd.oA,Pd.Ov]
   .rcases jR.1 b with b|b
    .cases b
    .obtain ⟨u,z,b⟩:=List.mem_flatMap.1 b;obtain ⟨p,_,_,rfl⟩:=Pd.Eo b;grind
  simp_all [kN,ca]
 grind
end Ns
namespace Ns
open Sp
variable {m : bn} {a : Au}
theorem apz(h:lR m a):∀x∈Gk m a,Pd.St m a.1.length x:=λx hx=>by
 rcases jR.1 hx with hx|hx
 .cases hx
 .obtain ⟨q,b,_,rfl⟩:=Pd.Eo hx;exact ⟨_,q,rfl,h.hi,h.ha.init.2 q b⟩
def Xc(S:List So.Fd)(cap:Int)(Us W G:List V)(t:St):Prop:=
 (∃(L:List V) (g:So.Gf),So.E3 t S cap L g/\L.Nodup/\(∀x∈L,x∈Us)/\(∀x∈W,x∈L)/\∀x∈G,g true x=true)\/
 (∃(M K:Nat) (seed:Int) (p0 p1 p2:Nat->Bool),So.OkL t S M K seed p0 p1 p2/\(∀x∈W,So.aj4 S x seed K M p0=true)/\∀x∈G,(So.plS S x seed K M).all p2=true)
structure Ej(S:List So.Fd)(Us:List V):Prop where
 right:So.nE S
 mem:∀x∈Us,So.In S x/\x.length<100000000
theorem YI{p:Nat->Bool}{l:zo}(q:zo)(h:l.all p=true):l.all (So.Bh p q)=true:=by simp_all [So.Bh]
theorem ab6(p:Nat->Bool)(l:zo):l.all (So.Bh p l)=true:=by simp_all [So.Bh,List.contains_iff_mem]
theorem agk{S:List So.Fd}{Us:List V}(hS:Ej S Us){cap:Int}{Bd:Er->Prop}(h:cap<(Us.length:Int)->Bd (.inl (7,[])))(W G:List V)(t:St)(x:V)(ht:Xc S cap Us W G t)(hx:x∈Us):
  (∃e,wH t x=some (.error e)/\Bd (.inl e))\/(∃t',wH t x=some (.ok (false,t'))/\Xc S cap Us (x::W) G t')\/(∃t',wH t x=some (.ok (true,t'))/\Xc S cap Us (x::W) G t'/\x∉W):=by
 obtain ⟨f,hl⟩:=hS.mem x hx;have l:=So.pG.2 f;unfold wH;rcases ht with ⟨L,g,i,n,p,d,c⟩|⟨M,K,seed,p0,p1,p2,i,d,c⟩
 .obtain ⟨t',j,a,_⟩:=So.agD hS.right i x hl;rw [j,So.ah];unfold So.OR at a ⊢;rw [du l] at a ⊢;unfold So.vw at a ⊢;by_cases hm:x∈L
  .rw [du hm] at a ⊢;exact .inr (.inl ⟨t',rfl,.inl ⟨L,g,a,n,p,λz b=>by
    grind,c⟩⟩)
  .rw [df hm] at a ⊢;by_cases o:cap<=(L.length)
   .have:=Df.xl (List.nodup_cons.2 ⟨hm,n⟩) (m:=Us) (λz b=>by grind)
    grind
   .rw [df o] at a ⊢;refine .inr (.inr ⟨t',rfl,.inl ⟨_,g,a,?_,λz b=>?_,λz b=>?_,c⟩,λk=>hm (d x k)⟩)
    .grind
    .grind
    grind
 .obtain ⟨t',j,a⟩:=So.ame (So.nE.fds hS.right) i x hl;rw [j,So.ah];rw [du l] at a ⊢;cases hm:So.aj4 S x seed K M p0 with
  |true=>
   refine .inr (.inl ⟨t',rfl,.inr ⟨M,K,seed,_,p1,p2,a,λz b=>?_,c⟩⟩);rcases List.mem_cons.1 b with rfl|b
   .exact ab6 _ _
   .exact YI _ (d z b)
  |false=>
   refine .inr (.inr ⟨t',rfl,.inr ⟨M,K,seed,_,p1,p2,a,λz b=>?_,c⟩,λk=>by grind⟩);rcases List.mem_cons.1 b with rfl|b
   .exact ab6 _ _
   .exact YI _ (d z b)
end Ns
namespace Ns
open Sp
variable {m : bn} {a : Au} {Us : List V} {Bd : Er -> Prop} {cap most : Int}
structure Ends(m:bn)(a:Au)(Us:List V)(cap most:Int)(Bd:Er->Prop):Prop where
 st:∀x∈Us,Pd.St m a.1.length x
 next:∀x∈Us,(Pd.bP m a x).2=0->∀y∈(Pd.bP m a x).1,y∈Us
 full:cap<(Us.length:Int)->Bd (.inl (7,[]))
 stack:most<(Us.length:Int)->Bd (.inl (8,[]))
 code:∀x∈Us,(Pd.bP m a x).2≠0->Bd (.inl ((Pd.bP m a x).2,x.dropLast))
 found:∀p:List V×List V,(∀x∈p.1,x∈Us)->(∀x∈p.2,x∈Us)->p.2≠[]->p.1.length<=Us.length->p.2.length<=Us.length->Bd (.inr p)
theorem abI(h:lR m a)(b:Ends m a Us cap most Bd):agA Us 2000000 Bd (sb m a most):=λn y d hn=>by
 unfold sb;by_cases e:most<=(n)
 .rw [du e];exact .inl ⟨_,rfl,b.stack (by omega)⟩
 .rw [df e];by_cases c:(Pd.bP m a y).2=0
  .rw [du c];exact .inr ⟨_,rfl,b.next y d c,Pd.wg h.hm.toSafeS h.ha (b.st y d)⟩
  .rw [df c];exact .inl ⟨_,rfl,b.code y d c⟩
theorem N0{x:V}(hx:x∈Us){l:List V}(hl:∀z∈l,z∈Us):tG Us [(x,l)]:=
 ⟨λf a=>by grind,λf a=>by grind,by simp⟩
theorem S5{K:List V}{x:V}{l:List V}(a:Us.length<=1000000)(hl:l.length<=2000000):mu Us K*(2000000+2)+wt [(x,l)]<ax:=by have b:=apN (Us:=Us) (K:=K);show _<2^64;simp [wt,eT,List.map_nil,List.sum_cons,List.sum_nil];omega
theorem ag0{S:List So.Fd}(hS:Ej S Us)(f:Ends m a Us cap most Bd):afa Us (λK t=>Xc S cap Us K [] t) Bd wH:=λK t y hi d=>by
 rcases agk hS f.full K [] t y hi d with ⟨e,c,b⟩|⟨t',c,b⟩|⟨t',c,b,g⟩
 .grind
 .grind
 grind
end Ns
namespace Ns
open Sp
theorem ana:rD=some true:=by kernel_rfl
abbrev FA(m:bn)(a:Au):List So.Fd:=m.2.1++[(0,max 0 ((a.1.length:Int)-1))]
theorem HS{m:bn}{a:Au}(h:lR m a):So.nE (FA m a):=by
 have hk:=h.ha.dq;have e:=h.hm.pos;have d:=h.hm.dq;refine ⟨by simp [FA],by simp [FA];omega,λf b=>?_⟩;rcases List.mem_append.1 b with b|b
 .have c:=h.hm.field f b;exact ⟨c.lo,c.hi,c.le,c.wide⟩
 .rw [List.mem_singleton.1 b];dsimp only;omega
theorem amo{m:bn}{a:Au}(h:lR m a):So.FI (FA m a):=λf b=>by have:=(HS h).each f b;exact ⟨⟨by omega,by omega⟩,⟨by omega,by omega⟩⟩
theorem ahX{m:bn}{a:Au}(h:lR m a):uG m a=some (FA m a,0):=by
 have hk:=h.ha.dq;have d:=h.hm.dq;unfold uG;rw [bR (by omega)];have c:So.FI [((0:Int),max 0 ((a.1.length:Int)-1))]:=λf b=>by rw [List.mem_singleton.1 b];exact ⟨⟨by dsimp only;omega,by dsimp only;omega⟩,⟨by dsimp only;omega,by dsimp only;omega⟩⟩
 rw [So.Yk c,So.ah,So.Uv.2 ⟨by simp,by simp,λf b=>by rw [List.mem_singleton.1 b];dsimp only;omega⟩];show (cG m.2.1).bind _=_;rw [So.JP (by omega),So.ah,Sy.aN (Sy.cO (by simp;omega) (by simp;omega))]
theorem Xb:∀{S:yx} {v:zn},fits S v=true->∀(i:Nat) (h:i<S.length) (a:i<v.length),S[i].1<=v[i]/\v[i]<=S[i].2
 |s::S,n::w,h,0,_,_=>by
  simp only [fits,an,gj] at h;exact h.1
 |s::S,n::w,h,i+1,h1,h2=>by simp only [fits,an,gj] at h;exact Xb h.2 i (by simpa using h1) (by simpa using h2)
theorem apY{m:bn}{a:Au}(h:lR m a){x:V}(hx:Pd.St m a.1.length x):So.In (FA m a) x/\x.length<100000000:=by
 refine ⟨?_,by have:=afR h hx;omega⟩;obtain ⟨v,q,rfl,b,f⟩:=hx;have hl:=b.len;refine ⟨by simp [FA,hl],λi hi=>?_⟩;have d:i<m.2.1.length+1:=by simpa [FA] using hi
 by_cases c:i<m.2.1.length
 .have:=Xb b.fit i c (by omega);rw [List.getElem_append_left c,List.getElem_append_left (by omega)];exact this
 .have e:i=m.2.1.length:=by omega
  subst e;rw [List.getElem_append_right (by omega),List.getElem_append_right (by omega)];simp only [hl,Nat.sub_self,List.getElem_cons_zero];omega
theorem alP{m:bn}{a:Au}(h:lR m a){Us:List V}(b:∀x∈Us,Pd.St m a.1.length x):Ej (FA m a) Us:=⟨HS h,λx hx=>apY h (b x hx)⟩
end Ns
namespace Ns
open Sp
def iU(A:V):Au:=([[]],[[0]],[0],[A])
theorem WT(A:V):Pd.sW (iU A) 1:=by
 refine ⟨rfl,rfl,by omega,λl hl=>?_,⟨by simp [iU],λq a=>?_⟩,λl hl=>?_⟩
 .rw [List.mem_singleton.1 hl];exact ⟨by simp,nofun⟩
 .rw [List.mem_singleton.1 a];omega
 .rw [List.mem_singleton.1 hl];exact ⟨by simp,λq a=>by rw [List.mem_singleton.1 a];omega⟩
theorem Io{m:bn}(hm:uU m.2.1 m.2.2.2.2)(hi:km m.2.1 m.2.2.1){A:V}(b:A.length<100):lR m (iU A):=
 ⟨hm,hi,WT A,(λl hl e a=>by rw [List.mem_singleton.1 hl] at a;cases a),⟨A,[],rfl,by omega⟩⟩
abbrev g0(v:V):V:=v++[0]
theorem aib{A:V}(v:V):Pd.dD (iU A) v [0]=[g0 v]:=rfl
theorem alh{A:V}(a:List V):Pd.oA (iU A) [0] a=a.map g0:=by
 induction a with
 |nil=>rfl
 |cons w a ih=>
  have:Pd.oA (iU A) [0] (w::a)=Pd.dD (iU A) w [0]++Pd.oA (iU A) [0] a:=by simp [Pd.oA]
  rw [this,ih,aib];rfl
theorem acg(m:bn)(A:V):Gk m (iU A)=[g0 m.2.2.1]:=rfl
theorem akK{S:yx}{C:List Sy.aS}{v:V}(h:(bO S C v).2=0):∃w,w∈(bO S C v).1:=by
 unfold bO LY at h ⊢;by_cases a:goes v C=[]
 .rw [du a];exact ⟨v,List.mem_singleton.2 rfl⟩
 .rw [df a] at h ⊢;cases ha:(goes v C).all (fits S) with
  |false=>rw [ha] at h;cases h
  |true=>
   obtain ⟨w,hx⟩:=List.exists_mem_of_ne_nil _ a;exact ⟨w,jR.2 (.inr hx)⟩
theorem Oc{m:bn}{A:V}{v:V}(h:(bO m.2.1 m.2.2.2.2 v).2=0):(Pd.bP m (iU A) (g0 v)).2=0/\∀y,y∈(Pd.bP m (iU A) (g0 v)).1↔ ∃w∈(bO m.2.1 m.2.2.2.2 v).1,y=g0 w:=by rw [Pd.Cm];unfold Pd.Ez;rw [du h,show Pd.sk (iU A) 0=[0] from rfl,alh];refine ⟨rfl,λy=>?_⟩;simp only [jR,List.mem_map,qy,false_or];exact ⟨λ⟨w,b,a⟩=>⟨w,b,a.symm⟩,λ⟨w,b,a⟩=>⟨w,b,a.symm⟩⟩
structure Whole(m:bn)(a:Au)(Us:List V):Prop where
 st:∀x∈Us,Pd.St m a.1.length x
 code:∀x∈Us,(Pd.bP m a x).2=0
 next:∀x∈Us,∀y∈(Pd.bP m a x).1,y∈Us
 some_:∀x∈Us,∃y,y∈(Pd.bP m a x).1
 dq:Us.length<=1000
def Ch(nx:V->List V)(b:V):List V->Prop
 |[]=>False
 |[x]=>x=b
 |x::y::r=>x∈nx y/\Ch nx b (y::r)
theorem Ch.app{nx:V->List V}{b c:V}:∀{l:List V},Ch nx c l->∀{r:List V},Ch nx b (c::r)->Ch nx b (l++r)
 |[],h,_,_=>h.elim
 |[x],h,r,h2=>by
  have:x=c:=h;rw [this];exact h2
 |x::y::l,h,r,h2=>⟨h.1,Ch.app h.2 h2⟩
theorem Ch.up{nx:V->List V}{b x:V}{G:V->Prop}(d:∀z,G z->∀y∈nx z,G y/\y≠x):∀{a:V} {l:List V},Ch nx b (a::l)->∀{z:V},z∈l->G z->G a/\a≠x
 |a,[],_,z,c,_=>by cases c
 |a,y::l,h,z,c,hg=>by
  rcases List.mem_cons.1 c with rfl|c
  .exact d _ hg _ h.1
  .exact d _ (Ch.up d h.2 c hg).1 _ h.1
theorem Ch.at{nx:V->List V}{b:V}:∀{l:List V},Ch nx b l->l.reverse[0]? =some b/\∀i x y,l.reverse[i]? =some x->l.reverse[i+1]? =some y->y∈nx x
 |[],h=>h.elim
 |[x],h=>by
  have:x=b:=h;subst this;exact ⟨rfl,λi u y _ g=>by simp at g⟩
 |x::y::l,h=>by
  obtain ⟨k,j⟩:=Ch.at h.2;have hl:(y::l).reverse.length=l.length+1:=by simp
  rw [List.reverse_cons];refine ⟨by rw [eb (by omega)];exact k,λi u w e a=>?_⟩;by_cases hi:i+1<(y::l).reverse.length
  .rw [eb (by omega)] at e a;exact j i u w e a
  .have f:i+1=(y::l).reverse.length:=by have:=(List.getElem?_eq_some_iff.1 a).1;simp at this hi ⊢; omega
   rw [eb (by omega)] at e;rw [f,de (by omega),Nat.sub_self] at a;have a:x=w:=by simpa using a
   have d:(y::l).reverse[l.length]? =some u:=by rw [<-e];congr 1;omega
   rw [List.reverse_cons,de (by simp)] at d;have c:y=u:=by simpa using d
   rw [<-a,<-c];exact h.1
end Ns
namespace Ns
open Sp
variable {m : bn} {a : Au} {Us : List V} {cap most : Int} {S : List So.Fd}
theorem tS(c:Whole m a Us)(h:lR m a)(hm:(Us.length:Int)<=most){n:Nat}{y:V}(b:y∈Us)(hn:n<Us.length):sb m a most n y= .ok (Pd.bP m a y).1:=by unfold sb;rw [df (by omega),du (c.code y b)]
theorem ale(f:Whole m a Us)(h:lR m a)(hS:Ej S Us)(p:(Us.length:Int)<=cap)(hm:(Us.length:Int)<=most)(d:∀x,meet a x=false){x:V}(hx:x∈Us){t:St}(ht:Xc S cap Us [] [] t):∃t',ol m a most [x] t=some (.ok t'):=by
 have C:=f.dq;have i:afa Us (λK t=>Xc S cap Us K [] t) (λ_=>False) wH:=λK t y hi g=>by
  rcases agk hS (cap:=cap) (Bd:=λ_=>False) (λh=>by omega) K [] t y hi g with ⟨e,_,b⟩|⟨t',c,b⟩|⟨t',c,b,k⟩
  .exact b.elim
  .exact .inr (.inl ⟨y::K,t',c,b,λ_ h=>b7 _ h⟩)
  .exact .inr (.inr ⟨y::K,t',c,b,λ_ h=>b7 _ h,k,cx ..⟩)
 unfold ol;rcases i [] t x ht hx with ⟨e,_,b⟩|⟨K',t',c,b,_⟩|⟨K',t',c,b,k,B,q⟩
 .exact b.elim
 .rw [c];exact ⟨t',rfl⟩
 .rw [c];dsimp only [Option.bind_some];rw [tS f h hm hx (List.length_pos_of_mem hx)];dsimp only;have u:=Qm (nw:=wH) (se:=λ_ _=>none) (dn:=Yy m a most ax) (pu:=sb m a most) (Us:=Us) (N:=2000000) (Inv:=λK t=>Xc S cap Us K [] t) (Bd:=λ_=>False) (bot:=none)
   i (λ_ _ _ _ _ _ v=>by cases v) (λ_ _ _ p=>by cases p) (λK t s hi _ j=>by
    match s,j with
    |(z,l)::r,_=>
     unfold Yy;dsimp only;rw [d z];exact .inr ⟨K,t,rfl,hi,λ_ h=>h⟩) (λn y g hn=> .inr ⟨_,tS f h hm g hn,f.next y g,Pd.wg h.hm.toSafeS h.ha (f.st y g)⟩) ax t' [(x,(Pd.bP m a x).1)] K' b (N0 hx (f.next x hx)) (λz o=>by simp at o;rw [o];exact .inl q) (S5 (by omega) (Pd.wg h.hm.toSafeS h.ha (f.st x hx)))
  rcases u with ⟨e,_,w⟩|⟨D,t2,A,_⟩
  .exact w.elim
  .rw [show NG m a most ax t' [(x,(Pd.bP m a x).1)]=some (.ok t2) from A];exact ⟨t2,rfl⟩
theorem ZB(hS:Ej S Us)(j:(Us.length:Int)<=cap){L:List V}{g:So.Gf}{t:St}(ht:So.E3 t S cap L g)(hn:L.Nodup)(f:∀z∈L,z∈Us){x:V}(hx:x∈Us):
  ∃t',(x∈L/\wH t x=some (.ok (false,t'))/\So.E3 t' S cap L g)\/(x∉L/\wH t x=some (.ok (true,t'))/\So.E3 t' S cap (L++[x]) g/\(L++[x]).Nodup/\(∀z∈L++[x],z∈Us)/\L.length<Us.length):=by
 obtain ⟨d,hl⟩:=hS.mem x hx;obtain ⟨t',i,b,_⟩:=So.agD hS.right ht x hl;refine ⟨t',?_⟩;unfold wH;rw [i,So.ah];unfold So.OR at b ⊢;rw [du (So.pG.2 d)] at b ⊢;unfold So.vw at b ⊢;by_cases hm:x∈L
 .rw [du hm] at b ⊢;exact .inl ⟨hm,rfl,b⟩
 .have c:=Df.xl (l:=x::L) (List.nodup_cons.2 ⟨hm,hn⟩) (m:=Us) (λz a=>by
   rcases List.mem_cons.1 a with rfl|a
   .exact hx
   .exact f z a)
  simp at c;rw [df hm,df (by omega)] at b ⊢;refine .inr ⟨hm,rfl,b,?_,λz a=>?_,by omega⟩
  .rw [List.nodup_append];exact ⟨hn,by simp,λz a w h=>by rw [List.mem_singleton.1 h];exact λe=>hm (e▸a)⟩
  .rcases List.mem_append.1 a with a|a
   .exact f z a
   .rw [List.mem_singleton.1 a];exact hx
structure Flg(S:List So.Fd)(cap:Int)(Us G:List V)(t:St)(L:List V)(g:So.Gf):Prop where
 ok:So.E3 t S cap L g
 nd:L.Nodup
 sub:∀z∈L,z∈Us
 fl:∀z,g true z=true↔z∈G
theorem aop(hS:Ej S Us)(m:(Us.length:Int)<=cap){L G:List V}{g:So.Gf}{t:St}(h:Flg S cap Us G t L g){x:V}(hx:x∈Us):
  ∃t' L' g',(x∈G/\Qz t x=some (.ok (false,t'))/\Flg S cap Us G t' L' g')\/(x∉G/\Qz t x=some (.ok (true,t'))/\Flg S cap Us (x::G) t' L' g'):=by
 obtain ⟨k,hl⟩:=hS.mem x hx;have l:=So.pG.2 k;have key:∀{L:List V} {t':St} {b:Bool},wH t x=some (.ok (b,t'))->So.E3 t' S cap L g->L.Nodup->(∀z∈L,z∈Us)->x∈L->
   ∃t' L' g',(x∈G/\Qz t x=some (.ok (false,t'))/\Flg S cap Us G t' L' g')\/(x∉G/\Qz t x=some (.ok (true,t'))/\Flg S cap Us (x::G) t' L' g'):=λ{L t' b} o f e d n=>by
  unfold Qz;rw [o];have c:So.EK S L x 1=0:=by unfold So.EK So.gb;rw [du l,df (by omega),du n]
  obtain ⟨t2,q,j,_⟩:=So.apg hS.right f x hl 1;have a:=So.aow hS.right f x hl 1;unfold So.ak0 at a;unfold So.aiA at j;rw [du c] at a j;rw [show ((1:Int)==1)=true from rfl] at a j;cases i:g true x with
  |true=>
   refine ⟨t',L,g,.inl ⟨(h.fl x).1 i,?_,⟨f,e,d,h.fl⟩⟩⟩;show (eK t' x 1).bind _=_;rw [a,So.ah,i];rfl
  |false=>
   refine ⟨t2,L,_,.inr ⟨(λm=>by rw [(h.fl x).2 m] at i;cases i),?_,⟨j,e,d,λz=>?_⟩⟩⟩
   .show (eK t' x 1).bind _=_;rw [a,So.ah,i];show (gK t' x 1).bind _=_;rw [q];rfl
   .unfold So.lJ;rw [fi,h.fl z,oi];simp only [qe,mi,n4];exact Or.comm
 obtain ⟨t',⟨f,e,d⟩|⟨f,e,d,n,p,_⟩⟩:=ZB hS m h.ok h.nd h.sub hx
 .exact key e d h.nd h.sub f
 .exact key e d n p (hV _ (List.mem_singleton.2 rfl))
end Ns
namespace Ns
open Sp
variable {m : bn} {a : Au} {Us : List V} {cap most : Int} {S : List So.Fd}
theorem HD{N:Nat}(hN:∀y∈Us,(Pd.bP m a y).1.length<=N)(F:Whole m a Us)(h:lR m a)(hS:Ej S Us)(I:(Us.length:Int)<=cap)(hm:(Us.length:Int)<=most){x:V}(o:ki):
  ∀(n:Nat) (t:St) (s:ki) (G L:List V) (g:So.Gf),Flg S cap Us G t L g->(∀z∈G,z∈Us)->tG Us s->(∀z∈s.map (·.1),z∈G\/z=x)->(s≠[]->Ch (λz=>(Pd.bP m a z).1) x (s.map (·.1)))->
   (∀f∈s,∀y∈f.2,y∈(Pd.bP m a f.1).1)->(∀z,z∈G\/z=x->∀y∈(Pd.bP m a z).1,(∃ys,(z,ys)∈s/\y∈ys)\/(y∈G/\y≠x))->mu Us G*(N+2)+wt s<n->
   (∃z l,wkI m a most x o n t s=some (.error (.inr (o.dropLast.map (·.1),(z::l).reverse)))/\Ch (λz=>(Pd.bP m a z).1) x (z::l)/\x∈(Pd.bP m a z).1/\(∀u∈z::l,u∈Us)/\(z::l).length<=Us.length)\/
   (∃G':List V,∀z,z∈G'\/z=x->∀y∈(Pd.bP m a z).1,y∈G'/\y≠x)
 |0,_,_,_,_,_,_,_,_,_,_,_,_,hn=>by omega
 |n+1,t,[],G,L,g,_,_,_,_,_,_,hI,_=> .inr ⟨G,λz W y i=>by
   rcases hI z W y i with ⟨ys,d,_⟩|d
   .cases d
   .exact d⟩
 |n+1,t,(z,[])::s,G,L,g,b,hGU,hg,hk,hch,hnx,hI,hn=>by
  have R:tG Us s:=⟨λf b=>hg.st f (b7 _ b),λf b=>hg.nx f (b7 _ b),by have:=hg.nd;simp at this;simpa using this.2⟩;unfold wkI wk;dsimp only [Option.bind_some];refine HD hN F h hS I hm o n t s G L g b hGU R (λu c=>hk u (b7 _ c)) (λP=>?_) (λf b=>hnx f (b7 _ b)) (λu c y i=>?_) (by simp [wt] at hn ⊢; omega)
  .match s,P with
   |f::r,_=>exact (hch (by simp)).2
  .rcases hI u c y i with ⟨ys,d,q⟩|d
   .rcases List.mem_cons.1 d with d|d
    .cases d;cases q
    .exact .inl ⟨ys,d,q⟩
   .exact .inr d
 |n+1,t,(z,y::ys)::s,G,L,g,b,hGU,hg,hk,hch,hnx,hI,hn=>by
  have i:y∈Us:=hg.nx _ (cx ..) y (cx ..);have B:y∈(Pd.bP m a z).1:=hnx _ (cx ..) y (cx ..);have e:tG Us ((z,ys)::s):=⟨λf b=>by
    rcases List.mem_cons.1 b with rfl|b
    .exact hg.st (z,y::ys) (cx ..)
    .exact hg.st f (b7 _ b),λf b=>by
    rcases List.mem_cons.1 b with rfl|b
    .exact λu c=>hg.nx (z,y::ys) (cx ..) u (b7 _ c)
    .exact hg.nx f (b7 _ b),hg.nd⟩
  have p:Ch (λz=>(Pd.bP m a z).1) x (z::s.map (·.1)):=hch (by simp);have v:∀f∈(z,ys)::s,∀y∈f.2,y∈(Pd.bP m a f.1).1:=λf b=>by
   rcases List.mem_cons.1 b with rfl|b
   .exact λu c=>hnx (z,y::ys) (cx ..) u (b7 _ c)
   .exact hnx f (b7 _ b)
  unfold wkI wk;by_cases j:y=x
  .rw [show seI x o y ((z,ys)::s)=some (.inr (o.dropLast.map (·.1),((z,ys)::s).reverse.map (·.1))) by unfold seI;rw [du j]];refine .inl ⟨z,s.map (·.1),by simp,p,by rw [<-j];exact B,λu c=>?_,by have:=e.dq;simpa using this⟩;obtain ⟨f,b,rfl⟩:=List.mem_map.1 (show u∈((z,ys)::s).map (·.1) from c);exact e.st f b
  .rw [show seI x o y ((z,ys)::s)=none by unfold seI;rw [df j]];dsimp only;have A:∀{G':List V},(∀u∈G,u∈G')->y∈G'->∀u,u∈G\/u=x->∀w∈(Pd.bP m a u).1,(∃r,(u,r)∈(z,ys)::s/\w∈r)\/(w∈G'/\w≠x):=λ{G'} Y O u c w C=>by
    rcases hI u c w C with ⟨r,d,q⟩|d
    .rcases List.mem_cons.1 d with d|d
     .cases d;rcases List.mem_cons.1 q with rfl|q
      .exact .inr ⟨O,j⟩
      .exact .inl ⟨ys,cx .., q⟩
     .exact .inl ⟨r,b7 _ d,q⟩
    .exact .inr ⟨Y _ d.1,d.2⟩
   obtain ⟨t',U,T,⟨H,M,J⟩|⟨H,M,J⟩⟩:=aop hS I b i
   .rw [M];exact HD hN F h hS I hm o n t' ((z,ys)::s) G U T J hGU e (λu c=>hk u (by simpa using c)) (λ_=>p) v (A (λ_ h=>h) H) (by simp [wt] at hn ⊢; omega)
   .rw [M];dsimp only [Option.bind_some];have D:y∉((z,ys)::s).map (·.1):=λk=>by
     rcases hk y (by simpa using k) with k|k
     .exact H k
     .exact j k
    have E:s.length+1<Us.length:=by
     have:=Df.xl (l:=y::((z,ys)::s).map (·.1)) (List.nodup_cons.2 ⟨D,e.nd⟩) (m:=Us) (λu c=>by
      rcases List.mem_cons.1 c with rfl|c
      .exact i
      .obtain ⟨f,b,rfl⟩:=List.mem_map.1 c;exact e.st f b)
     simp at this;omega
    rw [tS F h hm i E];dsimp only;have X:=hN y i;have Q:=aeq (Us:=Us) (K:=G) (K':=y::G) (λ_ h=>b7 _ h) i H (cx ..);refine HD hN F h hS I hm o n t' ((y,(Pd.bP m a y).1)::(z,ys)::s) (y::G) U T J (λu c=>by
      rcases List.mem_cons.1 c with rfl|c
      .exact i
      .exact hGU u c) ⟨λf b=>by
      rcases List.mem_cons.1 b with rfl|b
      .exact i
      .exact e.st f b,λf b=>by
      rcases List.mem_cons.1 b with rfl|b
      .exact F.next y i
      .exact e.nx f b,List.nodup_cons.2 ⟨D,e.nd⟩⟩ (λu c=>by
      rw [eT] at c;rcases List.mem_cons.1 c with rfl|c
      .exact .inl (cx ..)
      .exact (hk u (by simpa using c)).imp (b7 _) id) (λ_=>⟨B,p⟩) (λf b=>by
      rcases List.mem_cons.1 b with rfl|b
      .exact λu c=>c
      .exact v f b) (λu c w C=>?_) ?_
    .rcases c with c|c
     .rcases List.mem_cons.1 c with rfl|c
      .exact .inl ⟨_,cx .., C⟩
      .rcases A (G':=y::G) (λ_ h=>b7 _ h) (cx ..) u (.inl c) w C with ⟨r,d,q⟩|d
       .exact .inl ⟨r,b7 _ d,q⟩
       .exact .inr d
     .rcases A (G':=y::G) (λ_ h=>b7 _ h) (cx ..) u (.inr c) w C with ⟨r,d,q⟩|d
      .exact .inl ⟨r,b7 _ d,q⟩
      .exact .inr d
    .have:mu Us (y::G)*(N+2)+(N+2)<=mu Us G*(N+2):=by rw [<-qD];exact gy _ Q
     simp [wt] at hn ⊢; omega
def Cyc(m:bn)(a:Au)(Us:List V)(x0:V)(p:List V×List V):Prop:=
 ∃z l x r,p=(r.reverse,(z::l).reverse)/\Ch (λz=>(Pd.bP m a z).1) x (z::l)/\Ch (λz=>(Pd.bP m a z).1) x0 (x::r)/\x∈(Pd.bP m a z).1/\(∀u∈z::l,u∈Us)/\(∀u∈r,u∈Us)/\(z::l).length<=Us.length/\r.length<=Us.length
theorem ON{N:Nat}(hN:∀y∈Us,(Pd.bP m a y).1.length<=N)(q:N<=2000000)(j:Whole m a Us)(h:lR m a)(hS:Ej S Us)(F:(Us.length:Int)<=cap)(hm:(Us.length:Int)<=most)(d:∀x∈Us,meet a x=true){x0:V}:
  ∀(n:Nat) (t:St) (s:ki) (L:List V),So.E3 t S cap L (λ_ _=>false)->L.Nodup->(∀z∈L,z∈Us)->tG Us s->s≠[]->(∀z,z∈L↔z∈s.map (·.1))->Ch (λz=>(Pd.bP m a z).1) x0 (s.map (·.1))->
   (∀f∈s,∀y∈f.2,y∈(Pd.bP m a f.1).1)->(∀f∈s,∀y∈(Pd.bP m a f.1).1,y∈f.2\/y∈L)->mu Us L*(N+2)+wt s<n->∃p,NG m a most n t s=some (.error (.inr p))/\Cyc m a Us x0 p
 |0,_,_,_,_,_,_,_,_,_,_,_,_,hn=>by omega
 |n+1,t,[],_,_,_,_,_,hne,_,_,_,_,_=>absurd rfl hne
 |n+1,t,(x,[])::s,L,ht,hnd,hL,hg,_,hLs,hch,hnx,hI,hn=>by
  have hx:x∈Us:=hg.st (x,[]) (cx ..);have b:=j.dq;unfold NG wk;unfold Yy;dsimp only;rw [d x hx,cp];unfold allI;rw [tS j h hm hx (List.length_pos_of_mem hx)];dsimp only;have B:∀y∈(Pd.bP m a x).1,y∈x::s.map (·.1):=λy c=>by
   rcases hI _ (cx ..) y c with i|i
   .cases i
   .exact (hLs y).1 i
  rcases HD (N:=2000000) (λy c=>ec (hN y c) q) j h hS F hm (x:=x) (((x,[])::s).reverse) ax t [(x,(Pd.bP m a x).1)] [] L _ ⟨ht,hnd,hL,λz=>by simp⟩ nofun (N0 hx (j.next x hx)) (λz k=>by simp at k;exact .inr k) (λ_=>rfl) (λf b=>by rw [List.mem_singleton.1 b];exact λu e=>e)
   (λz k y c=>by
    rcases k with k|rfl
    .cases k
    .exact .inl ⟨_,List.mem_singleton.2 rfl,c⟩) (S5 (by omega) (Pd.wg h.hm.toSafeS h.ha (j.st x hx))) with ⟨z,l,e1,e2,e3,e4,e5⟩|⟨G,D⟩
  .rw [e1];refine ⟨_,rfl,z,l,x,s.map (·.1),?_,e2,(show Ch _ x0 (x::s.map (·.1)) from hch),e3,e4,λu e=>?_,e5,by have:=hg.dq;simp at this ⊢; omega⟩
   .congr 1;simp
   .obtain ⟨f,b,rfl⟩:=List.mem_map.1 e;exact hg.st f (b7 _ b)
  .exfalso;obtain ⟨y,c⟩:=j.some_ x hx;obtain ⟨i,X⟩:=D x (.inr rfl) y c;rcases List.mem_cons.1 (B y c) with R|R
   .exact X R
   .exact (Ch.up (G:=(· ∈G)) (λz k y c=>D z (.inl k) y c) hch R i).2 rfl
 |n+1,t,(x,y::ys)::s,L,ht,hnd,hL,hg,_,hLs,hch,hnx,hI,hn=>by
  have c:y∈Us:=hg.nx _ (cx ..) y (cx ..);have M:y∈(Pd.bP m a x).1:=hnx _ (cx ..) y (cx ..);have g:tG Us ((x,ys)::s):=⟨λf b=>by
    rcases List.mem_cons.1 b with rfl|b
    .exact hg.st (x,y::ys) (cx ..)
    .exact hg.st f (b7 _ b),λf b=>by
    rcases List.mem_cons.1 b with rfl|b
    .exact λu e=>hg.nx (x,y::ys) (cx ..) u (b7 _ e)
    .exact hg.nx f (b7 _ b),hg.nd⟩
  have o:∀f∈(x,ys)::s,∀y∈f.2,y∈(Pd.bP m a f.1).1:=λf b=>by
   rcases List.mem_cons.1 b with rfl|b
   .exact λu e=>hnx (x,y::ys) (cx ..) u (b7 _ e)
   .exact hnx f (b7 _ b)
  have C:∀{H:List V},(∀u∈L,u∈H)->y∈H->∀f∈(x,ys)::s,∀w∈(Pd.bP m a f.1).1,w∈f.2\/w∈H:=λ{H} D O f b w r=>by
   rcases List.mem_cons.1 b with rfl|b
   .rcases hI _ (cx ..) w r with i|i
    .rcases List.mem_cons.1 i with rfl|i
     .exact .inr O
     .exact .inl i
    .exact .inr (D _ i)
   .exact (hI f (b7 _ b) w r).imp id (D w)
  unfold NG wk;dsimp only;obtain ⟨t',⟨E,J,I⟩|⟨E,J,I,U,T,Y⟩⟩:=ZB hS F ht hnd hL c
  .rw [J];exact ON hN q j h hS F hm d n t' ((x,ys)::s) L I hnd hL g (by simp) (λz=>by rw [hLs z];simp) hch o (C (λ_ h=>h) E) (by simp [wt] at hn ⊢; omega)
  .rw [J];dsimp only [Option.bind_some];have v:y∉((x,ys)::s).map (·.1):=λQ=>E ((hLs y).2 (by simpa using Q));have A:s.length+1<Us.length:=by
    have:=Df.xl (l:=y::((x,ys)::s).map (·.1)) (List.nodup_cons.2 ⟨v,g.nd⟩) (m:=Us) (λu e=>by
     rcases List.mem_cons.1 e with rfl|e
     .exact c
     .obtain ⟨f,b,rfl⟩:=List.mem_map.1 e;exact g.st f b)
    simp at this;omega
   rw [tS j h hm c A];dsimp only;have W:=hN y c;have P:=aeq (Us:=Us) (K:=L) (K':=L++[y]) (λ_ h=>qh _ h) c E (by simp);refine ON hN q j h hS F hm d n t' ((y,(Pd.bP m a y).1)::(x,ys)::s) (L++[y]) I U T ⟨λf b=>by
     rcases List.mem_cons.1 b with rfl|b
     .exact c
     .exact g.st f b,λf b=>by
     rcases List.mem_cons.1 b with rfl|b
     .exact j.next y c
     .exact g.nx f b,List.nodup_cons.2 ⟨v,g.nd⟩⟩ (by simp) (λz=>by
     rw [List.mem_append,hLs z,mj];simp only [eT,oi];exact Or.comm) ⟨M,hch⟩ (λf b=>by
     rcases List.mem_cons.1 b with rfl|b
     .exact λu e=>e
     .exact o f b) (λf b w r=>by
     rcases List.mem_cons.1 b with rfl|b
     .exact .inl r
     .exact C (λ_ h=>qh _ h) (by simp) f b w r) ?_
   have:mu Us (L++[y])*(N+2)+(N+2)<=mu Us L*(N+2):=by rw [<-qD];exact gy _ P
   simp [wt] at hn ⊢; omega
end Ns
namespace Sp
theorem Y6(S:yx)(w:zn):∀(r pre:zn) (rs ps:yx),w=pre++r->S=ps++rs->ps.length=pre.length->rs.length=r.length->w.length<1000->
  ∀M,r.length<M->ao (dU S w) M (pre.length:Int)=some (bif fits rs r then 0 else 5)
 |[],pre,rs,ps,h,hS,hl,hr,hw,M,hM=>by
  obtain ⟨m,rfl⟩:∃m,M=m+1:=⟨M-1,by simp at hM;omega⟩;rw [au];simp only [dU,Sy.pS h,ca];have:rs=[]:=ej hr;subst this;rfl
 |x::r,pre,[],ps,h,hS,hl,hr,hw,M,hM=>by simp at hr
 |x::r,pre,s::rs,ps,h,hS,hl,hr,hw,M,hM=>by
  obtain ⟨m,rfl⟩:∃m,M=m+1:=⟨M-1,by omega⟩;rw [au];have d:idx S (pre.length:Int)=some s:=by rw [<-hl];exact Sy.jv hS
  have a:pre.length+r.length+1=w.length:=by rw [h];simp;omega
  have ih:=Y6 S w r (pre++[x]) rs (ps++[s]) (by rw [h];simp) (by rw [hS];simp) (by simp;omega) (by simpa using hr) hw m (by simp at hM;omega);rw [show ((pre++[x]).length:Int)=((pre.length+1:Nat):Int) by simp] at ih;simp only [dU,Sy.pL h,cp,Sy.jv h,ah,d,Pa.cz (show pre.length<4611686018427387904 by omega),ih,fits,aV,abx];by_cases c:x<s.1
  .rw [cy c,wi,cp,c9 (show ¬s.1<=x by omega)];rfl
  .rw [c9 c,cy (show s.1<=x by omega)];simp only [ko,cp,mm,mi];by_cases b:s.2<x
   .rw [cy b,c9 (show ¬x<=s.2 by omega)];rfl
   .rw [c9 b,cy (show x<=s.2 by omega)];rfl
theorem ahL(m:Sy.bn)(w:zn)(hS:m.2.1.length<1000):pQ m w=some (oL m.2.1 w):=by
 unfold pQ lQ oL;by_cases hl:w.length=m.2.1.length
 .rw [show ((List.length w:Int) != (List.length m.2.1:Int))=false by rw [hl];simp,ca,cy hl,mi];have:=Y6 m.2.1 w w [] m.2.1 [] rfl rfl rfl hl.symm (by omega) ax (by show w.length<2^64;omega);rw [show ((([]:zn).length:Nat):Int)=0 from rfl] at this;rw [this,ah];cases fits m.2.1 w <;> rfl
 .rw [show ((List.length w:Int) != (List.length m.2.1:Int))=true by simp;omega,cp,c9 hl];rfl
end Sp
namespace Ns
open Sp
variable {m : bn} {Us : List V}
abbrev ur:Au:=iU [0]
theorem ahz{x:V}(h:Pd.St m 1 x):∃v,x=g0 v/\km m.2.1 v:=by obtain ⟨v,q,rfl,a,c,b⟩:=h;exact ⟨v,by rw [show q=0 by omega],a⟩
theorem aok(h:lR m ur){x:V}(hx:Pd.St m 1 x):py m ur x=some true:=by
 obtain ⟨v,rfl,a⟩:=ahz hx;have hl:=CZ h a;have hS:=h.hm.dq;have e:i64.wrap (((g0 v).length:Int)-1)=(v.length:Int):=by rw [bR (by simp;omega)];simp
 unfold py;rw [e,c9 (by omega),ca,Sy.aN (show cR 0 (v.length:Int) (g0 v).length=true by unfold cR;simp;omega),show aT (g0 v) 0 (v.length:Int)=v by unfold aT;simp,ahL m v (by omega),So.ah];rw [show Sp.oL m.2.1 v=true by unfold Sp.oL;rw [a.fit,cy a.len];rfl,G0,Sy.jv (pre:=v) (r:=[]) rfl,So.ah];rfl
theorem abQ{a:Au}(h:lR m a)(b:Whole m a Us){x y:V}(hx:x∈Us)(d:y∈(Pd.bP m a x).1):lf m a x y=some true:=by unfold lf;have c:=Pd.wg h.hm.toSafeS h.ha (b.st x hx);rw [apD h (b.st x hx),So.ah,b.code x hx,show ((0:Int)==0)=true from rfl];simp only [So.aV];rw [G0,show jL (Pd.bP m a x).1 y=dM (Pd.bP m a x).1 y from rfl,sV _ _ (by omega) (λw e=>by have:=afR h (b.st _ (b.next x hx w e));omega),So.ah];have:¬CY y 0 (Pd.bP m a x).1<0:=λf=>Gr.1 f d;rw [cy (by omega)];rfl
theorem agw{v:V}(a:v.length<1000000):mH ur (g0 v)=some true:=by
 unfold mH;obtain ⟨n,hn⟩:∃n,ax=n+1:=⟨2^64-1,rfl⟩;rw [hn,au];generalize ao _ n=k;unfold uT;have e:i64.wrap (((g0 v).length:Int)-1)=(v.length:Int):=by rw [bR (by simp;omega)];simp
 rw [show idx ur.2.2.2 0=some [0] from rfl,So.ah,cy (show (0:Int)<(([0]:zn).length:Int) by decide),cp,So.ah,show idx ([0]:zn) 0=some 0 from rfl,So.ah,e,Sy.jv (pre:=v) (r:=[]) rfl,So.ah];rfl
theorem anM{z:V}{l:List V}:(z::l).reverse[(z::l).reverse.length-1]? =some z:=by rw [List.reverse_cons,de (by simp)];simp
theorem afe{l:List V}{i:Nat}{x:V}(h:l[i]? =some x):idx l (i:Int)=some x:=by rw [So.ed,h]
theorem afn(h:lR m ur)(f:Whole m ur Us){p:List V×List V}(hp:Cyc m ur Us (g0 m.2.2.1) p):gQ m ur p=some true:=by
 obtain ⟨z,l,x,r,rfl,c1,K,J,q,I,N,M⟩:=hp;have L:=f.dq;have y:r.reverse.length<=1000/\(z::l).reverse.length<=1000:=⟨by rw [List.length_reverse];omega,by rw [List.length_reverse];omega⟩;obtain ⟨t,s⟩:=Ch.at (c1.app K);obtain ⟨d1,_⟩:=Ch.at c1;have e:(z::l++r).reverse=r.reverse++(z::l).reverse:=by simp
 rw [e] at t s;have b:∀u∈r.reverse++(z::l).reverse,u∈Us:=λu c=>by
  rcases List.mem_append.1 c with c|c
  .exact I u (List.mem_reverse.1 c)
  .exact q u (List.mem_reverse.1 c)
 have d:0<(z::l).reverse.length:=by simp
 have a:(r.reverse++(z::l).reverse)[(r.reverse++(z::l).reverse).length-1]? =some z:=by rw [de (by simp),<-anM (z:=z) (l:=l)];congr 1;simp
 unfold gQ;simp only [l9];rw [Sy.aN (Sy.cO (by simp only [qg];omega) (by simp only [qg];omega)),Sy.aN (Sy.cO (by omega) (by omega)),show (((z::l).reverse.length:Int)==0)=false by simp;omega,ca];generalize g:r.reverse++(z::l).reverse=A at t s b a;have G:A.length=r.reverse.length+(z::l).reverse.length:=by rw [<-g,eP]
 have H:0<A.length:=by omega
 refine Mn (F:=j8 m ur (r.reverse,(z::l).reverse)) (λi=>(i:Int)) (λ_=>True) (λx=>x=some true) A.length (by omega) (λi hi _ k=> .inr ⟨trivial,?_⟩) (λ_ k=>?_)
 .unfold j8;simp only [l9,g];rw [cy (by omega),cp,ed hi,So.ah,aok h (f.st _ (b _ (eF hi))),So.ah,qc,ca,Pa.cz (by omega)]
 .unfold j8;simp only [l9,g];rw [c9 (by omega),ca,show (0:Int)=((0:Nat):Int) from rfl,afe t,So.ah,aph h,So.ah,acg];have j:(g0 m.2.2.1).length<1000000000:=by have:=CZ h h.hi;simp;omega
  rw [show jL [g0 m.2.2.1] (g0 m.2.2.1)=dM [g0 m.2.2.1] (g0 m.2.2.1) from rfl,sV _ _ (by simp) (λw C=>by rw [List.mem_singleton.1 C];exact j),So.ah];have:¬CY (g0 m.2.2.1) 0 [g0 m.2.2.1]<0:=λE=>Gr.1 E (List.mem_singleton.2 rfl);rw [c9 (by simpa using this),ca];refine Mn (F:=j9 m ur (r.reverse,(z::l).reverse)) (λi=>((i+1:Nat):Int)) (λ_=>True) (λx=>x=some true) (A.length-1) (by omega) (λi hi _ k=> .inr ⟨trivial,?_⟩) (λ_ k=>?_)
  .unfold j9;simp only [l9,g];have o:i<A.length:=by omega
   have B:i+1<A.length:=by omega
   rw [cy (by omega),cp,show i64.wrap (((i+1:Nat):Int)-1)=(i:Int) by rw [bR (by omega)];omega,ed o,So.ah,ed B,So.ah,abQ h f (b _ (eF o)) (s i _ _ (b9 o) (b9 B)),So.ah,qc,ca,Pa.cz (by omega)]
  .unfold j9;simp only [l9,g];rw [c9 (by omega),ca,show i64.wrap ((A.length:Int)-1)=((A.length-1:Nat):Int) by rw [bR (by omega)];omega,afe a,So.ah,show (0:Int)=((0:Nat):Int) from rfl,afe d1,So.ah,abQ h f (q z (cx ..)) J,So.ah];refine Mn (F:=j4 ur (r.reverse,(z::l).reverse) true) (λi=>(decide (0<i),(i:Int))) (λ_=>True) (λx=>x=some true) (z::l).reverse.length (by omega) (λi hi _ k=> .inr ⟨trivial,?_⟩) (λ_ k=>?_)
   .unfold j4;dsimp only;obtain ⟨v,D,n⟩:=ahz (f.st _ (q _ (List.mem_reverse.1 (eF hi))));rw [cy (show (i:Int)<((z::l).reverse.length:Int) by omega),cp,ed hi,So.ah,D,agw (CZ h n),So.ah,Pa.cz (by omega)];simp [So.aV]
   .unfold j4;dsimp only;rw [c9 (show ¬((z::l).reverse.length:Int)<((z::l).reverse.length:Int) by omega),ca,cy d];rfl
end Ns
namespace Sp
theorem UJ(S:yx)(C:List Sy.aS)(most:Int)(c:most<=1000):∀(k i:Nat) (l:x3) (f:Nat),l.Nodup->(∀w∈l,km S w)->most.toNat+1-i<=k->i<=1001->k<f->
  ((gA S C most f l i).2.1=0/\l <+: (gA S C most f l i).1/\(gA S C most f l i).1.Nodup/\(∀w∈(gA S C most f l i).1,km S w)/\((gA S C most f l i).1.length:Int)<=most/\(gA S C most f l i).2.2=[]/\
   (∀j v,i<=j->(gA S C most f l i).1[j]? =some v->(bO S C v).2=0/\∀w∈(bO S C v).1,w∈(gA S C most f l i).1)/\
   (∀j w,l.length<=j->(gA S C most f l i).1[j]? =some w->∃i' v,i'<j/\(gA S C most f l i).1[i']? =some v/\w∈(bO S C v).1))\/
  ((gA S C most f l i).2.1≠0/\(gA S C most f l i).1=[]/\((gA S C most f l i).2.2=[]\/km S (gA S C most f l i).2.2))
 |k,i,l,0,hn,hs,hk,hi,hf=>by omega
 |k,i,l,f+1,hn,hs,hk,hi,hf=>by
  rw [gA];by_cases d:(l.length:Int)<=most
  .rw [du d];cases n:l[i]? with
   |none=>
    have a:l.length<=i:=List.getElem?_eq_none_iff.1 n;refine .inl ⟨rfl,qY _,hn,hs,d,rfl,λj v z h=>?_,λj w z h=>?_⟩
    .have:=(List.getElem?_eq_some_iff.1 h).1;simp only at this;omega
    .have:=(List.getElem?_eq_some_iff.1 h).1;simp only at this;omega
   |some v=>
    have a:=(List.getElem?_eq_some_iff.1 n).1;have q:=hs v (gr n);simp only;by_cases r:(bO S C v).2=0
    .rw [du r];obtain ⟨k,rfl⟩:∃k',k=k'+1:=⟨k-1,by omega⟩;have o:=Ra (m:=(bO S C v).1) hn;have b:=Z2 (bO S C v).1 l;rcases UJ S C most c k (i+1) (cV l (bO S C v).1) f o (λw e=>by
      rcases jR.1 e with h|h
      .exact hs w h
      .exact yw q w h) (by omega) (by omega) (by omega) with ⟨h1,h2,h3,h4,h5,h6,h7,h8⟩|h
     .refine .inl ⟨h1,b.trans h2,h3,h4,h5,h6,λj u z D=>?_,λj w z e=>?_⟩
      .by_cases A:j=i
       .subst A;have:(gA S C most f (cV l (bO S C v).1) (j+1)).1[j]? =some v:=by rw [List.prefix_iff_getElem?.1 (b.trans h2) j a,<-n,b9 a]
        rw [D] at this;cases this;exact ⟨r,λw e=>h2.mem (jR.2 (.inr e))⟩
       .exact h7 j u (by omega) D
      .by_cases t:(cV l (bO S C v).1).length<=j
       .exact h8 j w t e
       .have p:j<(cV l (bO S C v).1).length:=by omega
        have g:(cV l (bO S C v).1)[j]? =some w:=by rw [<-e,List.prefix_iff_getElem?.1 h2 j p,b9 p]
        refine ⟨i,v,by omega,?_,?_⟩
        .rw [List.prefix_iff_getElem?.1 (b.trans h2) i a,<-n,b9 a]
        .rcases jR.1 (gr g) with s|h
         .exfalso;obtain ⟨B,y,x⟩:=qu s;have F:(cV l (bO S C v).1)[B]? =some w:=by rw [List.prefix_iff_getElem?.1 b B y,x]
          obtain ⟨_,E⟩:=List.getElem?_eq_some_iff.1 F;obtain ⟨_,e3⟩:=List.getElem?_eq_some_iff.1 g;have:=(List.getElem_inj o).1 (E.trans e3.symm);omega
         .exact h
     .exact .inr h
    .rw [df r];exact .inr ⟨r,rfl,.inr q⟩
  .rw [df d];exact .inr ⟨by simp,rfl,.inl rfl⟩
end Sp
namespace Ns
open Sp
theorem af9(text:aE):∃q,lZ text=some q/\((q.2=true/\Sy.Wf q.1)\/(q.2=false/\q.1=([],[],[],[],[]))):=by
 unfold lZ;by_cases h:(600:Int)<(text.length:Int)
 .rw [cy h,cp];exact ⟨_,rfl,.inr ⟨rfl,rfl⟩⟩
 .rw [c9 h,ca,Sy.ait,So.ah];refine ⟨_,rfl,?_⟩;cases a:Sy.OO text with
  |ok m=>exact .inl ⟨rfl,Sy.ag6 a⟩
  |error e=>
   refine .inr ⟨?_,rfl⟩;have:=Sy.ai6 a;simpa [Sy.O3] using this
variable {m : bn} {l : List V}
theorem agN(e:∀v∈l,km m.2.1 v)(b:∀v∈l,(bO m.2.1 m.2.2.2.2 v).2=0/\∀w∈(bO m.2.1 m.2.2.2.2 v).1,w∈l)(hl:l.length<=1000)(A:V):Whole m (iU A) (l.map g0):=by
 refine ⟨λx hx=>?_,λx hx=>?_,λx hx y d=>?_,λx hx=>?_,by simpa using hl⟩ <;> obtain ⟨v,a,rfl⟩:=List.mem_map.1 hx
 .exact ⟨v,0,rfl,e v a,by omega,by simp [iU]⟩
 .exact (Oc (b v a).1).1
 .obtain ⟨w,c,rfl⟩:=((Oc (A:=A) (b v a).1).2 y).1 d;exact List.mem_map.2 ⟨w,(b v a).2 w c,rfl⟩
 .obtain ⟨w,c⟩:=akK (b v a).1;exact ⟨g0 w,((Oc (b v a).1).2 _).2 ⟨w,c,rfl⟩⟩
theorem akT(hm:uU m.2.1 m.2.2.2.2)(hi:km m.2.1 m.2.2.1)(c:m.2.2.1∈l)(hl:l.length<=60)(j:∀A,Whole m (iU A) (l.map g0)){k:Int}(hk:0<=k/\k<4):
  (∃p,gN m (iU [0]) (k,(l.length:Int),(l.length:Int),0,0,0)=some (true,p,0,[])/\Cyc m (iU [0]) (l.map g0) (g0 m.2.2.1) p)/\gN m (iU []) (k,(l.length:Int),(l.length:Int),0,0,0)=some (false,([],[]),0,[]):=by
 have i:0<l.length:=List.length_pos_of_mem c;have hx:g0 m.2.2.1∈l.map g0:=List.mem_map.2 ⟨_,c,rfl⟩;have C:(l.map g0).length=l.length:=by simp
 have run:∀A:V,A.length<100->∃t,So.E3 t (FA m (iU A)) (l.length:Int) [] (λ_ _=>false)/\gN m (iU A) (k,(l.length:Int),(l.length:Int),0,0,0)=Dq (ol m (iU A) (l.length:Int) [g0 m.2.2.1] t):=λA D=>by have h:=Io hm hi D;obtain ⟨t,E,d,_⟩:=(So.amt (amo h) (HS h) (k,(l.length:Int),(l.length:Int),0,0,0) hk).2 (by dsimp only;omega) (by dsimp only;omega);refine ⟨t,d,?_⟩;have:=anl h.hm.toSafeS h.hi h.ha h.dq (by rw [acg];simp) (apz h) (k,(l.length:Int),(l.length:Int),0,0,0) (ahX h) E;rw [du ⟨rfl,by dsimp only;omega,by dsimp only;omega⟩] at this;exact this
 refine ⟨?_,?_⟩
 .have h:lR m (iU [0]):=Io hm hi (by simp);have a:=j [0];have hS:=alP h a.st;obtain ⟨t,d,e3⟩:=run [0] (by simp);rw [e3];obtain ⟨t',⟨w,_⟩|⟨_,s,q,o,n,_⟩⟩:=ZB hS (by omega) d (by simp) nofun hx
  .cases w
  .have b:∀x∈l.map g0,meet (iU [0]) x=true:=λx hx=>by obtain ⟨v,_,rfl⟩:=List.mem_map.1 hx;unfold meet aew;simp [iU]
   have hN:∀y∈l.map g0,(Pd.bP m (iU [0]) y).1.length<=2000000:=λy B=>Pd.wg h.hm.toSafeS h.ha (a.st y B);obtain ⟨p,r1,r2⟩:=ON hN (c8 _) a h hS (cap:=(l.length:Int)) (most:=(l.length:Int)) (by omega) (by omega) b (x0:=g0 m.2.2.1) ax t' [(g0 m.2.2.1,(Pd.bP m (iU [0]) (g0 m.2.2.1)).1)] _ q o n (N0 hx (a.next _ hx)) (by simp) (λz=>by simp) rfl
    (λf g=>by rw [List.mem_singleton.1 g];exact λu e=>e) (λf g=>by rw [List.mem_singleton.1 g];exact λu e=> .inl e) (S5 (by omega) (hN _ hx))
   refine ⟨p,?_,r2⟩;unfold ol;rw [s];dsimp only [Option.bind_some];rw [tS a h (by omega) hx (by omega)];dsimp only;rw [r1];rfl
 .have h:lR m (iU []):=Io hm hi (by simp);have a:=j [];have hS:=alP h a.st;obtain ⟨t,d,e3⟩:=run [] (by simp);rw [e3];obtain ⟨t',r⟩:=ale a h hS (cap:=(l.length:Int)) (most:=(l.length:Int)) (by omega) (by omega) (λx=>by unfold meet aew;simp [iU]) hx (.inl ⟨[],_,d,by simp,nofun,nofun,nofun⟩);rw [r];rfl
theorem aa0(text:aE)(kind:Int)(hk:0<=kind/\kind<=255):iY text kind=some true:=by
 unfold iY;rw [ana,So.ah];obtain ⟨q,n,c⟩:=af9 text;rw [n,So.ah];rcases c with ⟨f,a⟩|⟨f,s⟩
 .have hm:=anb a;have hi:=am7 a;rw [ahV hm hi 60 (by omega),So.ah,f];have g:=UJ q.1.2.1 q.1.2.2.2.2 60 (by omega) 61 0 [q.1.2.2.1] 2000 (by simp) (λw c=>by rw [List.mem_singleton.1 c];exact hi) (by decide) (by omega) (by omega);generalize gA q.1.2.1 q.1.2.2.2.2 60 2000 [q.1.2.2.1] 0=r at g;simp only [So.aV,qc,mm];rcases g with ⟨r1,r2,_,k,z,_,i,_⟩|⟨r1,_⟩
  .have d:q.1.2.2.1∈r.1:=r2.subset (List.mem_singleton.2 rfl);have h:=agN (m:=q.1) k (λv l=>by obtain ⟨j,o,e⟩:=qu l;exact i j v (by omega) (by rw [b9 o,e])) (by omega)
   rw [show (r.2.1 != 0)=false by simp [r1],ca,bR (x:=kind) (by omega)];have b:0<=Int.tmod kind 4/\Int.tmod kind 4<4:=by rw [Int.tmod_eq_emod_of_nonneg hk.1];omega
   obtain ⟨⟨p,y,u⟩,t⟩:=akT hm hi d (by omega) h b;rw [show gN q.1 (([[]]:List (List Ex)),([([0]:zn)]:x3),([0]:zn),([([0]:zn)]:x3)) (Int.tmod kind 4,(r.1.length:Int),(r.1.length:Int),0,0,0)=_ from y,So.ah];rw [show gN q.1 (([[]]:List (List Ex)),([([0]:zn)]:x3),([0]:zn),([[]]:x3)) (Int.tmod kind 4,(r.1.length:Int),(r.1.length:Int),0,0,0)=_ from t,So.ah];dsimp only;rw [show (true&&true&&((0:Int)==0))=true from rfl,G0,show gQ q.1 (([[]]:List (List Ex)),([([0]:zn)]:x3),([0]:zn),([([0]:zn)]:x3)) p=_ from afn (Io hm hi (by simp)) (h [0]) u,So.ah];rfl
  .rw [show (r.2.1 != 0)=true by simpa using r1,cp]
 .rw [s,show jN ([],[],[],[],[]) 60=some ([[]],0,[]) by kernel_rfl,So.ah,f];rfl
end Ns
variable {w : World}
open Go.Lib Go.ChangeAt Go.ChangeShapes Go.WideShapes Go.RowKit
theorem acq{P:Program}{w:World}:∀(l:List (String×DataW Unit)) (ps:List MemPlace),DataW.LaidVars P w l ps->∀(i:Nat) (n:String) (d:DataW Unit),l[i]? =some (n,d)->
  ∃g t cs a p,P.globalNamed n=some g/\(P.globals[g]?).map (·.type)=some t/\w.var? P n=some cs/\DataW.trod (λ_=>()) P w 0 (λ_=>true) false a t cs.toList=some (d,p)
 |[],_,_,i,n,d,h=>by simp at h
 |(n0,d0)::l,ps,h,i,n,d,hi=>by
  obtain ⟨g,t,cs,a,p,q,j,f,e,c,b,_⟩:=h;cases i with
  |zero=>
   simp only [qm,et,q8] at hi;obtain ⟨rfl,rfl⟩:=hi;exact ⟨g,t,cs,a,p,j,f,e,c⟩
  |succ i=>exact acq l q b i n d (by simpa using hi)
theorem aeW{P:Program}{laid:List (String×DataW Unit)}(a:(laid.filter λx=>x.2.handleName?.isSome)=[])(h:laidMetH P laid w):laidMet P laid w:=by unfold laidMetH at h;rw [a] at h;exact h
theorem amO{P:Program}{laid:List (String×DataW Unit)}{Γ:Ctx}(h:laidMet P laid w)(i:Nat){n:String}{kd:IntKind}{zs:zn}{g:Nat}{t e:TypeId}{k:Nat}
  (hi:laid[i]? =some (n,tabData kd zs)) (m:P.globalNamed n=some g) (b:(P.globals[g]?).map (·.type)=some t)
  (ht:P.underlying t=some (.array k e)) (q:P.underlying e=some (.int kd)) (l:P.cellsOf e=1) (j:P.cellsOf t=k) (r:¬ Γ.M g):(gl g (zs.map (Value.int kd))).P Γ.M w:=by
 obtain ⟨ps,hl,_⟩:=h;obtain ⟨u,t',cs,o,p,f,d,a,hd⟩:=acq _ _ hl i n _ hi;obtain rfl:=iN (m.symm.trans f);obtain rfl:=iN (b.symm.trans d);have s:=cells_of_tab ht q l j hd;refine ⟨r,?_⟩;unfold World.var? at a;rw [m] at a;simp only [Option.bind_some] at a;split at a
 next c ty fr hb=>obtain rfl:=iN a;exact ⟨ty,fr,by rw [hb,<-s]⟩
 .cases a
def UP(Γ:Ctx):Prop:= ∀b,¬ Γ.M b
theorem acU:UP []:=λb h=>by obtain ⟨it,h,_⟩:=h;cases h
theorem YK{it:Item}{Γ:Ctx}(hp:it.own=[])(h:UP Γ):UP (it::Γ):=λb hb=>by
 rcases Ctx.CQ.1 hb with a|a
 .rw [hp] at a;cases a
 .exact h b a
theorem ahg(w:World):Sat [kept w (λ_=>False)] w:=Sat.nil.add rfl ⟨ix.refl w,c8 _,λb _ _=>⟨acU b,rfl⟩⟩
theorem ah2(w:World):UP [kept w (λ_=>False)]:=YK rfl acU
theorem akJ{Γ:Ctx}(h:UP Γ):Mv (λ_=>False) w Γ.M w:=⟨c8 _,λb _ _=>⟨h b,rfl⟩⟩
theorem aho{w':World}{Γ:Ctx}{i:Nat}(h:Sat Γ w')(hi:Γ[i]? =some (kept w (λ_=>False))):Below w.heap.size w w':=by obtain ⟨a,c,b⟩:=h.kept hi;exact ⟨a.os,a.tape,a.output,c,λk hk=>(b k hk (λh=>h)).2⟩
theorem Qv{Y:Type}(R:Nat->Y->Ex->Prop):∀(ys:List Y),(∀i y,ys[i]? =some y->∃e,R i y e)->∃l:List Ex,l.length=ys.length/\∀i y e,ys[i]? =some y->l[i]? =some e->R i y e
 |[],_=>⟨[],rfl,λi y e h=>by simp at h⟩
 |y::ys,h=>by
  obtain ⟨e,d⟩:=h 0 y rfl;obtain ⟨l,hl,c⟩:=Qv (λi=>R (i+1)) ys (λi y a=>h (i+1) y (by simpa using a));refine ⟨e::l,by simp [hl],λi b e' a hx=>?_⟩;cases i with
  |zero=>
   simp only [qm,et] at a hx;subst a;subst hx;exact d
  |succ i=>exact c i b e' (by simpa using a) (by simpa using hx)
theorem ahv{H:Type}:∀(l:List Ex) (ds:List (DataW H)),l.length=ds.length->(∀(i:Nat) (e:Ex) (d:DataW H),l[i]? =some e->ds[i]? =some d->e.sz<=Rows.uptoBulk d)->EJ l<=Rows.uptoBulkAll ds
 |[],[],_,_=>c8 _
 |e::l,d::ds,hl,h=>by
  have c:=h 0 e d rfl rfl;have b:=ahv l ds (by simpa using hl) (λi e d a hd=>h (i+1) e d (by simpa using a) (by simpa using hd));simp only [EJ,Rows.uptoBulkAll];omega
 |[],_::_,h,_=>by simp at h
 |_::_,[],h,_=>by simp at h
theorem O9{H:Type}(d:DataW H):1<=Rows.uptoBulk d:=by
 cases d with
 |lit l=>cases l <;> simp [Rows.uptoBulk]
 |nil=>simp [Rows.uptoBulk]
 |ptr d=>simp [Rows.uptoBulk]
 |slice e b=>simp [Rows.uptoBulk]
 |agg c=>simp [Rows.uptoBulk]
 |iface t d=>simp [Rows.uptoBulk]
 |map a=>simp [Rows.uptoBulk]
 |held h=>simp [Rows.uptoBulk]
theorem EE{H:Type}{d:DataW H}:∀{l:List (DataW H)},d∈l->Rows.uptoBulk d<=Rows.uptoBulkAll l
 |x::r,h=>by
  simp only [Rows.uptoBulkAll];rcases List.mem_cons.1 h with rfl|h
  .omega
  .have:=EE h;omega
structure afA(P:Program)(t:TypeId):Prop where
 fields:∃(fs:Array Field) (f0 f1 f2 f3:Field),P.underlying t=some (.struct fs)/\fs.size=4/\fs[0]? =some f0/\fs[1]? =some f1/\fs[2]? =some f2/\fs[3]? =some f3/\
  (f0.offset=0/\P.underlying f0.type=some (.int .i64)/\P.cellsOf f0.type=1)/\(f1.offset=1/\P.underlying f1.type=some (.int .i64)/\P.cellsOf f1.type=1)/\
  (f2.offset=2/\P.underlying f2.type=some (.int .i64)/\P.cellsOf f2.type=1)/\(f3.offset=3/\P.underlying f3.type=some (.slice t)/\P.cellsOf f3.type=1)
 cells:P.cellsOf t=4
theorem aoF{P:Program}{a:Nat}{t:TypeId}{v:Value}{b:Array Field}(ht:P.underlying t=some (.struct b))(h:Value.okWide P w .any a t v):
  ∃cs,v= .agg cs/\cs.size=P.cellsOf t/\Row.okWide P w .any a t cs:=by
 unfold Value.okWide at h;rw [ht] at h;exact h
theorem ae6{a:Addr}{v:Value}(h:w.cell? a=some v):a.spot=none/\∃cs e fr,w.heap[a.block]? =some (.cells cs e fr)/\cs[a.off]? =some v:=by
 unfold World.cell? at h;split at h
 .rename_i cs e fr hb;split at h
  .cases h
  next b=>exact ⟨by simpa using b,cs,e,fr,hb,h⟩
 .cases h
theorem adB{H:Type}{enc:TypeId×Value->H}{P:Program}{W:World}{t:TypeId}(L:afA P t):∀(p:Nat) (cs:ze) (x:DataW H×List MemPlace),
  DataW.trod enc P W 0 (λ_=>true) true p t cs=some x->∃e,wT (λ_=>False) W cs e/\e.sz<=Rows.uptoBulk x.1:=by
 intro p
 induction p using Nat.strongRecOn with
 |ind p ih=>
 intro cs x h;obtain ⟨⟨fs,f0,f1,f2,f3,hT,hsz,g0,g1,g2,g3,⟨o0,u0,c0⟩,⟨o1,u1,c1⟩,⟨o2,u2,c2⟩,⟨o3,u3,c3⟩⟩,hc⟩:=L;obtain ⟨xs,n,rfl,rfl,hl,D,X⟩:=DataW.trod_struct hT h;rw [hc] at hl;rw [hsz] at D;obtain ⟨a0,V,U,C,rfl⟩:∃a0 V U C,cs=[a0,V,U,C]:=by
  match cs,hl with
  |[a,b,c,d],_=>exact ⟨a,b,c,d,rfl⟩
 obtain ⟨x0,x1,x2,A,rfl⟩:∃a0 V U C,xs=[a0,V,U,C]:=by
  match xs,D with
  |[a,b,c,d],_=>exact ⟨a,b,c,d,rfl⟩
 have Z:=X 0 f0 g0;have t1:=X 1 f1 g1;have t2:=X 2 f2 g2;have Y:=X 3 f3 g3;rw [o0,c0] at Z;rw [o1,c1] at t1;rw [o2,c2] at t2;rw [o3,c3] at Y;simp only [p5,q5,uc,List.drop_succ_cons,qm,iQ] at Z t1 t2 Y;obtain ⟨z,e0,_,_⟩:=DataW.trod_int u0 Z;obtain ⟨w,e1,_,_⟩:=DataW.trod_int u1 t1;obtain ⟨v,e2,_,_⟩:=DataW.trod_int u2 t2;obtain rfl:a0= .int .i64 z:=by simpa using e0
 obtain rfl:V= .int .i64 w:=by simpa using e1
 obtain rfl:U= .int .i64 v:=by simpa using e2
 have hb:∀d,A.1=d->Rows.uptoBulk d+1<=Rows.uptoBulk (DataW.agg ([x0,x1,x2,A].map (·.1))):=λd hd=>by subst hd;have:=EE (d:=A.1) (l:=[x0,x1,x2,A].map (·.1)) (by simp);simp only [Rows.uptoBulk];omega
 rcases DataW.trod_slice u3 Y with ⟨q,E⟩|⟨a,len,cap,f,rest,m,rfl,q,E,_,hlc,_,J,O,hsp,_⟩
 .obtain rfl:C= .slice none 0 0:=by simpa using q
  refine ⟨.mk z w v [],.nil z w v none,?_⟩;have:=hb _ rfl;have:=O9 A.1;simp only [Ex.sz,EJ];omega
 .obtain rfl:C= .slice (some a) len cap:=by simpa using q
  obtain ⟨hrl,G⟩:=hsp rfl;rw [hc] at O G
  -- all of it is there
  have cell:∀i,i<cap->∃us y,W.cells? 0 (a.add (i*4)) 4=some us/\us.length=4/\(∀j,j<4->W.cell? ((a.add (i*4)).add j)=us[j]?)/\DataW.trod enc P W 0 (λ_=>true) true m t us=some y/\(i<len->f[i]? =some y):=λi hi=>by
   by_cases M:i<len
   .obtain ⟨y,r⟩:∃y,f[i]? =some y:=⟨f[i]'(by omega),b9 _⟩;have:=O i M;rw [r,q7] at this;obtain ⟨us,B,S⟩:=this;obtain ⟨_,q,u⟩:=World.cells?_some B;exact ⟨us,y,B,q,u,S,λ_=>r⟩
   .obtain ⟨y,r⟩:∃y,rest[i-len]? =some y:=⟨rest[i-len]'(by omega),b9 _⟩;have:=G (i-len) (by omega);rw [r,q7] at this;obtain ⟨us,B,S⟩:=this;have e:len+(i-len)=i:=by omega
    rw [e] at B;obtain ⟨_,q,u⟩:=World.cells?_some B;exact ⟨us,y,B,q,u,S,λh=>absurd h M⟩
  by_cases Q:cap=0
  .subst Q;obtain rfl:len=0:=by omega
   refine ⟨.mk z w v [],.nil z w v (some a),?_⟩;have:=hb _ rfl;have:=O9 A.1;simp only [Ex.sz,EJ];omega
  .obtain ⟨us0,_,_,hl0,hc0,_⟩:=cell 0 (by omega);have T:=hc0 0 (by omega);rw [b9 (by omega)] at T;obtain ⟨hs,o,e',fr,R,_⟩:=ae6 T;have F:a.spot=none:=by simpa [Addr.add] using hs
   have k:W.heap[a.block]? =some (.cells o e' fr):=by simpa [Addr.add] using R
   obtain ⟨b,g,sp⟩:=a;simp only at F k;subst F;have at_:∀i j,((⟨b,g,none⟩:Addr).add (i*4)).add j=⟨b,g+i*4+j,none⟩:=λi j=>by unfold Addr.add;split <;> split <;> simp_all
   have s:∀i,i<cap->∃us y,us.length=4/\(∀j,j<4->o[g+i*4+j]? =us[j]?)/\DataW.trod enc P W 0 (λ_=>true) true m t us=some y/\(i<len->f[i]? =some y):=λi hi=>by obtain ⟨us,y,_,q,u,h5,h6⟩:=cell i hi;refine ⟨us,y,q,λj K=>?_,h5,h6⟩;have:=u j K;rw [at_] at this;simpa [World.cell?,k] using this
   have hsize:g+cap*4<=o.size:=by obtain ⟨us,_,q,u,_⟩:=s (cap-1) (by omega);have:=u 3 (by omega);rw [b9 (by omega)] at this;have:=(Array.getElem?_eq_some_iff.1 this).1;omega
   have N:∀i y,f[i]? =some y->∃e,(wT (λ_=>False) W (((o.toList.drop g).drop (i*4)).take 4) e/\e.sz<=Rows.uptoBulk y.1):=λi y r=>by
    have hi:i<len:=by rw [<-J];exact (List.getElem?_eq_some_iff.1 r).1
    obtain ⟨us,y',q,u,h5,h6⟩:=s i (by omega);obtain rfl:y'=y:=by have:=h6 hi;rw [r] at this;exact (iN this).symm
    have hus:((o.toList.drop g).drop (i*4)).take 4=us:=by
     apply mN;intro j;by_cases K:j<4
     .rw [ql,du K,qx,qx,<-u j K];simp [rJ]
     .rw [ql,df K,l7 (by omega)]
    rw [hus];exact ih m (by omega) us y' h5
   obtain ⟨l,hll,hR⟩:=Qv (λi y e=>wT (λ_=>False) W (((o.toList.drop g).drop (i*4)).take 4) e/\e.sz<=Rows.uptoBulk y.1) f N;have I:l.length=len:=by omega
   refine ⟨.mk z w v l,?_,?_⟩
   .rw [<-I];refine .some z w v l b g cap o e' fr (λh=>h) k (by omega) (by omega) ?_ (λi hi=>?_)
    .simp only [dk,j5,fb];omega
    .obtain ⟨y,r⟩:∃y,f[i]? =some y:=⟨f[i]'(by omega),b9 _⟩;have:=(hR i y l[i] r (b9 _)).1;rw [qz,qG];have e4:min 4 (l.length*4-i*4)=4:=by omega
     rw [e4];exact this
   .have B:=ahv l (f.map (·.1)) (by simp [hll]) (λi e d he hd=>by rw [qL,Option.map_eq_some_iff] at hd;obtain ⟨y,r,rfl⟩:=hd;exact (hR i y e r he).2)
    have S:A.1= .slice (f.map (·.1)) (rest.map (·.1)):=by rw [E]
    have q:=hb _ S;simp only [Ex.sz];have u:Rows.uptoBulk (DataW.slice (f.map (·.1)) (rest.map (·.1)))=Rows.uptoBulkAll (f.map (·.1))+Rows.uptoBulkAll (rest.map (·.1))+1:=by simp only [Rows.uptoBulk]
    omega
variable {Q : Nat -> Prop} {W : World}
open Go.ChangeMaps (open_string)
def uN:Ty->xa
 | .p a b=>uN a++uN b
 | .l _|.ex=>[none]
 |_=>[]
def apK:Ty->Pt
 | .i k=> .int k
 | .bo=> .bool
 | .s=> .str
 | .l t=> .sli t
 |t=> .dat t (uN t)
def Hk(Q:Nat->Prop):(t:Ty)->t.T->Prop
 | .i k,x=>(Lit.int k x).wf=true
 | .s,x=>x.length<=9223372036854775807
 | .p a b,x=>Hk Q a x.1/\Hk Q b x.2
 | .l t,x=>(List.length (α:=t.T) x<=9223372036854775807/\Q (List.length (α:=t.T) x))/\∀y:t.T,List.Mem y x->Hk Q t y
 | .ex,x=>Q x.sz
 |_,_=>True
def Lu(P:Program)(t:TypeId):Bool:=(match P.underlying t with
 |some (.int .i64)=>true
 |_=>false)&&P.cellsOf t==1
def exB(P:Program)(t:TypeId):Bool:=(match P.underlying t with
 |some (.struct fs)=>(match fs.toList with
  |[f0,f1,f2,f3]=>f0.offset==0&&Lu P f0.type&&(f1.offset==1&&Lu P f1.type)&&(f2.offset==2&&Lu P f2.type)&&(f3.offset==3&&P.cellsOf f3.type==1&&(match P.underlying f3.type with
   |some (.slice e)=>e==t
   |_=>false))
  |_=>false)
 |_=>false)&&P.cellsOf t==4
def BX(P:Program)(fit:TypeId->Ty->Bool)(tot:Nat):List Field->Nat->Ty->Bool
 |[],_,_=>false
 |[f],off,t=>f.offset==off&&off+P.cellsOf f.type==tot&&P.cellsOf f.type==t.rep.n&&fit f.type t
 |f::g::fs,off,t=>match t with
  | .p a b=>f.offset==off&&P.cellsOf f.type==a.rep.n&&fit f.type a&&BX P fit tot (g::fs) (off+P.cellsOf f.type) b
  |_=>false
def fits(P:Program):Nat->TypeId->Ty->Bool
 |0,_,_=>false
 |n+1,i,t=>match P.underlying i with
  |some (.int k)=>(match t with
   | .i k'=>decide (k=k')
   |_=>false)
  |some .bool=>(match t with
   | .bo=>true
   |_=>false)
  |some .string=>(match t with
   | .s=>true
   |_=>false)
  |some (.slice e)=>(match t with
   | .l u=>P.cellsOf e==u.rep.n&&Nat.blt 0 u.rep.n&&fits P n e u
   |_=>false)
  |some (.struct fs)=>(match t with
   | .ex=>exB P i
   | .p a b=>BX P (fits P n) (P.cellsOf i) fs.toList 0 (.p a b)
   |_=>false)
  |_=>false
def U1:Ty->Bool
 | .n=>false
 | .p a b=>U1 a&&U1 b
 |_=>true
theorem KR{P:Program}{fit:TypeId->Ty->Bool}(h:∀i t,fit i t=true->U1 t=true){d:Nat}:∀(j:List Field) (c:Nat) (t:Ty),BX P fit d j c t=true->U1 t=true
 |[],_,_,e=>by cases e
 |[f],c,t,e=>by
  simp only [BX,an] at e;exact h _ _ e.2
 |f::g::j,c,t,e=>by
  unfold BX at e;split at e
  next a b=>simp only [an] at e;simp only [U1,an];exact ⟨h _ _ e.1.2,KR h (g::j) _ b e.2⟩
  .cases e
theorem ZT{P:Program}:∀(n:Nat) (i:TypeId) (t:Ty),fits P n i t=true->U1 t=true
 |0,_,_,e=>by cases e
 |n+1,i,t,e=>by
  unfold fits at e;split at e <;> (try cases e)
  .split at e
   .rfl
   .cases e
  .split at e
   .rfl
   .cases e
  .split at e
   .rfl
   .cases e
  .split at e
   .rfl
   .cases e
  .split at e
   .rfl
   .exact KR (λi t=>ZT n i t) _ _ _ e
   .cases e
theorem vK{P:Program}{t:TypeId}(h:Lu P t=true):P.underlying t=some (.int .i64)/\P.cellsOf t=1:=by
 unfold Lu at h;simp only [an,n4] at h;refine ⟨?_,h.2⟩;revert h;split
 next h=>intro _;exact h
 .intro h;cases h.1
theorem aps{P:Program}{t:TypeId}(h:exB P t=true):afA P t:=by
 unfold exB at h;simp only [an,n4] at h;obtain ⟨a,q⟩:=h;split at a
 .rename_i d b;split at a
  .rename_i k j f c hl;simp only [an,n4] at a;obtain ⟨⟨⟨⟨a0,n⟩,w,m⟩,v,l⟩,⟨u,r⟩,s⟩:=a;have g:∀i:Nat,d[i]? =[k,j,f,c][i]? :=λi=>by rw [<-hl,sv]
   have o:P.underlying c.type=some (.slice t):=by
    revert s;split
    next e p=>intro hb;rw [p,(by simpa using hb:e=t)]
    .intro hb;cases hb
   refine ⟨⟨d,k,j,f,c,b,?_,g 0,g 1,g 2,g 3,⟨a0,(vK n).1,(vK n).2⟩,⟨w,(vK m).1,(vK m).2⟩,⟨v,(vK l).1,(vK l).2⟩,⟨u,o,r⟩⟩,q⟩;rw [<-fb,hl];rfl
  .cases a
 .cases a
theorem akL{a:Addr}{v:Value}(h:w.cell? a=some v):a.spot=none/\∃cs e fr,w.heap[a.block]? =some (.cells cs e fr)/\cs[a.off]? =some v:=by
 unfold World.cell? at h;split at h
 .rename_i cs e fr hb;split at h
  .cases h
  next b=>exact ⟨by simpa using b,cs,e,fr,hb,h⟩
 .cases h
theorem NJ{Y α:Type}(R:Nat->Y->α->Prop):∀(ys:List Y),(∀i y,ys[i]? =some y->∃e,R i y e)->∃l:List α,l.length=ys.length/\∀i y e,ys[i]? =some y->l[i]? =some e->R i y e
 |[],_=>⟨[],rfl,λi y e h=>by simp at h⟩
 |y::ys,h=>by
  obtain ⟨e,d⟩:=h 0 y rfl;obtain ⟨l,hl,c⟩:=NJ (λi=>R (i+1)) ys (λi y a=>h (i+1) y (by simpa using a));refine ⟨e::l,by simp [hl],λi b e' a hx=>?_⟩;cases i with
  |zero=>
   simp only [qm,et] at a hx;subst a;subst hx;exact d
  |succ i=>exact c i b e' (by simpa using a) (by simpa using hx)
theorem NP{H:Type}:∀(l:List (DataW H)),l.length<=Rows.uptoBulkAll l
 |[]=>pF _
 |d::l=>by have:=NP l;have:=O9 d;simp only [ei,Rows.uptoBulkAll];omega
theorem ahd{H:Type}{enc:TypeId×Value->H}{P:Program}{t e:TypeId}{A:eS α}{D:α->Prop}(ht:P.underlying t=some (.slice e))(hA:P.cellsOf e=A.n)(hn:0<A.n)
  (q:Nat) (cs:ze) (x:DataW H×List MemPlace) (hQ:∀n,n<=Rows.uptoBulk x.1->Q n)
  (he:∀(q:Nat) (us:ze) (y:DataW H×List MemPlace),(∀n,n<=Rows.uptoBulk y.1->Q n)->DataW.trod enc P W 0 (λ_=>true) true q e us=some y->∃z,A.rd (λ_=>False) W us z/\D z)
  (h:DataW.trod enc P W 0 (λ_=>true) true q t cs=some x):
  ∃(u:ju) (zs:List α),cs=[sl u]/\bS A (λ_=>False) W (sl u) zs/\(zs.length<=9223372036854775807/\Q zs.length)/\∀z∈zs,D z:=by
 rcases DataW.trod_slice ht h with ⟨p,_⟩|⟨a,len,cap,c,rest,m,rfl,p,hx,_,hlc,C,F,K,T,_⟩
 .exact ⟨(none,0,0),[],p,bS.nil,⟨by simp,hQ _ (pF _)⟩,by simp⟩
 .obtain ⟨hrl,B⟩:=T rfl;rw [hA] at K B;have C:cap<=9223372036854775807:=C;have hb:Rows.uptoBulk x.1=Rows.uptoBulkAll (c.map (·.1))+Rows.uptoBulkAll (rest.map (·.1))+1:=by rw [hx];simp only [Rows.uptoBulk]
  have hlb:len<=Rows.uptoBulk x.1:=by have:=NP (c.map (·.1));simp only [qb] at this;omega
  have V:∀y∈c,∀n,n<=Rows.uptoBulk y.1->Q n:=λy o n hn=>hQ n (by have:=EE (d:=y.1) (l:=c.map (·.1)) (List.mem_map.2 ⟨y,o,rfl⟩);omega)
  have cell:∀i,i<cap->∃us y,us.length=A.n/\(∀j,j<A.n->W.cell? ((a.add (i*A.n)).add j)=us[j]?)/\DataW.trod enc P W 0 (λ_=>true) true m e us=some y/\(i<len->c[i]? =some y):=λi hi=>by
   by_cases I:i<len
   .obtain ⟨y,o⟩:∃y,c[i]? =some y:=⟨c[i]'(by omega),b9 _⟩;have:=K i I;rw [o,q7] at this;obtain ⟨us,O,Z⟩:=this;obtain ⟨_,p,s⟩:=World.cells?_some O;exact ⟨us,y,p,s,Z,λ_=>o⟩
   .obtain ⟨y,o⟩:∃y,rest[i-len]? =some y:=⟨rest[i-len]'(by omega),b9 _⟩;have:=B (i-len) (by omega);rw [o,q7,show len+(i-len)=i by omega] at this;obtain ⟨us,O,Z⟩:=this;obtain ⟨_,p,s⟩:=World.cells?_some O;exact ⟨us,y,p,s,Z,λh=>absurd h I⟩
  by_cases L:cap=0
  .subst L;obtain rfl:len=0:=by omega
   exact ⟨(some a,0,0),[],p,bS.emp,⟨by simp,hQ _ (pF _)⟩,by simp⟩
  .obtain ⟨us0,_,hl0,U,_⟩:=cell 0 (by omega);have N:=U 0 hn;rw [b9 (by omega)] at N;obtain ⟨hs,g,e',fr,M,_⟩:=akL N;have w:a.spot=none:=by simpa [Addr.add] using hs
   have k:W.heap[a.block]? =some (.cells g e' fr):=by simpa [Addr.add] using M
   obtain ⟨b,f,sp⟩:=a;simp only at w k;subst w;have at_:∀i j,((⟨b,f,none⟩:Addr).add (i*A.n)).add j=⟨b,f+i*A.n+j,none⟩:=λi j=>by unfold Addr.add;split <;> split <;> simp_all
   have r:∀i,i<cap->∃us y,us.length=A.n/\(∀j,j<A.n->g[f+i*A.n+j]? =us[j]?)/\DataW.trod enc P W 0 (λ_=>true) true m e us=some y/\(i<len->c[i]? =some y):=λi hi=>by obtain ⟨us,y,p,s,Y,X⟩:=cell i hi;refine ⟨us,y,p,λj G=>?_,Y,X⟩;have:=s j G;rw [at_] at this;simpa [World.cell?,k] using this
   have v:f+cap*A.n<=g.size:=by
    obtain ⟨us,_,p,s,_⟩:=r (cap-1) (by omega);have:=s (A.n-1) (by omega);rw [b9 (by omega)] at this;have:=(Array.getElem?_eq_some_iff.1 this).1;have e1:cap*A.n=(cap-1)*A.n+A.n:=by
     have:cap=(cap-1)+1:=by omega
     conv=>lhs;rw [this]
     rw [qq,Nat.one_mul]
    omega
   have J:∀i y,c[i]? =some y->∃z,(A.rd (λ_=>False) W (((g.toList.drop f).drop (i*A.n)).take A.n) z/\D z):=λi y o=>by
    have hi:i<len:=by rw [<-F];exact (List.getElem?_eq_some_iff.1 o).1
    obtain ⟨us,R,p,s,Y,X⟩:=r i (by omega);obtain rfl:R=y:=by have:=X hi;rw [o] at this;exact (iN this).symm
    have S:((g.toList.drop f).drop (i*A.n)).take A.n=us:=by
     apply mN;intro j;by_cases G:j<A.n
     .rw [ql,du G,qx,qx,<-s j G];simp [rJ]
     .rw [ql,df G,l7 (by omega)]
    rw [S];exact he m us R (V R (gr o)) Y
   obtain ⟨l,hll,hR⟩:=NJ (λi y z=>A.rd (λ_=>False) W (((g.toList.drop f).drop (i*A.n)).take A.n) z/\D z) c J;have E:l.length=len:=by omega
   have get:∀i (hi:i<l.length),A.rd (λ_=>False) W (((g.toList.drop f).drop (i*A.n)).take A.n) l[i]/\D l[i]:=λi hi=>by obtain ⟨y,o⟩:∃y,c[i]? =some y:=⟨c[i]'(by omega),b9 _⟩;exact hR i y l[i] o (b9 _)
   refine ⟨(some ⟨b,f,none⟩,len,cap),l,p,.inr ⟨b,f,cap,g,e',fr,by rw [E];rfl,(λh=>h),k,by omega,v,?_⟩,⟨by omega,hQ _ (by omega)⟩,λz hz=>?_⟩
   .have hle:l.length*A.n<=cap*A.n:=gy _ (by omega);refine ⟨?_,λi hi=>?_⟩
    .simp only [dk,j5,fb];omega
    .have O:i*A.n+A.n<=l.length*A.n:=by rw [<-qD];exact gy _ hi
     rw [qz,qG,j0 (by omega)];exact (get i hi).1
   .obtain ⟨i,hi,rfl⟩:=qu hz;exact (get i hi).2
theorem aaM{H:Type}{enc:TypeId×Value->H}{P:Program}:∀(n:Nat) (i:TypeId) (t:Ty),fits P n i t=true->∀(o:Nat) (cs:ze) (x:DataW H×List MemPlace),
  (∀n,n<=Rows.uptoBulk x.1->Q n)->DataW.trod enc P W 0 (λ_=>true) true o i cs=some x->∃z:t.T,t.rep.rd (λ_=>False) W cs z/\Hk Q t z:=by
 intro n
 induction n with
 |zero=>intro i t h;cases h
 |succ n ih=>
 intro i t c o cs x hQ h;unfold fits at c;split at c
 .rename_i k v;split at c
  .obtain ⟨z,q,_,w⟩:=DataW.trod_int v h;have e:=qM c;subst e;exact ⟨z,q,w⟩
  .cases c
 .rename_i v;split at c
  .obtain ⟨z,q,_⟩:=DataW.trod_bool v h;exact ⟨z,q,trivial⟩
  .cases c
 .rename_i v;split at c
  .obtain ⟨⟨⟨z⟩⟩,q,_,w⟩:=DataW.trod_string v h;exact ⟨z,q,w⟩
  .cases c
 .rename_i e v;split at c
  next u=>simp only [an,n4,j6] at c;obtain ⟨⟨q,G⟩,w⟩:=c;obtain ⟨p,zs,a1,a2,Z,Y⟩:=ahd (A:=u.rep) (Q:=Q) (D:=Hk Q u) v q G o cs x hQ (λo us y K h=>ih e u w o us y K h) h;exact ⟨zs,⟨p,a1,a2⟩,Z,Y⟩
  .cases c
 .rename_i C v;have key:∀t:Ty,BX P (fits P n) (P.cellsOf i) C.toList 0 t=true->∃z:t.T,t.rep.rd (λ_=>False) W cs z/\Hk Q t z:=λt c=>by
   obtain ⟨xs,m,_,hx,hl,L,O⟩:=DataW.trod_struct v h;have hb:Rows.uptoBulk x.1=Rows.uptoBulkAll (xs.map (·.1))+1:=by rw [hx];simp only [Rows.uptoBulk]
   have R:∀y∈xs,∀n,n<=Rows.uptoBulk y.1->Q n:=λy K n hn=>hQ n (by have:=EE (d:=y.1) (l:=xs.map (·.1)) (List.mem_map.2 ⟨y,K,rfl⟩);omega)
   have one:∀(j:Nat) (f:Field) (t:Ty),C.toList[j]? =some f->fits P n f.type t=true->∃z:t.T,t.rep.rd (λ_=>False) W ((cs.drop f.offset).take (P.cellsOf f.type)) z/\Hk Q t z:=λj f t I ht=>by
    have F:C[j]? =some f:=by simpa using I
    have q:=O j f F;have N:j<xs.length:=by rw [L];exact (Array.getElem?_eq_some_iff.1 F).1
    rw [b9 N] at q;exact ih f.type t ht m _ _ (R _ (eF _)) q
   have go:∀(r:List Field) (j s:Nat) (t:Ty),C.toList.drop j=r->BX P (fits P n) (P.cellsOf i) r s t=true->∃z:t.T,t.rep.rd (λ_=>False) W (cs.drop s) z/\Hk Q t z:=λr=>by
    induction r with
    |nil=>intro j s t _ h;cases h
    |cons f r J=>
     intro j s t U c;have I:C.toList[j]? =some f:=by have:=congrArg (·[0]?) U;simpa [qx] using this
     have M:C.toList.drop (j+1)=r:=by rw [<-qA,U];rfl
     cases r with
     |nil=>
      simp only [BX,an,n4] at c;obtain ⟨⟨⟨q,G⟩,w⟩,S⟩:=c;obtain ⟨z,B,E⟩:=one j f t I S;rw [q,gx (by simp;omega)] at B;exact ⟨z,B,E⟩
     |cons g r=>
      unfold BX at c;split at c
      next a b=>simp only [an,n4] at c;obtain ⟨⟨⟨q,G⟩,w⟩,S⟩:=c;obtain ⟨z,B,E⟩:=one j f a I w;obtain ⟨y,X,V⟩:=J (j+1) _ b M S;rw [q] at B;refine ⟨(z,y),⟨_,_,?_,B,X⟩,E,V⟩;rw [<-qA];exact (qv ..).symm
      .cases c
   obtain ⟨z,B,E⟩:=go C.toList 0 0 t rfl c;exact ⟨z,by simpa using B,E⟩
  split at c
  .obtain ⟨e,q,G⟩:=adB (aps c) o cs x h;exact ⟨e,q,hQ _ G⟩
  .exact key _ c
  .cases c
 .cases c
def nk(W:World)(I:fI):Prop:= ∀it∈I,it.1=false/\it.2.cL=true/\∀M,Mv (λ_=>False) W M W->it.2.P M W
theorem nk.nil:nk W []:=λit h=>by cases h
theorem nk.app{I J:fI}(h:nk W I)(k:nk W J):nk W (I++J):=λit bH=>by
 rcases List.mem_append.1 bH with a|a
 .exact h it a
 .exact k it a
theorem nk.one{A:eS α}{p:ju}{l:List α}(h:bS A (λ_=>False) W (sl p) l):nk W [(false,LQ true A p l false)]:=λit bH=>by
 rcases List.mem_singleton.1 bH with rfl
 exact ⟨rfl,rfl,λM hm _=>⟨h.mv hm,λh=>by cases h⟩⟩
theorem IZ{W:World}:∀(t:Ty) (cs:ze) (x:t.T),U1 t=true->t.rep.rd (λ_=>False) W cs x->∀(o:xa) (N:List Nm),∃I N',OJ t x cs (uN t++o) N I N' o/\nk W I
 | .i k,cs,x,hn,h,o,N=>⟨[],N,⟨h,rfl,rfl,rfl⟩,.nil⟩
 | .bo,cs,x,hn,h,o,N=>⟨[],N,⟨h,rfl,rfl,rfl⟩,.nil⟩
 | .s,cs,x,hn,h,o,N=>⟨[],N,⟨h,rfl,rfl,rfl⟩,.nil⟩
 | .un,cs,x,hn,h,o,N=>⟨[],N,⟨h,rfl,rfl,rfl⟩,.nil⟩
 | .n,cs,x,hn,h,o,N=>by cases hn
 | .mp _ _,cs,x,hn,h,o,N=>absurd h id
 | .p a b,cs,x,hn,h,o,N=>by
  simp only [U1,an] at hn;obtain ⟨c1,e,d,c,r⟩:=h;obtain ⟨j,f,q,v⟩:=IZ a c1 x.1 hn.1 c (uN b++o) N;obtain ⟨g,N2,m,u⟩:=IZ b e x.2 hn.2 r o f;refine ⟨j++g,N2,⟨c1,e,f,j,g,uN b++o,?_,m,d,rfl⟩,v.app u⟩;rw [show uN (.p a b)++o=uN a++(uN b++o) by simp [uN]];exact q
 | .l t,cs,x,hn,h,o,N=>by
  obtain ⟨p,d,c⟩:=h;exact ⟨_,_,⟨⟨0,p,⟨0,0,none⟩,none,.bool false,⟨.un,()⟩⟩,d,rfl,.inl ⟨rfl,rfl⟩⟩,.one c⟩
 | .ex,cs,x,hn,h,o,N=>by obtain ⟨p,d,c⟩:=Je h;exact ⟨_,_,⟨⟨0,p,⟨0,0,none⟩,none,.bool false,⟨.un,()⟩⟩,d,rfl,.inl ⟨rfl,rfl⟩⟩,.one c⟩
def Arg(W:World)(t:Ty)(v:Value)(z:t.T):Prop:= ∀N:List Nm,∃I N',Sem (apK t) v none none N [⟨t,z⟩] I [] N'/\nk W I
theorem NL{H:Type}{enc:TypeId×Value->H}{P:Program}{o:Nat}{n:Nat}{i:TypeId}(t:Ty)(f:fits P n i t=true){v:Value}{d:DataW H}{ps:List MemPlace}
  (l:Value.okWide P W .any o i v) (hQ:∀n,n<=Rows.uptoBulk d->Q n) (h:DataW.Trod enc P W 0 (λ_=>true) true i v d ps):∃z:t.T,Arg W t v z/\Hk Q t z:=by
 have hk:=h;obtain ⟨m,hx⟩:=h;obtain ⟨z,c,w⟩:=aaM n i t f m _ _ hQ hx;refine ⟨z,?_,w⟩;cases n with
 |zero=>cases f
 |succ n=>
 unfold fits at f;split at f
 .rename_i k j;split at f
  .have e:=qM f;subst e;obtain ⟨y,rfl,_⟩:=open_int j l hk;have:y=z:=by
    have c:([.int k y]:ze)=[.int k z]:=c;injection c with c _
    injection c
   subst this;exact λN=>⟨[],N,⟨y,rfl,rfl,rfl,rfl,rfl⟩,.nil⟩
  .cases f
 .rename_i j;split at f
  .obtain ⟨y,rfl,_⟩:=open_bool j l hk;have:y=z:=by
    have c:([.bool y]:ze)=[.bool z]:=c;injection c with c _
    injection c
   subst this;exact λN=>⟨[],N,⟨y,rfl,rfl,rfl,rfl,rfl⟩,.nil⟩
  .cases f
 .rename_i j;split at f
  .obtain ⟨⟨⟨y⟩⟩,rfl,_⟩:=open_string j l hk;have:y=z:=by
    have c:([S y]:ze)=[S z]:=c;injection c with c _
    injection c with c
    injection c with c
    injection c
   subst this;exact λN=>⟨[],N,⟨y,rfl,rfl,rfl,rfl,rfl⟩,.nil⟩
  .cases f
 .rename_i e j;split at f
  .rename_i u;obtain ⟨a,len,cap,rfl⟩:=okWide_slice j l;obtain ⟨p,r,q⟩:=c;have x:Value.slice a len cap=sl p:=by simpa [Value.cells] using r
   rw [x];exact λN=>⟨_,_,⟨⟨0,p,⟨0,0,none⟩,none,.bool false,⟨.un,()⟩⟩,z,rfl,rfl,rfl,rfl,rfl⟩,.one q⟩
  .cases f
 .rename_i B j;obtain ⟨cs,rfl,_,_⟩:=aoF j l;split at f
  .obtain ⟨p,r,q⟩:=Je c;exact λN=>⟨_,_,⟨cs.toList,z,[],by simp,rfl,⟨⟨0,p,⟨0,0,none⟩,none,.bool false,⟨.un,()⟩⟩,r,rfl,.inl ⟨rfl,rfl⟩⟩,rfl⟩,.one q⟩
  .rename_i a b;exact λN=>by
    obtain ⟨I,A,s,g⟩:=IZ (.p a b) _ z (KR (λi t=>ZT n i t) _ _ _ f) c [] N;exact ⟨I,A,⟨cs.toList,z,[],by simp,rfl,by simpa [Value.cells] using s,rfl⟩,g⟩
  .cases f
 .cases f
def ako(W:World)(ps:List Pt)(vs:ze)(D:List ck):Prop:= ∀N:List Nm,∃I N',w7 ps vs [] [] N D I [] N'/\nk W I
theorem aks:ako W [] [] []:=λN=>⟨[],N,⟨rfl,rfl,rfl,rfl,rfl⟩,.nil⟩
theorem Vl{W:World}{t:Ty}{v:Value}{z:t.T}{ps:List Pt}{vs:ze}{D:List ck}(h:Arg W t v z)(k:ako W ps vs D):ako W (apK t::ps) (v::vs) (⟨t,z⟩::D):=λN=>by obtain ⟨c,a,e,g⟩:=h N;obtain ⟨b,N2,d,f⟩:=k a;exact ⟨c++b,N2,⟨v,vs,[⟨t,z⟩],D,c,b,[],[],a,rfl,e,d,rfl,rfl,rfl⟩,g.app f⟩
theorem ajz{I:fI}{Γ:Ctx}(g:nk W I)(hn:UP Γ)(h:Sat Γ W):Sat (dA I++Γ) W:=Ck h _ (λit bH=>by obtain ⟨x,hx,rfl⟩:=List.mem_map.1 bH;exact ⟨(g x hx).2.1,(g x hx).2.2 _ (akJ hn)⟩)
namespace Ns
theorem aiI(text:aE)(kind:Int)(b:Hk (λ_=>True) .s text)(a:Hk (λ_=>True) (.i .u8) kind):iY text kind=some true:=by have h:(Lit.int .u8 kind).wf=true:=a;simp only [Lit.wf,an,gj] at h;exact aa0 text kind h
end Ns
end
end Go.Proofs.YtcgihjbfppkcfaaGreatDoor
