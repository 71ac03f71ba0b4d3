/-
  Own texts for the statement StoreTells, cut down to what it needs: K1, K2, K3, K4, K5, K6, K7, K8, K9, K10. (cut and joined by a program)
-/
import Derived.WalkKit
import Derived.ScopeJumps
import Derived.Deep.Quiet
import Derived.KernelRfl
import Derived.TacticsIn
import Derived.OrdersIn
import Derived.RangeFuncRecord
import Derived.Laws.BytesArg
import Derived.Laws.IdiomStrings
import Derived.Laws.Cover3
import Derived.Laws.Shifts
import Derived.Laws.BitsAllLaws
namespace Go.Proofs.YtgcgmclghbebjaaGreat
/-! ### words of the models -/
abbrev Str:=List UInt8
def S (l:Str):Value:= .string ⟨l.toArray⟩
noncomputable def aq {σ ρ:Type} (F:(σ→Option ρ)→σ→Option ρ) (n:Nat):σ→Option ρ:=Nat.rec (fun _=>none) (fun _ ih s=>F ih s) n
theorem aE {σ ρ:Type} {F:(σ→Option ρ)→σ→Option ρ} {n:Nat} {s:σ}:aq F (n+1) s=F (aq F n) s:=rfl
def au:Nat:=2^64
def chk {ρ:Type} (c:Bool) (k:Option ρ):Option ρ:=bif c then k else none
def aj {α ρ:Type} (x:α) (k:α→Option ρ):Option ρ:=k x
def cf {α ρ:Type} (g:Bool) (d:α) (m:Option α) (k:α→Option ρ):Option ρ:=(bif g then m else some d).bind k
theorem fZ {ρ:Type} {c:Bool} {k:Option ρ} {r:ρ} (h:chk c k=some r):c=true∧k=some r:=by
 cases c
 ·cases h
 ·exact ⟨rfl,h⟩
theorem eP {α ρ:Type} {m:Option α} {k:α→Option ρ} {r:ρ} (h:m.bind k=some r): ∃ y,m=some y∧k y=some r:=by
 cases m with
 | none=>cases h
 | some y=>exact ⟨y,rfl,h⟩
theorem CM {α ρ:Type} {g:Bool} {d:α} {m:Option α} {k:α→Option ρ} {r:ρ} (h:cf g d m k=some r):
  ∃ y,(g=true→m=some y)∧(g=false→y=d)∧k y=some r:=by
 cases g
 ·exact ⟨d,(fun h=>by cases h),fun _=>rfl,h⟩
 ·obtain ⟨y,hy,hk⟩:=eP h
  exact ⟨y,fun _=>hy,(fun h=>by cases h),hk⟩
theorem m6 {ρ:Type} {c:Bool} {x y:Option ρ} {r:ρ} (h:(bif c then x else y)=some r):
  (c=true∧x=some r)∨(c=false∧y=some r):=by
 cases c
 ·exact .inr ⟨rfl,h⟩
 ·exact .inl ⟨rfl,h⟩
def Vj {ρ:Type} (g c:Bool) (k:Option ρ):Option ρ:=bif g then (bif c then k else none) else k
theorem OE {ρ:Type} {g c:Bool} {k:Option ρ} {r:ρ} (h:Vj g c k=some r):(g=true→c=true)∧k=some r:=by
 cases g
 ·exact ⟨(fun h=>by cases h),h⟩
 ·obtain ⟨h1,h2⟩:=fZ (c:=c) h
  exact ⟨fun _=>h1,h2⟩
theorem exG {α:Type} [Inhabited α] {g:Bool} {p:α→Prop} (h:g=true→ ∃ x,p x): ∃ x,g=true→p x:=by
 cases g
 ·exact ⟨default,fun h=>by cases h⟩
 ·obtain ⟨x,hx⟩:=h rfl
  exact ⟨x,fun _=>hx⟩
theorem qf {σ ρ:Type} {F:(σ→Option ρ)→σ→Option ρ} {n:Nat} {s:σ} {r:ρ} (h:aq F n s=some r):
  ∃ m,n=m+1∧F (aq F m) s=some r:=by
 cases n with
 | zero=>cases h
 | succ m=>exact ⟨m,rfl,h⟩
/-! ### environments -/
abbrev Env:=List (Nat×Bool×Value)
def look:Env→Nat→Option (Bool×Value)
 | [],_=>none
 | (r,g,v)::E,t=>bif Nat.beq r t then some (g,v) else look E t
def qH (g:Bool) (v:Value):Value:=bif g then v else undef
structure Fits (n:Nat) (E:Env) (a:Act):Prop where
 size:a.tmps.size=n
 at_: ∀ t g v,look E t=some (g,v)→a.tmps.getD t undef=qH g v
def Opd (E:Env) (g:Bool) (x:Operand) (v:Value):Prop:=
 ∀ n a,Fits n E a→g=true→a.eval x=v
theorem Opd.t {E:Env} {g:Bool} {t:Tmp} {v:Value} (h:look E t=some (true,v)):Opd E g (.tmp t) v:=
 fun n a hf _=>by simpa [qH,Act.eval] using hf.at_ t true v h
theorem Opd.g {E:Env} {g g':Bool} {t:Tmp} {v:Value} (h:look E t=some (g',v)) (hg:g=true→g'=true):Opd E g (.tmp t) v:=
 fun n a hf hgt=>by have:=hf.at_ t g' v h;rw [hg hgt] at this;simpa [qH,Act.eval] using this
theorem Opd.c {E:Env} {g:Bool} {v:Value}:Opd E g (.const v) v:=fun _ _ _ _=>rfl
theorem Opd.f {E:Env} {g:Bool} {f:FuncId}:Opd E g (.func f) (.func (.func f) #[] #[]):=fun _ _ _ _=>rfl
theorem Opd.gl {E:Env} {g:Bool} {f:Nat}:Opd E g (.global f) (.pointer (some ⟨f,0,none⟩)):=fun _ _ _ _=>rfl
inductive jS (E:Env) (g:Bool):List Operand→List Value→Prop
 | nil:jS E g [] []
 | cons {x v xs vs}:Opd E g x v→jS E g xs vs→jS E g (x::xs) (v::vs)
theorem jS.map {E:Env} {g:Bool} {xs:List Operand} {vs:List Value} (h:jS E g xs vs) {n:Nat} {a:Act} (hf:Fits n E a) (hg:g=true):
  xs.map a.eval=vs:=by
 induction h with
 | nil=>rfl
 | cons hx _ ih=>simp [hx n a hf hg,ih]
def put (dst:Option Tmp) (g:Bool) (v:Value) (E:Env):Env:=
 match dst with
 | some d=>(d,g,v)::E
 | none=>E
theorem zX (xs:Array Value) (i j:Nat) (v:Value):
  (xs.setIfInBounds i v).getD j undef=if i=j∧i<xs.size then v else xs.getD j undef:=by
 simp only [Array.getD_eq_getD_getElem?,Array.getElem?_setIfInBounds]
 by_cases h:i=j
 ·subst h
  by_cases h2:i<xs.size
  ·simp [h2]
  ·simp [h2]
 ·simp [h]
theorem Fits.put {n:Nat} {E:Env} {a:Act} (h:Fits n E a) {d:Tmp} {g:Bool} {v:Value} (hd:Nat.blt d n=true):
  Fits n ((d,g,v)::E) (a.put (some d) (qH g v)):=by
 have hd':d<n:=by simpa using hd
 refine ⟨by simp [Act.put,h.size],fun t g' v' ht=> ?_⟩
 simp only [Act.put,zX,h.size,hd',and_true]
 simp only [look] at ht
 by_cases hdt:d=t
 ·subst hdt
  simp only [Nat.beq_refl,cond_true,Option.some.injEq,Prod.mk.injEq] at ht
  obtain ⟨rfl,rfl⟩:=ht
  simp
 ·have:Nat.beq d t=false:=by cases hb:Nat.beq d t with
   | true=>exact absurd (Nat.eq_of_beq_eq_true hb) hdt
   | false=>rfl
  rw [this,cond_false] at ht
  rw [if_neg hdt]
  exact h.at_ t g' v' ht
abbrev LU (E' E:Env):Prop:=E'.map (fun p=>look E p.1)=E'.map (fun p=>some p.2)
theorem Ia: ∀ {E:Env} {t:Nat} {p:Bool×Value},look E t=some p→(t,p)∈E
 | (r,g,v)::E,t,p,h=>by
  simp only [look] at h
  cases hb:Nat.beq r t with
  | true=>
   rw [hb,cond_true] at h
   have:=Nat.eq_of_beq_eq_true hb
   subst this
   cases h
   exact List.mem_cons_self ..
  | false=>
   rw [hb,cond_false] at h
   exact List.mem_cons_of_mem _ (Ia h)
theorem Fits.sub {n:Nat} {E E':Env} {a:Act} (h:Fits n E a) (hs:LU E' E):Fits n E' a:=by
 refine ⟨h.size,fun t g v ht=>h.at_ t g v ?_⟩
 have hm:=Ia ht
 have:=List.map_inj_left.1 hs _ hm
 simpa using this
/-! ### posts and code -/
abbrev aI:=Exit→Act→World→Prop
def FW (ρ:Option Nat):Fence:={ fn:=fun _=>True,depth:=none,alive:=false,round:=ρ }
theorem rX {ρ:Option Nat} {p:Prop}:(FW ρ).depth.isSome=true→p:=fun h=>by cases h
theorem oG {ρ:Option Nat} {P:Program} {m:Machine}:m.fenced P (FW ρ):=fenced_wide P m
theorem xo {ρ:Option Nat} {n:Nat} {P:Program} {f:FuncId} {args:Array Value} {w:World} {R:Ending→World→Prop} (h:Calls P f args w R):CallsIn (FW ρ) n P f args w R:=
 callsIn_wide.2 h
theorem JL {ρ:Option Nat} {n:Nat} {P:Program} {f:FuncId} {args:Array Value} {w:World} {R:Ending→World→Prop} (h:CallsIn (FW ρ) n P f args w R):Calls P f args w R:=
 callsIn_wide.1 h
def At (Q:aI) (e:Exit) (n:Nat) (D:List Deferred) (E:Env) (w:World):Prop:=
 ∀ a,Fits n E a→a.defers=D→Q e a w
def WC (P:Program) (ρ:Option Nat) (c:Code) (Q:aI) (n:Nat) (D:List Deferred) (E:Env) (w:World):Prop:=
 ∀ a,Fits n E a→a.defers=D→c.wpIn (FW ρ) 0 P Q a w
def WL (P:Program) (ρ:Option Nat) (ops:Array Oper) (Q:aI) (n:Nat) (D:List Deferred) (l:List Oper) (E:Env) (w:World):Prop:=
 ∀ a,Fits n E a→a.defers=D→wpListIn (FW ρ) 0 P ops Q l a w
section
variable {P : Program} {ρ : Option Nat} {Q : aI} {n : Nat} {D : List Deferred} {E : Env} {w : World}
theorem WC.sub {c:Code} (E':Env) (hs:LU E' E) (h:WC P ρ c Q n D E' w):WC P ρ c Q n D E w:=
 fun a hf hd=>h a (hf.sub hs) hd
theorem At.sub {e:Exit} (E':Env) (hs:LU E' E) (h:At Q e n D E' w):At Q e n D E w:=
 fun a hf hd=>h a (hf.sub hs) hd
theorem aX {x y:Code} (h:WC P ρ x (Exit.then (y.wpIn (FW ρ) 0 P Q) Q) n D E w):WC P ρ (.seq x y) Q n D E w:=
 fun a hf hd=>wpIn_seq (h a hf hd)
theorem aN {y:Code} (h:WC P ρ y Q n D E w):At (Exit.then (y.wpIn (FW ρ) 0 P Q) Q) .normal n D E w:=h
theorem uP {K:Act→World→Prop} (h:At Q .ret n D E w):At (Exit.then K Q) .ret n D E w:=h
theorem F0 {K:Act→World→Prop} {i:List PanicEntry} (h:At Q (.panic i) n D E w):At (Exit.then K Q) (.panic i) n D E w:=h
theorem FG {i:Nat} (h:At Q .normal n D E w):At (Exit.inBlock i Q) .normal n D E w:=h
theorem MM {i:Nat} (h:At Q .ret n D E w):At (Exit.inBlock i Q) .ret n D E w:=h
theorem JF {i j:Nat} (h:At Q (.goto j) n D E w):At (Exit.inBlock i Q) (.goto j) n D E w:=h
theorem Ik {i:Nat} {j:List PanicEntry} (h:At Q (.panic j) n D E w):At (Exit.inBlock i Q) (.panic j) n D E w:=h
theorem Kc {i:Nat} (h:At Q .normal n D E w):At (Exit.inBlock i Q) (.exit i) n D E w:=
 fun a hf hd=>by simp only [Exit.inBlock,if_true];exact h a hf hd
theorem G0 {i j:Nat} (hij:Nat.beq j i=false) (h:At Q (.exit j) n D E w):At (Exit.inBlock i Q) (.exit j) n D E w:=
 fun a hf hd=>by
  have: ¬ j=i:=fun e=>by subst e;simp at hij
  simp only [Exit.inBlock,if_neg this];exact h a hf hd
theorem nu (h:At Q .normal n D E w):WC P ρ .skip Q n D E w:=fun a hf hd=>wpIn_skip (h a hf hd)
theorem Iy {l:Nat} (h:At Q .normal n D E w):WC P ρ (.label l) Q n D E w:=fun a hf hd=>wpIn_label (h a hf hd)
theorem DI {i:Nat} (h:At Q (.exit i) n D E w):WC P ρ (.exit i) Q n D E w:=fun a hf hd=>wpIn_exit (h a hf hd)
theorem KG {i:Nat} (h:At Q (.goto i) n D E w):WC P ρ (.goto i) Q n D E w:=fun a hf hd=>wpIn_goto (h a hf hd)
theorem wb (h:At Q .ret n D E w):WC P ρ .ret Q n D E w:=fun a hf hd=>wpIn_ret (h a hf hd)
theorem B2 {i:Nat} {c:Code} (h:WC P ρ c (Exit.inBlock i Q) n D E w):WC P ρ (.block i c) Q n D E w:=fun a hf hd=>wpIn_block (h a hf hd)
theorem aW {id:Nat} {l:List Oper} (h:WL P ρ l.toArray Q n D l E w):WC P ρ (.region id l.toArray false) Q n D E w:=
 fun a hf hd=>wpIn_region_lit (h a hf hd)
theorem iF {c:Operand} {x y:Code} {b:Bool} (hc:Opd E true c (.bool b))
  (ht:b=true→WC P ρ x Q n D E w) (hf:b=false→WC P ρ y Q n D E w):WC P ρ (.cond c x y) Q n D E w:=
 fun a hfit hd=>wpIn_cond_split (hc n a hfit rfl) (fun h=>ht h a hfit hd) (fun h=>hf h a hfit hd)
def Bn {γ:Type} (J:γ→World→Prop) (Es:γ→Env) (n:Nat) (D:List Deferred) (a:Act) (w:World):Prop:=
 ∃ g,J g w∧Fits n (Es g) a∧a.defers=D
theorem Lz {γ:Type} (J:γ→World→Prop) (Es:γ→Env) {x y:Code}
  (hy: ∀ g w',J g w'→WC P ρ y Q n D (Es g) w') (hx:WC P ρ x (Exit.then (Bn J Es n D) Q) n D E w):WC P ρ (.seq x y) Q n D E w:=
 fun a hf hd=>wpIn_seq (wpIn_mono (hx a hf hd) (fun e a' w' h=>by
  cases e <;> first | exact h | (obtain ⟨g,hJ,hF,hD⟩:=h;exact hy g w' hJ a' hF hD)))
theorem v8 {c:Code} (I:Nat→Act→World→Prop) {a:Act} {w:World} (N:Nat) (h₀:I N a w)
  (round: ∀ m a w,I m a w→c.wpIn (FW ρ) 0 P (Exit.then (fun a' w'=> ∃ m'<m,I m' a' w') Q) a w):(Code.loop c).wpIn (FW ρ) 0 P Q a w:=by
 intro b k cs hro hb hr
 have key: ∀ m a w,I m a w→
   ∃ e a' w',Q e a' w'∧ArrivesIn (Machine.fenced P (FW ρ)) P (lone (b.atR a (.code c:: .inLoop c::k)) cs w) b k cs e a' w':=by
  intro m
  induction m using Nat.strongRecOn with
  | _ m ih=>
   intro a w hI
   obtain ⟨e,a₁,w₁,hq,harr⟩:=round m a w hI b (.inLoop c::k) cs hro hb hr
   cases e with
   | normal=>
    obtain ⟨m',hlt,hI₁⟩:=hq
    obtain ⟨e₂,a₂,w₂,hq₂,harr₂⟩:=ih m' hlt a₁ w₁ hI₁
    exact ⟨e₂,a₂,w₂,hq₂,.of_steps (StepsIn.trans harr (.one oG stepR_inLoop)) harr₂⟩
   | exit id=>exact ⟨_,a₁,w₁,hq,.pass (x:= .inLoop c) rfl (fun _ _=> .inl (by simp)) harr⟩
   | goto l=>exact ⟨_,a₁,w₁,hq,.pass (x:= .inLoop c) rfl (fun _ _=> .inl (by simp)) harr⟩
   | ret=>exact ⟨_,a₁,w₁,hq,.pass (x:= .inLoop c) rfl (fun _ _=> .inl (by simp)) harr⟩
   | panic ch=>exact ⟨_,a₁,w₁,hq,.pass (x:= .inLoop c) rfl (fun _ _=> .inl (by simp)) harr⟩
   | outgrown=>exact ⟨_,a₁,w₁,hq,.pass (x:= .inLoop c) rfl (fun _ _=> .inl (by simp)) harr⟩
 obtain ⟨e,a',w',hq,harr⟩:=key N a w h₀
 exact ⟨e,a',w',hq,.of_steps (.one oG stepR_loop) harr⟩
def rn {σ γ τ:Type} (again:σ→Option τ) (r:τ) (J:σ→γ→World→Prop) (Es:σ→γ→Env) (n:Nat) (D:List Deferred) (a:Act) (w:World):Prop:=
 ∃ s g,again s=some r∧J s g w∧Fits n (Es s g) a∧a.defers=D
theorem jM {b:Frame} {a:Act} {k:List Item} {cs:List Frame} {c:Code}:step P (lone (b.atR a (.code (.scope c)::k)) cs w)= .next (lone (b.atR a (.code c:: .inScope c::k)) cs w):=
 step_lone_go (by simp [stepG,stepG.exec,Frame.atR])
theorem EL {b:Frame} {a:Act} {k:List Item} {cs:List Frame} {c:Code}:step P (lone (b.atR a (.inScope c::k)) cs w)= .next (lone (b.atR a k) cs w):=
 step_lone_go (by simp [stepG,stepG.exec,Frame.atR])
theorem tX {c rest:Code} (l:Nat) (J:Nat→Act→World→Prop) {a:Act} {w:World} (hf:findLabel c l=some rest)
  (first:c.wpIn (FW ρ) 0 P (Exit.jump l (fun a w=> ∃ m,J m a w) Q) a w)
  (pass: ∀ m a w,J m a w→rest.wpIn (FW ρ) 0 P (Exit.jump l (fun a' w'=> ∃ m'<m,J m' a' w') Q) a w):(Code.scope c).wpIn (FW ρ) 0 P Q a w:=by
 intro b k cs hro hb hr
 have hg:gotoIn l (.inScope c::k)=some (.code rest:: .inScope c::k):=by simp [gotoIn,hf]
 have hx: ∀ id,exitTo id (.inScope c::k)=exitTo id k:=fun id=>by simp [exitTo]
 have out: ∀ {m₁:Machine} {e:Exit} {a₁:Act} {w₁:World},(∀ l',e≠ .goto l')→ArrivesIn (Machine.fenced P (FW ρ)) P m₁ b (.inScope c::k) cs e a₁ w₁→ArrivesIn (Machine.fenced P (FW ρ)) P m₁ b k cs e a₁ w₁:=by
  intro m₁ e a₁ w₁ hne h
  cases e with
  | normal=>exact StepsIn.trans h (.one oG EL)
  | exit id=>exact ⟨fun k' hk=>h.1 k' (by rw [hx];exact hk),fun hr' hk=>h.2 hr' (by rw [hx];exact hk)⟩
  | goto l'=>exact absurd rfl (hne l')
  | ret=>exact h
  | panic ch=>exact h
  | outgrown=>exact h
 have key: ∀ m a w,J m a w→ ∃ e a' w',Q e a' w'∧ArrivesIn (Machine.fenced P (FW ρ)) P (lone (b.atR a (.code rest:: .inScope c::k)) cs w) b k cs e a' w':=by
  intro m
  induction m using Nat.strongRecOn with
  | _ m ih=>
   intro a w hJ
   obtain ⟨e,a₁,w₁,hq,harr⟩:=pass m a w hJ b (.inScope c::k) cs hro hb hr
   cases e with
   | normal=>exact ⟨.normal,a₁,w₁,hq,out (by simp) harr⟩
   | exit id=>exact ⟨.exit id,a₁,w₁,hq,out (by simp) harr⟩
   | goto l'=>
    obtain ⟨rfl,m',hlt,hJ'⟩:=hq
    obtain ⟨e₂,a₂,w₂,hq₂,harr₂⟩:=ih m' hlt a₁ w₁ hJ'
    exact ⟨e₂,a₂,w₂,hq₂,.of_steps (harr.1 _ hg) harr₂⟩
   | ret=>exact ⟨_,a₁,w₁,hq,out (by simp) harr⟩
   | panic ch=>exact ⟨_,a₁,w₁,hq,out (by simp) harr⟩
   | outgrown=>exact ⟨_,a₁,w₁,hq,out (by simp) harr⟩
 obtain ⟨e,a₁,w₁,hq,harr⟩:=first b (.inScope c::k) cs hro hb hr
 cases e with
 | normal=>exact ⟨.normal,a₁,w₁,hq,.of_steps (.one oG jM) (out (e:= .normal) (by simp) harr)⟩
 | exit id=>exact ⟨.exit id,a₁,w₁,hq,.of_steps (.one oG jM) (out (by simp) harr)⟩
 | goto l'=>
  obtain ⟨rfl,m,hJ'⟩:=hq
  obtain ⟨e₂,a₂,w₂,hq₂,harr₂⟩:=key m a₁ w₁ hJ'
  exact ⟨e₂,a₂,w₂,hq₂,.of_steps (.head oG jM (harr.1 _ hg)) harr₂⟩
 | ret=>exact ⟨_,a₁,w₁,hq,.of_steps (.one oG jM) (out (by simp) harr)⟩
 | panic ch=>exact ⟨_,a₁,w₁,hq,.of_steps (.one oG jM) (out (by simp) harr)⟩
 | outgrown=>exact ⟨_,a₁,w₁,hq,.of_steps (.one oG jM) (out (by simp) harr)⟩
theorem WC_scope {σ γ τ:Type} {F:(σ→Option τ)→σ→Option τ} {r:τ} (J:σ→γ→World→Prop) (Es:σ→γ→Env) {c rest:Code} (l:Nat)
  (hl:findLabel c l=some rest)
  (first:WC P ρ c (Exit.jump l (fun a w=> ∃ m,rn (aq F m) r J Es n D a w) Q) n D E w)
  (pass: ∀ again s g w,F again s=some r→J s g w→WC P ρ rest (Exit.jump l (rn again r J Es n D) Q) n D (Es s g) w):
  WC P ρ (.scope c) Q n D E w:=fun a hf hd=>
 tX l (fun m=>rn (aq F m) r J Es n D) hl (first a hf hd) fun m a w ⟨s,g,hs,hJ,hF,hD⟩=>by
  obtain ⟨m',rfl,hs'⟩:=qf hs
  exact wpIn_mono (pass (aq F m') s g w hs' hJ a hF hD) fun e a w h=>by
   cases e <;> first | exact h | exact ⟨h.1,m',Nat.lt_succ_self _,h.2⟩
theorem At_gen {σ γ τ:Type} {F:(σ→Option τ)→σ→Option τ} {r:τ} {N:Nat} {s0:σ} {e:Exit} (J:σ→γ→World→Prop) (Es:σ→γ→Env)
  (hm:aq F N s0=some r) (g0:γ) (h0:J s0 g0 w) (hE:LU (Es s0 g0) E)
  (h: ∀ m again,again=aq F m→ ∀ s g w,F again s=some r→J s g w→At Q e n D (Es s g) w):At Q e n D E w:=by
 obtain ⟨m,rfl,hm⟩:=qf hm
 exact (h m _ rfl s0 g0 w hm h0).sub _ hE
end
/-! ### calls -/
def RE (S:Value→World→Prop) (Sp:List PanicEntry→World→Prop):Ending→World→Prop
 | .returned v,w=>S v w
 | .panicked c,w=>Sp c w
 | .outgrown,_=>False
def gO (P:Program) (f:FuncId) (args:List Value) (w:World) (S:Value→World→Prop) (Sp:List PanicEntry→World→Prop):Prop:=
 Calls P f args.toArray w (RE S Sp)
abbrev fg (P:Program) (f:FuncId) (args:List Value) (w:World) (S:Value→World→Prop):Prop:=gO P f args w S (fun _ _=>False)
theorem gO.mono {P:Program} {f:FuncId} {args:List Value} {w:World} {S S':Value→World→Prop} {Sp Sp':List PanicEntry→World→Prop} (h:gO P f args w S Sp)
  (hs: ∀ v w',S v w'→S' v w') (hp: ∀ v w',Sp v w'→Sp' v w'):gO P f args w S' Sp':=
 Calls.mono h fun e w' he=>by
  cases e with
  | returned v=>exact hs _ _ he
  | panicked c=>exact hp _ _ he
  | outgrown=>exact he
theorem fg.mono {P:Program} {f:FuncId} {args:List Value} {w:World} {S S':Value→World→Prop} (h:fg P f args w S)
  (hs: ∀ v w',S v w'→S' v w'):fg P f args w S':=gO.mono h hs (fun _ _ h=>h)
def iota:Nat→List Value→Env
 | _,[]=>[]
 | k,v::vs=>(k,true,v)::iota (k+1) vs
theorem zu: ∀ (vs:List Value) (k t:Nat) (g:Bool) (v:Value),look (iota k vs) t=some (g,v)→ ∃ j,t=k+j∧vs[j]? =some v∧g=true
 | [],_,_,_,_,h=>by cases h
 | u::vs,k,t,g,v,h=>by
  simp only [iota,look] at h
  cases hb:Nat.beq k t with
  | true=>
   rw [hb,cond_true] at h
   have:=Nat.eq_of_beq_eq_true hb
   subst this
   cases h
   exact ⟨0,rfl,rfl,rfl⟩
  | false=>
   rw [hb,cond_false] at h
   obtain ⟨j,hj,hv,hg⟩:=zu vs (k+1) t g v h
   exact ⟨j+1,by omega,by simpa using hv,hg⟩
abbrev BP (P:Program) (fn:Func) (S:Value→World→Prop) (Sp:List PanicEntry→World→Prop):aI:=bodyPostM (FW none) 0 P fn (RE S Sp)
theorem jL {P:Program} {f:FuncId} {fn:Func} {c:Code} {vs:List Value} {w:World} {n:Nat} {S:Value→World→Prop} {Sp:List PanicEntry→World→Prop}
  (hf:P.funcs[f]? =some fn) (hb:fn.body=some c) (hn:fn.ntmps=n) (hl:Nat.ble vs.length n=true)
  (h:WC P none c (BP P fn S Sp) n [] (iota 0 vs) w):gO P f vs w S Sp:=by
 refine JL (ρ:=none) (callsIn_of_wp_marks hf hb trivial (h _ ⟨?_,fun t g v ht=> ?_⟩ rfl))
 ·have:vs.length≤n:=by simpa using hl
  simp [hn];omega
 ·obtain ⟨j,rfl,hv,rfl⟩:=zu vs 0 t g v ht
  have hj:j<vs.length:=by
   rcases Nat.lt_or_ge j vs.length with h | h
   ·exact h
   ·rw [List.getElem?_eq_none h] at hv;cases hv
  simp only [qH,cond_true,Nat.zero_add,Array.getD_eq_getD_getElem?]
  rw [Array.getElem?_append_left (by simpa using hj)]
  simp [hv]
/-! ### operations -/
def Run (P:Program) (E:Env) (g:Bool) (o:Oper) (w:World) (v:Value):Prop:=
 ∀ n a,Fits n E a→g=true→(execOp a.eval o).run P w= .ok (.value v) w
theorem Run.eqB {P:Program} {E:Env} {g:Bool} {o:Oper} {w:World} {x y:Bool} (h:Run P E g o w (.bool x)) (e:x=y):Run P E g o w (.bool y):=e▸h
theorem Run.eqI {P:Program} {E:Env} {g:Bool} {o:Oper} {w:World} {k:IntKind} {x y:Int} (h:Run P E g o w (.int k x)) (e:x=y):Run P E g o w (.int k y):=e▸h
section
variable {P : Program} {ρ : Option Nat} {Q : aI} {n : Nat} {D : List Deferred} {E : Env} {w : World} {ops : Array Oper} {rest : List Oper}
theorem bG (h:At Q .normal n D E w):WL P ρ ops Q n D [] E w:=fun a hf hd=>wpListIn_nil (h a hf hd)
def eO (o:Oper):Bool:=match o.op with
 | .defer _=>false
 | _=>true
theorem xJ {o:Oper} (h:eO o=true) (ev:Operand→Value):o.semAt ρ ev=execOp ev o:=by
 cases ρ with
 | none=>rfl
 | some l=>exact Oper.semAt_some l ev o (fun c e=>by simp [eO,e] at h)
theorem fP {o:Oper} (hp:eO o=true) {a:Act} {next:Act→World→Prop} (h:o.uponIn (FW ρ) 0 P a next Q ((execOp a.eval o).run P w)):o.wpIn (FW ρ) 0 P a w next Q:=
 ⟨fun _ _=>trivial,by rw [show (FW ρ).round=ρ from rfl,xJ hp];exact h⟩
theorem ay {o:Oper} {d:Tmp} {v:Value} (hr:Run P E true o w v) (hp:eO o=true) (hg:o.guard=none) (hd:o.dst=some d) (hn:Nat.blt d n=true)
  (h:WL P ρ ops Q n D rest ((d,true,v)::E) w):WL P ρ ops Q n D (o::rest) E w:=fun a hf hD=>
 wpListIn_plain hg fun K hK=>fP hp (by
  rw [hr n a hf rfl,Oper.uponIn_value,hd]
  exact hK _ _ (h _ (hf.put hn) hD))
theorem qp {o:Oper} {j:Nat} {pol:Bool} {rj:Tmp} {gj bj:Bool} {a:Act} (hg:o.guard=some (j,pol)) (hj:(ops[j]?).bind (·.dst)=some rj)
  (hl:look E rj=some (gj,.bool bj)) (hf:Fits n E a) (hn:Nat.blt rj n=true):Region.wanted o (yielded ops a.tmps)=(gj&&(bj==pol)):=by
 have hsz:rj<a.tmps.size:=by rw [hf.size];simpa using hn
 have h2:=hf.at_ rj gj _ hl
 have h3:a.tmps[rj]? =some (qH gj (.bool bj)):=by
  rw [Array.getElem?_eq_getElem hsz,← h2];simp [Array.getD,hsz]
 simp only [Region.wanted,hg,yielded,hj,Option.bind_some,h3]
 cases gj
 ·simp [qH,undef]
 ·cases bj <;> cases pol <;> rfl
end
end Go.Proofs.YtgcgmclghbebjaaGreat
namespace Go.Proofs.YtgcgmclghbebjaaGreat
section
variable {P : Program} {E : Env} {g : Bool} {w : World} {dst : Option Tmp} {ty : TypeId} {pos : String} {af : Array Edge} {gd : Option (Nat × Bool)}
theorem ax {x:Operand} {v:Value} (hx:Opd E g x v):Run P E g ⟨dst,.move x,ty,pos,af,gd⟩ w v:=
 fun n a hf hg=>by simp only [execOp,hx n a hf hg];rfl
theorem cK {x:Operand} {v:Value} (hx:Opd E g x v):Run P E g ⟨dst,.assign x,ty,pos,af,gd⟩ w v:=
 fun n a hf hg=>by simp only [execOp,hx n a hf hg];rfl
theorem Th {c x:Operand} {b y:Bool} (hc:Opd E g c (.bool b)) (hx:Opd E (g&&b) x (.bool y)):
  Run P E g ⟨dst,.pick c x (.const (.bool false)),ty,pos,af,gd⟩ w (.bool (b&&y)):=
 fun n a hf hg=>by
  subst hg
  simp only [execOp,hc n a hf rfl]
  cases b
  ·rfl
  ·simp only [hx n a hf rfl];rfl
theorem UL {c x:Operand} {b y:Bool} (hc:Opd E g c (.bool b)) (hx:Opd E (g&& !b) x (.bool y)):
  Run P E g ⟨dst,.pick c (.const (.bool true)) x,ty,pos,af,gd⟩ w (.bool (b||y)):=
 fun n a hf hg=>by
  subst hg
  simp only [execOp,hc n a hf rfl]
  cases b
  ·simp only [hx n a hf rfl];rfl
  ·rfl
theorem JB {x:Operand} {b:Bool} {t:TypeId} (hx:Opd E g x (.bool b)):Run P E g ⟨dst,.unOp .not t x,ty,pos,af,gd⟩ w (.bool (!b)):=
 fun n a hf hg=>by simp only [execOp,hx n a hf hg];rfl
theorem Ux {x:Operand} {k:IntKind} {m:Int} {t:TypeId} (hx:Opd E g x (.int k m)):Run P E g ⟨dst,.unOp .neg t x,ty,pos,af,gd⟩ w (.int k (k.wrap (0-m))):=
 fun n a hf hg=>by simp only [execOp,hx n a hf hg];rfl
theorem bw {x y:Operand} {op:BinOp} {u v z:Value} {t t':TypeId} (hx:Opd E g x u) (hy:Opd E g y v)
  (h:(do eqGuard op t x y u v;binOp op t u v:Sem Value).run P w= .ok z w):Run P E g ⟨dst,.binOp op t x y t',ty,pos,af,gd⟩ w z:=
 fun n a hf hg=>by
  simp only [execOp,hx n a hf hg,hy n a hf hg,Sem.run_bind] at h ⊢
  simp only [h,Result.andThen_ok];rfl
def OR:Value→Bool
 | .nilIface=>false
 | .agg _=>false
 | _=>true
theorem cp {op:BinOp} {t:TypeId} {x y:Operand} {u v:Value} (hu:OR u=true):(eqGuard op t x y u v).run P w= .ok () w:=by
 unfold eqGuard
 cases op <;> simp <;> (split <;> simp_all [OR])
theorem nD {x y:Operand} {k:IntKind} {m l:Int} {t t':TypeId} (hx:Opd E g x (.int k m)) (hy:Opd E g y (.int k l)):
  Run P E g ⟨dst,.binOp .add t x y t',ty,pos,af,gd⟩ w (.int k (k.wrap (m+l))):=bw hx hy (by simp [eqGuard,binOp,Op.intArith])
theorem K8 {x y:Operand} {k:IntKind} {m l:Int} {t t':TypeId} (hx:Opd E g x (.int k m)) (hy:Opd E g y (.int k l)):
  Run P E g ⟨dst,.binOp .sub t x y t',ty,pos,af,gd⟩ w (.int k (k.wrap (m-l))):=bw hx hy (by simp [eqGuard,binOp,Op.intArith])
theorem SW {x y:Operand} {k:IntKind} {m l:Int} {t t':TypeId} (hx:Opd E g x (.int k m)) (hy:Opd E g y (.int k l)):
  Run P E g ⟨dst,.binOp .mul t x y t',ty,pos,af,gd⟩ w (.int k (k.wrap (m*l))):=bw hx hy (by simp [eqGuard,binOp,Op.intArith])
theorem SU {x y:Operand} {k:IntKind} {m l:Int} {t t':TypeId} (hx:Opd E g x (.int k m)) (hy:Opd E g y (.int k l)) (h0:(l==0)=false):
  Run P E g ⟨dst,.binOp .quo t x y t',ty,pos,af,gd⟩ w (.int k (k.wrap (m.tdiv l))):=bw hx hy (by
   have: ¬ l=0:=by simpa using h0
   simp [eqGuard,binOp,Op.intDiv,this])
theorem TS {x y:Operand} {k:IntKind} {m l:Int} {t t':TypeId} (hx:Opd E g x (.int k m)) (hy:Opd E g y (.int k l)) (h0:(l==0)=false):
  Run P E g ⟨dst,.binOp .rem t x y t',ty,pos,af,gd⟩ w (.int k (m.tmod l)):=bw hx hy (by
   have: ¬ l=0:=by simpa using h0
   simp [eqGuard,binOp,Op.intDiv,this])
theorem pJ {x y:Operand} {k:IntKind} {m l:Int} {t t':TypeId} (hx:Opd E g x (.int k m)) (hy:Opd E g y (.int k l)):
  Run P E g ⟨dst,.binOp .eql t x y t',ty,pos,af,gd⟩ w (.bool (m==l)):=bw hx hy (by simp [eqGuard,binOp,Op.intCmp])
theorem Ul {x y:Operand} {k:IntKind} {m l:Int} {t t':TypeId} (hx:Opd E g x (.int k m)) (hy:Opd E g y (.int k l)):
  Run P E g ⟨dst,.binOp .neq t x y t',ty,pos,af,gd⟩ w (.bool (m != l)):=bw hx hy (by simp [eqGuard,binOp,Op.intCmp])
theorem TN {x y:Operand} {k:IntKind} {m l:Int} {t t':TypeId} (hx:Opd E g x (.int k m)) (hy:Opd E g y (.int k l)):
  Run P E g ⟨dst,.binOp .lss t x y t',ty,pos,af,gd⟩ w (.bool (decide (m<l))):=bw hx hy (by simp [eqGuard,binOp,Op.intCmp])
theorem Un {x y:Operand} {k:IntKind} {m l:Int} {t t':TypeId} (hx:Opd E g x (.int k m)) (hy:Opd E g y (.int k l)):
  Run P E g ⟨dst,.binOp .leq t x y t',ty,pos,af,gd⟩ w (.bool (decide (m≤l))):=bw hx hy (by simp [eqGuard,binOp,Op.intCmp])
theorem Ec {x y:Operand} {k:IntKind} {m l:Int} {t t':TypeId} (hx:Opd E g x (.int k m)) (hy:Opd E g y (.int k l)):
  Run P E g ⟨dst,.binOp .gtr t x y t',ty,pos,af,gd⟩ w (.bool (decide (l<m))):=bw hx hy (by simp [eqGuard,binOp,Op.intCmp])
theorem TL {x y:Operand} {k:IntKind} {m l:Int} {t t':TypeId} (hx:Opd E g x (.int k m)) (hy:Opd E g y (.int k l)):
  Run P E g ⟨dst,.binOp .geq t x y t',ty,pos,af,gd⟩ w (.bool (decide (l≤m))):=bw hx hy (by simp [eqGuard,binOp,Op.intCmp])
theorem tT {op:BinOp} (hop:op= .and∨op= .or∨op= .xor∨op= .andNot) {x y:Operand} {k:IntKind} {m l:Int} {t t':TypeId} (hx:Opd E g x (.int k m)) (hy:Opd E g y (.int k l))
  {z:Int} (hz: ∀ w:World,(Op.intBits op k m l).run P w= .ok (.int k z) w):
  Run P E g ⟨dst,.binOp op t x y t',ty,pos,af,gd⟩ w (.int k z):=bw hx hy (by rcases hop with h | h | h | h <;> subst h <;> simp [eqGuard,binOp,hz])
theorem wO (l:Str):(⟨l.toArray⟩:ByteArray).toList=l:=by
 rw [ByteArray.toList_eq]
theorem iS (l:Str):(⟨l.toArray⟩:ByteArray).size=l.length:=by simp [ByteArray.size]
theorem Tj {x y:Operand} {m l:Str} {t t':TypeId} (hx:Opd E g x (S m)) (hy:Opd E g y (S l)):
  Run P E g ⟨dst,.binOp .eql t x y t',ty,pos,af,gd⟩ w (.bool (m==l)):=bw hx hy (by simp [eqGuard,S,binOp,Op.stringOp])
theorem Tx {x y:Operand} {m l:Str} {t t':TypeId} (hx:Opd E g x (S m)) (hy:Opd E g y (S l)):
  Run P E g ⟨dst,.binOp .neq t x y t',ty,pos,af,gd⟩ w (.bool (m != l)):=bw hx hy (by simp [eqGuard,S,binOp,Op.stringOp,bne])
def UZ (m l:Str):Bool:=Nat.ble (m.length+l.length) 9223372036854775807
theorem QW (m l:Str):((⟨m.toArray⟩:ByteArray)++(⟨l.toArray⟩:ByteArray))=⟨(m++l).toArray⟩:=by
 apply ByteArray.ext
 simp [ByteArray.data_append]
theorem Ua {x y:Operand} {m l:Str} {t t':TypeId} (hx:Opd E g x (S m)) (hy:Opd E g y (S l)) (hc:g=true→UZ m l=true):
  Run P E g ⟨dst,.binOp .add t x y t',ty,pos,af,gd⟩ w (S (m++l)):=fun n a hf hg=>
 bw (P:=P) (z:=S (m++l)) hx hy (by
  have h1:m.length+l.length≤9223372036854775807:=Nat.le_of_ble_eq_true (hc hg)
  have h2: ¬ ((((⟨m.toArray⟩:ByteArray).size+(⟨l.toArray⟩:ByteArray).size:Nat):Int)>IntKind.i64.max):=by
   rw [iS,iS];show ¬ (9223372036854775807:Int)<_;omega
  simp only [eqGuard,S,binOp,Op.stringOp,Sem.run_bind,if_neg h2,QW]
  simp) n a hf hg
theorem Ug {x y:Operand} {m l:Bool} {t t':TypeId} (ht:P.underlying t=some .bool) (hx:Opd E g x (.bool m)) (hy:Opd E g y (.bool l)):
  Run P E g ⟨dst,.binOp .eql t x y t',ty,pos,af,gd⟩ w (.bool (m==l)):=bw hx hy (by rw [Sem.run_bind,cp rfl,Result.andThen_ok,run_eql_bool w t m l ht])
theorem TJ {x y:Operand} {m l:Bool} {t t':TypeId} (ht:P.underlying t=some .bool) (hx:Opd E g x (.bool m)) (hy:Opd E g y (.bool l)):
  Run P E g ⟨dst,.binOp .neq t x y t',ty,pos,af,gd⟩ w (.bool (m != l)):=bw hx hy (by rw [Sem.run_bind,cp rfl,Result.andThen_ok,run_neq_bool w t m l ht];rfl)
theorem P7 {x:Operand} {k k':IntKind} {m:Int} {s d:TypeId} {ds:TypeDesc} (hs:P.underlying s=some ds) (ht:P.underlying d=some (.int k)) (hx:Opd E g x (.int k' m)):
  Run P E g ⟨dst,.convert s d x,ty,pos,af,gd⟩ w (.int k (k.wrap m)):=
 fun n a hf hg=>by simp [execOp,hx n a hf hg,convert,run_underlying hs,run_underlying ht,Conv.intToInt]
theorem Ke {x:Operand} {vs:List Value} {i:Nat} {v:Value} (hx:Opd E g x (.tuple vs.toArray)) (hi:vs[i]? =some v):
  Run P E g ⟨dst,.extract x i,ty,pos,af,gd⟩ w v:=
 fun n a hf hg=>by simp [execOp,hx n a hf hg,Instr.extract,hi]
theorem Qt {x:Operand} {l:Str} {t:TypeId} (ht:P.underlying t=some .string) (hx:Opd E g x (S l)):
  Run P E g ⟨dst,.call ⟨.builtin .len,#[x],#[t]⟩,ty,pos,af,gd⟩ w (.int .i64 l.length):=
 fun n a hf hg=>by simp [execOp,resolve,invoke,builtin,hx n a hf hg,Builtin.len_,run_underlying ht,S,goInt,iS]
def inB (i:Int) (n:Nat):Bool:=decide (0≤i)&&decide (i<n)
theorem jR {i:Int} {n:Nat}:inB i n=true↔0≤i∧i<n:=by simp [inB]
def Jh (l:Str) (i:Int):Int:=(l.getD i.toNat 0).toNat
theorem MK (l:Str) (i:Nat):(⟨l.toArray⟩:ByteArray)[i]? =l[i]? :=by
 by_cases h:i<l.length
 ·have h':i<(⟨l.toArray⟩:ByteArray).size:=by rw [iS];exact h
  rw [getElem?_pos (⟨l.toArray⟩:ByteArray) i h',List.getElem?_eq_getElem h]
  rfl
 ·have h': ¬ i<(⟨l.toArray⟩:ByteArray).size:=by rw [iS];exact h
  rw [getElem?_neg (⟨l.toArray⟩:ByteArray) i h',List.getElem?_eq_none (by omega)]
theorem P6 {x y:Operand} {l:Str} {i:Int} {k:IntKind} {t:TypeId} (ht:P.underlying t=some .string) (hx:Opd E g x (S l)) (hy:Opd E g y (.int k i)) (hi:g=true→inB i l.length=true):
  Run P E g ⟨dst,.index t x y,ty,pos,af,gd⟩ w (.int .u8 (Jh l i)):=
 fun n a hf hg=>by
  obtain ⟨h0,h1⟩:=jR.1 (hi hg)
  have h2:i.toNat<l.length:=by omega
  have h3:(⟨l.toArray⟩:ByteArray)[i.toNat]? =some l[i.toNat]:=by rw [MK,List.getElem?_eq_getElem h2]
  simp only [execOp,hx n a hf hg,hy n a hf hg,Instr.index,asIntOf,S,Sem.run_bind,Sem.run_pure,Result.andThen_ok,run_underlying ht]
  rw [if_pos h0,h3]
  simp [Jh,h2]
def fX (i j:Int) (n:Nat):Bool:=decide (0≤i)&&decide (i≤j)&&decide (j≤n)
theorem rK {i j:Int} {n:Nat}:fX i j n=true↔(0≤i∧i≤j)∧j≤n:=by simp [fX]
def cut (l:Str) (i j:Int):Str:=(l.drop i.toNat).take (j.toNat-i.toNat)
theorem zc (l:Str) (i j:Nat):(⟨l.toArray⟩:ByteArray).extract i j=⟨((l.drop i).take (j-i)).toArray⟩:=by
 apply ByteArray.ext
 simp [ByteArray.data_extract]
theorem QC {x:Operand} {l:Str} {i j:Int} {lo hi:Option Operand} {t:TypeId} (ht:P.underlying t=some .string) (hx:Opd E g x (S l))
  (hlo:match lo with | none=>i=0 | some y=> ∃ k,Opd E g y (.int k i)) (hhi:match hi with | none=>j=l.length | some y=> ∃ k,Opd E g y (.int k j))
  (hc:g=true→fX i j l.length=true):
  Run P E g ⟨dst,.slice t x lo hi none,ty,pos,af,gd⟩ w (S (cut l i j)):=
 fun n a hf hg=>by
  obtain ⟨⟨h0,h1⟩,h2⟩:=rK.1 (hc hg)
  have h3:0≤j:=by omega
  have e1:(((j.toNat:Nat):Int))=j:=by omega
  cases lo with
  | none=>
   subst hlo
   cases hi with
   | none=>
    subst hhi
    simp [execOp,hx n a hf hg,Instr.sliceAt,Instr.slice,Instr.sliceBounds,run_underlying ht,S,cut]
   | some y=>
    obtain ⟨k,hy⟩:=hhi
    simp [execOp,hx n a hf hg,hy n a hf hg,Instr.sliceAt,Instr.slice,Instr.sliceBounds,Instr.sliceBound,asIntOf,run_underlying ht,S,zc,cut,iS,h2,h3]
  | some z=>
   obtain ⟨k,hz⟩:=hlo
   cases hi with
   | none=>
    subst hhi
    simp [execOp,hx n a hf hg,hz n a hf hg,Instr.sliceAt,Instr.slice,Instr.sliceBounds,Instr.sliceBound,asIntOf,run_underlying ht,S,zc,cut,iS,h0,h1]
   | some y=>
    obtain ⟨k',hy⟩:=hhi
    have h4:i≤((j.toNat:Nat):Int):=by omega
    simp [execOp,hx n a hf hg,hz n a hf hg,hy n a hf hg,Instr.sliceAt,Instr.slice,Instr.sliceBounds,Instr.sliceBound,asIntOf,run_underlying ht,S,zc,cut,iS,h0,h1,h2,h3,e1]
theorem yx {fn:Fn} {first cap:List Operand} {vs us:List Value} (h1:jS E g first vs) (h2:jS E g cap us):
  Run P E g ⟨dst,.makeFunc fn first.toArray cap.toArray,ty,pos,af,gd⟩ w (.func fn vs.toArray us.toArray):=
 fun n a hf hg=>by simp [execOp,Instr.makeFunc,h1.map hf hg,h2.map hf hg]
theorem Sf {x y:Operand} {k:IntKind} {m l:Int} {t t':TypeId} (hx:Opd E g x (.int k m)) (hy:Opd E g y (.int k l))
  (hz: ∀ w:World,(Builtin.max_ #[t,t'] ty #[.int k m,.int k l]).run P w= .ok (.int k (max m l)) w):
  Run P E g ⟨dst,.call ⟨.builtin .max,#[x,y],#[t,t']⟩,ty,pos,af,gd⟩ w (.int k (max m l)):=
 fun n a hf hg=>by simp [execOp,resolve,invoke,builtin,hx n a hf hg,hy n a hf hg,hz]
theorem Qp {x y:Operand} {k:IntKind} {m l:Int} {t t':TypeId} (hx:Opd E g x (.int k m)) (hy:Opd E g y (.int k l))
  (hz: ∀ w:World,(Builtin.min_ #[t,t'] ty #[.int k m,.int k l]).run P w= .ok (.int k (min m l)) w):
  Run P E g ⟨dst,.call ⟨.builtin .min,#[x,y],#[t,t']⟩,ty,pos,af,gd⟩ w (.int k (min m l)):=
 fun n a hf hg=>by simp [execOp,resolve,invoke,builtin,hx n a hf hg,hy n a hf hg,hz]
end
/-! ### worlds that only grow -/
structure Ext (w w':World):Prop where
 os:w'.os=w.os
 tape:w'.tape=w.tape
 output:w'.output=w.output
 size:w.heap.size≤w'.heap.size
 block: ∀ k,k<w.heap.size→w'.heap[k]? =w.heap[k]?
theorem Ext.refl (w:World):Ext w w:=⟨rfl,rfl,rfl,Nat.le_refl _,fun _ _=>rfl⟩
theorem Ext.trans {a b c:World} (h:Ext a b) (k:Ext b c):Ext a c:=
 ⟨k.os.trans h.os,k.tape.trans h.tape,k.output.trans h.output,Nat.le_trans h.size k.size,fun i hi=>(k.block i (Nat.lt_of_lt_of_le hi h.size)).trans (h.block i hi)⟩
/-! ### calls -/
def cV (P:Program) (f:FuncId):Prop:= ∀ (args:Array Value) (w:World),(callFunc f args).run P w= .ok (.enter f args) w
section
variable {P : Program} {ρ : Option Nat} {Q : aI} {n : Nat} {D : List Deferred} {E : Env} {w : World} {ops : Array Oper} {rest : List Oper}
theorem p7 {g:Bool} {f:FuncId} {fo:Operand} {first vs cap:List Value} {xs:List Operand} {tys:Array TypeId} {dst:Option Tmp} {ty:TypeId} {pos:String} {af:Array Edge} {gd:Option (Nat×Bool)}
  (he:cV P f) (hfo:Opd E g fo (.func (.func f) first.toArray cap.toArray)) (hxs:jS E g xs vs) {a:Act} (hf:Fits n E a) (hg:g=true):
  (execOp a.eval ⟨dst,.call ⟨.value fo,xs.toArray,tys⟩,ty,pos,af,gd⟩).run P w= .ok (.enter f (first++vs++cap).toArray) w:=by
 have e1:(Array.map a.eval xs.toArray)=vs.toArray:=by simp [hxs.map hf hg]
 have:=he (first++vs++cap).toArray w
 simp only [execOp,resolve,hfo n a hf hg,Deferred.ofValue,e1,Sem.run_bind,Sem.run_pure,Result.andThen_ok,invoke]
 simp at this
 simpa using this
theorem qT {o:Oper} {a:Act} {next:Act→World→Prop} {f:FuncId} {args:List Value} {S:Value→World→Prop} {Sp:List PanicEntry→World→Prop}
  (hc:gO P f args w S Sp) (h: ∀ v w',S v w'→next (a.put o.dst v) w') (hp: ∀ c w',Sp c w'→Q (.panic c) a w'):o.uponIn (FW ρ) 0 P a next Q (.ok (.enter f args.toArray) w):=by
 rw [Oper.uponIn_enter]
 refine ⟨rX,xo (Calls.mono hc fun e w' he=> ?_)⟩
 cases e with
 | returned v=>exact h v w' he
 | panicked c=>exact hp c w' he
 | outgrown=>exact he.elim
theorem RR {f:FuncId} {fo:Operand} {first vs cap args:List Value} {xs:List Operand} {tys:Array TypeId} {d:Tmp} {ty:TypeId} {pos:String} {af:Array Edge} {S:Value→World→Prop} {Sp:List PanicEntry→World→Prop}
  (he:cV P f) (hfo:Opd E true fo (.func (.func f) first.toArray cap.toArray)) (hxs:jS E true xs vs) (ha:args=first++vs++cap)
  (hn:Nat.blt d n=true) (hc:gO P f args w S Sp)
  (h: ∀ v w',S v w'→WL P ρ ops Q n D rest ((d,true,v)::E) w') (hp: ∀ c w',Sp c w'→At Q (.panic c) n D E w'):WL P ρ ops Q n D (⟨some d,.call ⟨.value fo,xs.toArray,tys⟩,ty,pos,af,none⟩::rest) E w:=fun a hf hD=>
 wpListIn_plain rfl fun K hK=>fP rfl (by
  subst ha
  rw [p7 he hfo hxs hf rfl]
  exact qT hc (fun v w' hv=>hK _ _ (h v w' hv _ (hf.put hn) hD)) (fun c w' hv=>hp c w' hv a hf hD))
theorem OP {f:FuncId} {fo:Operand} {first vs cap args:List Value} {xs:List Operand} {tys:Array TypeId} {ty:TypeId} {pos:String} {af:Array Edge} {S:Value→World→Prop} {Sp:List PanicEntry→World→Prop}
  (he:cV P f) (hfo:Opd E true fo (.func (.func f) first.toArray cap.toArray)) (hxs:jS E true xs vs) (ha:args=first++vs++cap)
  (hc:gO P f args w S Sp)
  (h: ∀ v w',S v w'→WL P ρ ops Q n D rest E w') (hp: ∀ c w',Sp c w'→At Q (.panic c) n D E w'):WL P ρ ops Q n D (⟨none,.call ⟨.value fo,xs.toArray,tys⟩,ty,pos,af,none⟩::rest) E w:=fun a hf hD=>
 wpListIn_plain rfl fun K hK=>fP rfl (by
  subst ha
  rw [p7 he hfo hxs hf rfl]
  exact qT hc (fun v w' hv=>hK _ _ (h v w' hv _ hf hD)) (fun c w' hv=>hp c w' hv a hf hD))
theorem WL_callG {f:FuncId} {fo:Operand} {first vs cap args:List Value} {xs:List Operand} {tys:Array TypeId} {d:Tmp} {ty:TypeId} {pos:String} {af:Array Edge} {S:Value→World→Prop}
  {j:Nat} {pol:Bool} {rj:Tmp} {gj bj:Bool} {g:Bool} (hj:(ops[j]?).bind (·.dst)=some rj)
  (hl:look E rj=some (gj,.bool bj)) (hnj:Nat.blt rj n=true) (hG:(gj&&(bj==pol))=g)
  (he:cV P f) (hfo:Opd E g fo (.func (.func f) first.toArray cap.toArray)) (hxs:jS E g xs vs) (ha:args=first++vs++cap)
  (hn:Nat.blt d n=true) (hc:g=true→fg P f args w S)
  (h: ∀ v w',(g=true→S v w')→(g=false→w'=w)→WL P ρ ops Q n D rest ((d,g,v)::E) w'):
  WL P ρ ops Q n D (⟨some d,.call ⟨.value fo,xs.toArray,tys⟩,ty,pos,af,some (j,pol)⟩::rest) E w:=fun a hf hD=>
 wpListIn_step fun K hK=>by
  rw [qp rfl hj hl hf hnj,hG]
  cases g
  ·simp only [Bool.false_eq_true,if_false]
   have:=hf.put (g:=false) (v:=undef) hn
   exact ⟨fun _ _=>trivial,hK _ _ (h undef w (fun h=>by cases h) (fun _=>rfl) _ this hD)⟩
  ·simp only [if_true]
   refine fP rfl ?_
   subst ha
   rw [p7 he hfo hxs hf rfl]
   exact qT (hc rfl) (fun v w' hv=>hK _ _ (h v w' (fun _=>hv) (fun h=>by cases h) _ (hf.put hn) hD)) (fun c w' hv=>hv.elim)
theorem Fits.head {E:Env} {d:Tmp} {g:Bool} {u v:Value} {a:Act} (h:Fits n ((d,g,u)::E) a) (e:g=true→u=v):Fits n ((d,g,v)::E) a:=by
 refine ⟨h.size,fun t g' x ht=> ?_⟩
 have h2:=h.at_ t
 simp only [look] at ht h2
 cases hb:Nat.beq d t with
 | true=>
  rw [hb,cond_true] at ht h2
  cases ht
  rw [h2 g u rfl]
  cases g
  ·rfl
  ·rw [e rfl]
 | false=>
  rw [hb,cond_false] at ht h2
  exact h2 g' x ht
def j4 (P:Program) (E:Env) (o:Oper) (w:World) (v:Value) (w':World):Prop:=
 ∀ n a,Fits n E a→(execOp a.eval o).run P w= .ok (.value v) w'
theorem vT {o:Oper} {v:Value} {w':World} {d:Tmp} (hr:j4 P E o w v w') (hp:eO o=true) (hg:o.guard=none) (hd:o.dst=some d) (hn:Nat.blt d n=true)
  (h:WL P ρ ops Q n D rest ((d,true,v)::E) w'):WL P ρ ops Q n D (o::rest) E w:=fun a hf hD=>
 wpListIn_plain hg fun K hK=>fP hp (by
  rw [hr n a hf,Oper.uponIn_value,hd]
  exact hK _ _ (h _ (hf.put hn) hD))
def yQ (P:Program) (E:Env) (o:Oper) (w:World) (w':World):Prop:=
 ∀ n a,Fits n E a→(execOp a.eval o).run P w= .ok .skip w'
theorem Vr {o:Oper} {w':World} (hr:yQ P E o w w') (hp:eO o=true) (hg:o.guard=none) (hd:o.dst=none)
  (h:WL P ρ ops Q n D rest E w'):WL P ρ ops Q n D (o::rest) E w:=fun a hf hD=>
 wpListIn_plain hg fun K hK=>fP hp (by
  rw [hr n a hf,Oper.uponIn_skip,hd]
  exact hK _ _ (h _ hf hD))
end
end Go.Proofs.YtgcgmclghbebjaaGreat
namespace Go.Proofs.YtgcgmclghbebjaaGreat
/-! ### readings -/
def Mv (M:Nat→Prop) (w:World) (M':Nat→Prop) (w':World):Prop:=
 w.heap.size≤w'.heap.size∧ ∀ b,b<w.heap.size→ ¬ M b→ ¬ M' b∧w'.heap[b]? =w.heap[b]?
theorem Mv.refl (M:Nat→Prop) (w:World):Mv M w M w:=⟨Nat.le_refl _,fun _ _ h=>⟨h,rfl⟩⟩
theorem Mv.trans {M M' M'':Nat→Prop} {w w' w'':World} (h:Mv M w M' w') (k:Mv M' w' M'' w''):Mv M w M'' w'':=
 ⟨Nat.le_trans h.1 k.1,fun b hb hM=>by
  obtain ⟨h1,h2⟩:=h.2 b hb hM
  obtain ⟨k1,k2⟩:=k.2 b (Nat.lt_of_lt_of_le hb h.1) h1
  exact ⟨k1,k2.trans h2⟩⟩
theorem Ext.mv {w w':World} (h:Ext w w') (M:Nat→Prop):Mv M w M w':=⟨h.size,fun b hb hM=>⟨hM,h.block b hb⟩⟩
theorem Mv.weaken {M M':Nat→Prop} (w:World) (h: ∀ b,M' b→M b):Mv M w M' w:=⟨Nat.le_refl _,fun b _ hM=>⟨fun h'=>hM (h b h'),rfl⟩⟩
structure Rep (α:Type) where
 n:Nat
 rd:(Nat→Prop)→World→List Value→α→Prop
 len: ∀ {M w vs x},rd M w vs x→vs.length=n
 one: ∀ {M w vs x},rd M w vs x→ ∀ v∈vs,v.oneCell'=true
 mv: ∀ {M M' w w' vs x},rd M w vs x→Mv M w M' w'→rd M' w' vs x
def RI (k:IntKind):Rep Int where
 n:=1
 rd _ _ vs x:=vs=[.int k x]
 len h:=by rw [h];rfl
 one h:=by rw [h];simp [Value.oneCell']
 mv h _:=h
def RB:Rep Bool where
 n:=1
 rd _ _ vs x:=vs=[.bool x]
 len h:=by rw [h];rfl
 one h:=by rw [h];simp [Value.oneCell']
 mv h _:=h
def RS:Rep Str where
 n:=1
 rd _ _ vs x:=vs=[S x]
 len h:=by rw [h];rfl
 one h:=by rw [h];simp [S,Value.oneCell']
 mv h _:=h
def RU:Rep Unit where
 n:=0
 rd _ _ vs _:=vs=[]
 len h:=by rw [h];rfl
 one h:=by rw [h];simp
 mv h _:=h
def RP {α β:Type} (A:Rep α) (B:Rep β):Rep (α×β) where
 n:=A.n+B.n
 rd M w vs x:= ∃ a b,vs=a++b∧A.rd M w a x.1∧B.rd M w b x.2
 len h:=by obtain ⟨a,b,rfl,h1,h2⟩:=h;rw [List.length_append,A.len h1,B.len h2]
 one h:=by
  obtain ⟨a,b,rfl,h1,h2⟩:=h
  intro v hv
  rcases List.mem_append.1 hv with hv | hv
  ·exact A.one h1 v hv
  ·exact B.one h2 v hv
 mv h m:=by obtain ⟨a,b,rfl,h1,h2⟩:=h;exact ⟨a,b,rfl,A.mv h1 m,B.mv h2 m⟩
section
variable {α β : Type} (A : Rep α)
def ARd (M:Nat→Prop) (w:World) (cs:List Value) (xs:List α):Prop:=
 cs.length=xs.length*A.n∧ ∀ i (h:i<xs.length),A.rd M w ((cs.drop (i*A.n)).take A.n) xs[i]
variable {A}
theorem ARd.nil {M:Nat→Prop} {w:World}:ARd A M w [] []:=⟨by simp,fun i h=>by simp at h⟩
theorem ARd.cons {M:Nat→Prop} {w:World} {c cs:List Value} {x:α} {xs:List α} (h:A.rd M w c x) (hs:ARd A M w cs xs):ARd A M w (c++cs) (x::xs):=by
 have hc:=A.len h
 refine ⟨by simp [hc,hs.1,Nat.add_mul,Nat.add_comm],fun i hi=> ?_⟩
 cases i with
 | zero=>simpa [hc,List.take_append] using (by simpa [← hc] using h)
 | succ i=>
  have:=hs.2 i (by simpa using hi)
  have e:(c++cs).drop ((i+1)*A.n)=cs.drop (i*A.n):=by
   rw [List.drop_append]
   have:(i+1)*A.n=c.length+i*A.n:=by rw [hc,Nat.add_mul];omega
   rw [this,List.drop_of_length_le (by omega)]
   simp
  rw [e]
  simpa using this
theorem ARd.one {M:Nat→Prop} {w:World} {c:List Value} {x:α} (h:A.rd M w c x):ARd A M w c [x]:=by
 have:=ARd.cons h (ARd.nil (A:=A) (M:=M) (w:=w))
 simpa using this
theorem ARd.mv {M M':Nat→Prop} {w w':World} {cs:List Value} {xs:List α} (h:ARd A M w cs xs) (m:Mv M w M' w'):ARd A M' w' cs xs:=
 ⟨h.1,fun i hi=>A.mv (h.2 i hi) m⟩
theorem ARd.rA {M:Nat→Prop} {w:World} {cs:List Value} {xs:List α} (h:ARd A M w cs xs): ∀ v∈cs,v.oneCell'=true:=by
 intro v hv
 obtain ⟨j,hj,rfl⟩:=List.mem_iff_getElem.1 hv
 have hl:=h.1
 rcases Nat.eq_zero_or_pos A.n with h0 | h0
 ·rw [h0] at hl;omega
 ·have hi:j/A.n<xs.length:=by rw [Nat.div_lt_iff_lt_mul h0];omega
  have hr:=h.2 (j/A.n) hi
  refine A.one hr _ ?_
  have hm:j%A.n<A.n:=Nat.mod_lt _ h0
  have hdm:j/A.n*A.n+j%A.n=j:=by rw [Nat.mul_comm];exact Nat.div_add_mod j A.n
  rw [List.mem_iff_getElem]
  have hlen:=A.len hr
  refine ⟨j%A.n,by rw [hlen];exact hm,?_⟩
  rw [List.getElem_take,List.getElem_drop]
  congr 1
theorem ARd.append {M:Nat→Prop} {w:World} {cs ds:List Value} {xs ys:List α} (h:ARd A M w cs xs) (k:ARd A M w ds ys):ARd A M w (cs++ds) (xs++ys):=by
 refine ⟨by simp [h.1,k.1,Nat.add_mul],fun i hi=> ?_⟩
 by_cases hlt:i<xs.length
 ·have hr:=h.2 i hlt
  have e:((cs++ds).drop (i*A.n)).take A.n=(cs.drop (i*A.n)).take A.n:=by
   have h1:i*A.n+A.n≤cs.length:=by
    rw [h.1,← Nat.succ_mul];exact Nat.mul_le_mul_right _ hlt
   rw [List.drop_append_of_le_length (by omega),List.take_append_of_le_length (by simp;omega)]
  rw [e,List.getElem_append_left hlt];exact hr
 ·have h2:i-xs.length<ys.length:=by simp at hi;omega
  have hr:=k.2 _ h2
  have e:(cs++ds).drop (i*A.n)=ds.drop ((i-xs.length)*A.n):=by
   have:i*A.n=cs.length+(i-xs.length)*A.n:=by
    rw [h.1,← Nat.add_mul];congr 1;omega
   rw [this,List.drop_append];simp
  rw [e,List.getElem_append_right (by omega)];exact hr
theorem ARd.take {M:Nat→Prop} {w:World} {cs:List Value} {xs:List α} (h:ARd A M w cs xs) (k:Nat):ARd A M w (cs.take (k*A.n)) (xs.take k):=by
 have e:(cs.take (k*A.n)).length=(xs.take k).length*A.n:=by
  rw [List.length_take,List.length_take,h.1]
  by_cases hk:k≤xs.length
  ·rw [Nat.min_eq_left hk,Nat.min_eq_left (Nat.mul_le_mul_right _ hk)]
  ·have hk':xs.length≤k:=by omega
   rw [Nat.min_eq_right (Nat.mul_le_mul_right A.n hk'),Nat.min_eq_right hk']
 refine ⟨e,fun i hi=> ?_⟩
 have hi':i<k∧i<xs.length:=by rw [List.length_take] at hi;omega
 have hr:=h.2 i hi'.2
 have h1:i*A.n+A.n≤k*A.n:=by rw [← Nat.succ_mul];exact Nat.mul_le_mul_right _ hi'.1
 rw [List.getElem_take,List.drop_take,List.take_take,Nat.min_eq_left (by omega)]
 exact hr
theorem ARd.drop {M:Nat→Prop} {w:World} {cs:List Value} {xs:List α} (h:ARd A M w cs xs) (k:Nat):ARd A M w (cs.drop (k*A.n)) (xs.drop k):=by
 refine ⟨by rw [List.length_drop,List.length_drop,h.1,← Nat.sub_mul],fun i hi=> ?_⟩
 have hi':k+i<xs.length:=by simp at hi;omega
 have hr:=h.2 (k+i) hi'
 rw [List.getElem_drop,List.drop_drop]
 have:(k+i)*A.n=k*A.n+i*A.n:=Nat.add_mul ..
 rw [this] at hr
 exact hr
theorem ARd.set {M:Nat→Prop} {w:World} {cs c:List Value} {xs:List α} {x:α} {i:Nat} (h:ARd A M w cs xs) (hi:i<xs.length) (hx:A.rd M w c x):
  ARd A M w (cs.take (i*A.n)++c++cs.drop ((i+1)*A.n)) (xs.set i x):=by
 have h1:=h.take i
 have h2:=h.drop (i+1)
 have h3:=(h1.append (ARd.one hx)).append h2
 have e:xs.set i x=xs.take i++[x]++xs.drop (i+1):=by
  rw [List.set_eq_take_append_cons_drop,if_pos hi];simp
 rw [e];exact h3
variable (A)
def SRd (M:Nat→Prop) (w:World) (v:Value) (xs:List α):Prop:=
 ((∃ a,v= .slice a 0 0)∧xs=[])∨ ∃ b off cap cs e fr,v= .slice (some ⟨b,off,none⟩) xs.length cap∧ ¬ M b∧w.heap[b]? =some (.cells cs e fr)∧xs.length≤cap∧
  off+cap*A.n≤cs.size∧ARd A M w ((cs.toList.drop off).take (xs.length*A.n)) xs
variable {A}
theorem SRd.nil {M:Nat→Prop} {w:World}:SRd A M w (.slice none 0 0) []:= .inl ⟨⟨none,rfl⟩,rfl⟩
theorem SRd.emp {M:Nat→Prop} {w:World} {a:Option Addr}:SRd A M w (.slice a 0 0) []:= .inl ⟨⟨a,rfl⟩,rfl⟩
theorem SRd.mv {M M':Nat→Prop} {w w':World} {v:Value} {xs:List α} (h:SRd A M w v xs) (m:Mv M w M' w'):SRd A M' w' v xs:=by
 rcases h with h | ⟨b,off,cap,cs,e,fr,hv,hM,hb,hc,ho,hr⟩
 ·exact .inl h
 ·obtain ⟨h1,h2⟩:=m.2 b (Array.getElem?_eq_some_iff.1 hb).1 hM
  exact .inr ⟨b,off,cap,cs,e,fr,hv,h1,by rw [h2];exact hb,hc,ho,hr.mv m⟩
abbrev SLV:=Option Addr×Nat×Nat
def sl (p:SLV):Value:= .slice p.1 p.2.1 p.2.2
variable (A)
def RSl:Rep (List α) where
 n:=1
 rd M w vs xs:= ∃ p,vs=[sl p]∧SRd A M w (sl p) xs
 len h:=by obtain ⟨v,rfl,_⟩:=h;rfl
 one h:=by
  obtain ⟨v,rfl,h⟩:=h
  simp [Value.oneCell',sl]
 mv h m:=by obtain ⟨v,rfl,h⟩:=h;exact ⟨v,rfl,h.mv m⟩
variable {A}
theorem SRd.jQ {M:Nat→Prop} {w:World} {v:Value} {xs:List α} (h:SRd A M w v xs): ∃ p,v=sl p:=by
 rcases h with ⟨⟨a,rfl⟩,_⟩ | ⟨b,off,cap,cs,e,fr,rfl,_⟩
 ·exact ⟨(a,0,0),rfl⟩
 ·exact ⟨(_,_,_),rfl⟩
theorem SRd.rsl {M:Nat→Prop} {w:World} {v:Value} {xs:List α} (h:SRd A M w v xs):(RSl A).rd M w [v] xs:=by
 obtain ⟨p,rfl⟩:=h.jQ
 exact ⟨p,rfl,h⟩
def Len (v:Value) (n:Nat):Prop:= ∃ a cap,v= .slice a n cap
theorem SRd.len {M:Nat→Prop} {w:World} {v:Value} {xs:List α} (h:SRd A M w v xs):Len v xs.length:=by
 rcases h with ⟨⟨a,rfl⟩,rfl⟩ | ⟨b,off,cap,cs,e,fr,rfl,_⟩
 ·exact ⟨_,_,rfl⟩
 ·exact ⟨_,_,rfl⟩
/-! ### cells at an address -/
def aM (w:World) (p:Addr) (vs:List Value):Prop:=p.spot=none∧ ∃ cs e fr,w.heap[p.block]? =some (.cells cs e fr)∧ ∀ j u,vs[j]? =some u→cs[p.off+j]? =some u
theorem aM.ext {w w':World} {p:Addr} {vs:List Value} (h:aM w p vs) (e:Ext w w'):aM w' p vs:=by
 obtain ⟨hs,cs,t,fr,hb,hc⟩:=h
 exact ⟨hs,cs,t,fr,by rw [e.block _ (Array.getElem?_eq_some_iff.1 hb).1];exact hb,hc⟩
theorem aM.cell {w:World} {p:Addr} {vs:List Value} (h:aM w p vs) {j:Nat} {u:Value} (hu:vs[j]? =some u):w.cell? (p.add j)=some u:=by
 obtain ⟨hs,cs,t,fr,hb,hc⟩:=h
 have:=hc j u hu
 unfold Addr.add
 split
 ·rename_i h0;subst h0;simp only [World.cell?,hb,hs];simpa using this
 ·simp only [World.cell?,hb];simpa using this
theorem aM.sub {w:World} {p:Addr} {vs us:List Value} (h:aM w p vs) (k:Nat) (hu:(vs.drop k).take us.length=us):aM w (p.add k) us:=by
 obtain ⟨hs,cs,t,fr,hb,hc⟩:=h
 have key: ∀ j u,us[j]? =some u→cs[p.off+k+j]? =some u:=fun j u hj=>by
  rw [← hu,List.getElem?_take] at hj
  split at hj
  ·rw [List.getElem?_drop] at hj
   have:=hc _ _ hj
   rwa [← Nat.add_assoc] at this
  ·cases hj
 unfold Addr.add
 split
 ·rename_i h0;subst h0;exact ⟨hs,cs,t,fr,hb,key⟩
 ·exact ⟨rfl,cs,t,fr,hb,key⟩
def mu (v:Value) (i:Int) (n:Nat) (p:Addr):Prop:= ∃ a len cap,v= .slice (some a) len cap∧0≤i∧i<(len:Nat)∧p=a.add (i.toNat*n)
def idx (xs:List α) (i:Int):Option α:=if 0≤i then xs[i.toNat]? else none
theorem rU {xs:List α} {i:Int} {x:α} (h:idx xs i=some x):0≤i∧ ∃ hi:i.toNat<xs.length,xs[i.toNat]=x:=by
 unfold idx at h
 split at h
 ·rename_i h0
  obtain ⟨hi,hx⟩:=List.getElem?_eq_some_iff.1 h
  exact ⟨h0,hi,hx⟩
 ·cases h
theorem SRd.at_ {M:Nat→Prop} {w:World} {v:Value} {xs:List α} {i:Int} {x:α} (h:SRd A M w v xs) (hx:idx xs i=some x):
  ∃ p vs,mu v i A.n p∧aM w p vs∧A.rd M w vs x:=by
 obtain ⟨h0,hi,rfl⟩:=rU hx
 rcases h with ⟨_,rfl⟩ | ⟨b,off,cap,cs,e,fr,rfl,hM,hb,hc,ho,hr⟩
 ·simp at hi
 ·have hA:=hr.2 _ hi
  have hlen:=A.len hA
  refine ⟨(⟨b,off,none⟩:Addr).add (i.toNat*A.n),_,⟨_,_,_,rfl,h0,by omega,rfl⟩,?_,hA⟩
  have key:aM w ⟨b,off,none⟩ ((cs.toList.drop off).take (xs.length*A.n)):=⟨rfl,cs,e,fr,hb,fun j u hj=>by
   rw [List.getElem?_take] at hj
   split at hj
   ·simpa [List.getElem?_drop] using hj
   ·cases hj⟩
  exact key.sub _ (by rw [hlen])
end
structure Chg (C:List Nat) (w w':World):Prop where
 os:w'.os=w.os
 tape:w'.tape=w.tape
 output:w'.output=w.output
 size:w.heap.size≤w'.heap.size
 block: ∀ b,b<w.heap.size→b∉C→w'.heap[b]? =w.heap[b]?
theorem Ext.chg {w w':World} (h:Ext w w') (C:List Nat):Chg C w w':=⟨h.os,h.tape,h.output,h.size,fun b hb _=>h.block b hb⟩
/-! ### one block of known cells -/
def cG (w:World) (b:Nat) (e:TypeId) (vs:List Value):Prop:=w.heap[b]? =some (.cells vs.toArray e (0,0))
theorem cG.bm {w w':World} {b:Nat} {e:TypeId} {vs:List Value} (h:cG w b e vs) (k:w'.heap[b]? =w.heap[b]?):cG w' b e vs:=k.trans h
theorem cG.lt {w:World} {b:Nat} {e:TypeId} {vs:List Value} (h:cG w b e vs):b<w.heap.size:=(Array.getElem?_eq_some_iff.1 h).1
theorem cG.ext {w w':World} {b:Nat} {e:TypeId} {vs:List Value} (h:cG w b e vs) (x:Ext w w'):cG w' b e vs:=(x.block b h.lt).trans h
theorem cG.cells {w:World} {b:Nat} {e:TypeId} {vs:List Value} (h:cG w b e vs):aM w ⟨b,0,none⟩ vs:=
 ⟨rfl,_,_,_,h,fun j u hu=>by simpa using hu⟩
theorem cG.part {w:World} {b:Nat} {e:TypeId} {vs us:List Value} (h:cG w b e vs) (k:Nat) (hu:(vs.drop k).take us.length=us):aM w ⟨b,k,none⟩ us:=by
 have:=h.cells.sub k hu
 unfold Addr.add at this
 split at this
 ·rename_i h0;subst h0;exact this
 ·simpa using this
/-! ### a slice of the call's own -/
def blk (v:Value):List Nat:=v.ownBlock.toList
section
variable {α : Type} {A : Rep α}
variable (A) in
def OSl (e:TypeId) (M:Nat→Prop) (w:World) (v:Value) (xs:List α):Prop:=
 ∃ cells,w.ownsRow 0 e A.n v xs.length cells∧ARd A M w cells xs
theorem OSl.nil {e:TypeId} {M:Nat→Prop} {w:World}:OSl A e M w (.slice none 0 0) []:=⟨[],World.ownsRow_nil w 0 e A.n,ARd.nil⟩
theorem OSl.len {e:TypeId} {M:Nat→Prop} {w:World} {v:Value} {xs:List α} (h:OSl A e M w v xs):Len v xs.length:=by
 obtain ⟨cells,⟨_,h⟩,_⟩:=h
 rcases h with ⟨rfl,h0⟩ | ⟨g,cap,cur,rfl,_⟩
 ·exact ⟨none,0,by rw [h0]⟩
 ·exact ⟨_,_,rfl⟩
theorem OSl.lt {e:TypeId} {M:Nat→Prop} {w:World} {v:Value} {xs:List α} (h:OSl A e M w v xs): ∀ b∈blk v,b<w.heap.size:=fun b hb=>by
 obtain ⟨cells,h,_⟩:=h
 exact (h.lt b (by simpa [blk] using hb)).2
theorem OSl.bm {e:TypeId} {M M':Nat→Prop} {w w':World} {v:Value} {xs:List α} (h:OSl A e M w v xs) (k: ∀ b∈blk v,w'.heap[b]? =w.heap[b]?) (m:Mv M w M' w'):OSl A e M' w' v xs:=by
 obtain ⟨cells,⟨h1,h2⟩,hr⟩:=h
 refine ⟨cells,⟨h1,?_⟩,hr.mv m⟩
 rcases h2 with h2 | ⟨g,cap,cur,rfl,hg,hh,r⟩
 ·exact .inl h2
 ·exact .inr ⟨g,cap,cur,rfl,hg,by rw [k g (by simp [blk,Value.ownBlock])];exact hh,r⟩
theorem OSl.ext {e:TypeId} {M:Nat→Prop} {w w':World} {v:Value} {xs:List α} (h:OSl A e M w v xs) (x:Ext w w'):OSl A e M w' v xs:=
 h.bm (fun b hb=>x.block b (h.lt b hb)) (x.mv M)
theorem OSl.freeze {e:TypeId} {M M':Nat→Prop} {w:World} {v:Value} {xs:List α} (h:OSl A e M w v xs) (hM: ∀ b∈blk v,¬ M' b) (m:Mv M w M' w):SRd A M' w v xs:=by
 obtain ⟨cells,⟨h1,h2⟩,hr⟩:=h
 rcases h2 with ⟨rfl,h0⟩ | ⟨g,cap,cur,rfl,hg,hh,hc,hm,hs,ht⟩
 ·exact .inl ⟨⟨_,rfl⟩,List.eq_nil_of_length_eq_zero h0⟩
 ·refine .inr ⟨g,0,cap,cur,e,(0,0),rfl,hM g (by simp [blk,Value.ownBlock]),hh,hc,by omega,?_⟩
  rw [List.drop_zero,ht]
  exact hr.mv m
theorem OSl.at_ {e:TypeId} {M:Nat→Prop} {w:World} {v:Value} {xs:List α} {i:Int} {x:α} (h:OSl A e M w v xs) (hx:idx xs i=some x):
  ∃ p vs,mu v i A.n p∧aM w p vs∧A.rd M w vs x:=by
 obtain ⟨h0,hi,rfl⟩:=rU hx
 obtain ⟨cells,⟨h1,h2⟩,hr⟩:=h
 rcases h2 with ⟨rfl,h0⟩ | ⟨g,cap,cur,rfl,hg,hh,hc,hm,hs,ht⟩
 ·omega
 ·have hA:=hr.2 _ hi
  have hlen:=A.len hA
  refine ⟨(⟨g,0,none⟩:Addr).add (i.toNat*A.n),_,⟨_,_,_,rfl,h0,by omega,rfl⟩,?_,hA⟩
  have key:aM w ⟨g,0,none⟩ cells:=⟨rfl,cur,e,(0,0),hh,fun j u hj=>by
   rw [← ht,List.getElem?_take] at hj
   split at hj
   ·simpa using hj
   ·cases hj⟩
  exact key.sub _ (by rw [hlen])
end
section
variable {α : Type} {A : Rep α}
variable (A) in
def Own (e:TypeId) (M:Nat→Prop) (w:World) (v:Value) (xs:List α) (R:List Nat):Prop:=
 (R=blk v∧OSl A e M w v xs)∨(R=[]∧xs=[]∧(∃ a,v= .slice a 0 0)∧SRd A M w v [])
variable {e : TypeId} {M M' : Nat → Prop} {w w' : World} {v : Value} {xs : List α} {R : List Nat}
theorem Own.nil:Own A e M w (.slice none 0 0) [] []:= .inl ⟨rfl,OSl.nil⟩
theorem Own.empty {a:Option Addr} (h:SRd A M w (.slice a 0 0) []):Own A e M w (.slice a 0 0) [] []:= .inr ⟨rfl,rfl,⟨a,rfl⟩,h⟩
theorem Own.of (h:OSl A e M w v xs):Own A e M w v xs (blk v):= .inl ⟨rfl,h⟩
theorem Own.len (h:Own A e M w v xs R):Len v xs.length:=by
 rcases h with ⟨_,h⟩ | ⟨_,rfl,⟨a,rfl⟩,_⟩
 ·exact h.len
 ·exact ⟨_,_,rfl⟩
theorem Own.lt (h:Own A e M w v xs R): ∀ b∈R,b<w.heap.size:=by
 rcases h with ⟨rfl,h⟩ | ⟨rfl,_⟩
 ·exact h.lt
 ·intro b hb;cases hb
theorem Own.bm (h:Own A e M w v xs R) (k: ∀ b∈R,w'.heap[b]? =w.heap[b]?) (m:Mv M w M' w'):Own A e M' w' v xs R:=by
 rcases h with ⟨rfl,h⟩ | h
 ·exact .inl ⟨rfl,h.bm k m⟩
 ·exact .inr ⟨h.1,h.2.1,h.2.2.1,h.2.2.2.mv m⟩
theorem Own.ext (h:Own A e M w v xs R) (x:Ext w w'):Own A e M w' v xs R:=h.bm (fun b hb=>x.block b (h.lt b hb)) (x.mv M)
theorem Own.atG {g:Bool} {i:Int} {x:α} (h:g=true→Own A e M w v xs R) (hx:g=true→idx xs i=some x):
  ∃ p vs,(g=true→mu v i A.n p)∧(g=true→aM w p vs)∧(g=true→A.rd M w vs x):=by
 cases g
 ·exact ⟨⟨0,0,none⟩,[],fun h=>(by cases h),fun h=>(by cases h),fun h=>(by cases h)⟩
 ·rcases h rfl with ⟨_,h⟩ | ⟨_,rfl,_⟩
  ·obtain ⟨p,vs,h1,h2,h3⟩:=h.at_ (hx rfl)
   exact ⟨p,vs,fun _=>h1,fun _=>h2,fun _=>h3⟩
  ·obtain ⟨_,hi,_⟩:=rU (hx rfl)
   simp at hi
theorem Own.osl {i:Int} {x:α} (h:Own A e M w v xs R) (hx:idx xs i=some x):OSl A e M w v xs∧R=blk v:=by
 rcases h with ⟨h1,h⟩ | ⟨_,rfl,_⟩
 ·exact ⟨h,h1⟩
 ·obtain ⟨_,hi,_⟩:=rU hx
  simp at hi
theorem Own.freeze (h:Own A e M w v xs R) (hM: ∀ b∈R,¬ M' b) (m:Mv M w M' w):SRd A M' w v xs:=by
 rcases h with ⟨rfl,h⟩ | ⟨_,rfl,_,h⟩
 ·exact h.freeze hM m
 ·exact h.mv m
end
end Go.Proofs.YtgcgmclghbebjaaGreat
namespace Go.Proofs.YtgcgmclghbebjaaGreat
def TI (P:Program) (e:TypeId) (size bytes:Nat) (z:Value):Prop:=(P.info? e).map (fun i=>(i.size,i.bytes,i.zero))=some (size,bytes,some z)
theorem TI.out {P:Program} {e:TypeId} {size bytes:Nat} {z:Value} (h:TI P e size bytes z): ∃ i,P.info? e=some i∧i.size=size∧i.bytes=bytes∧i.zero=some z:=by
 unfold TI at h
 cases hi:P.info? e with
 | none=>simp [hi] at h
 | some i=>
  simp only [hi,Option.map_some,Option.some.injEq,Prod.mk.injEq] at h
  exact ⟨i,rfl,h.1,h.2.1,h.2.2⟩
def gR:TypeDesc→Bool
 | .struct _=>true
 | .array _ _=>true
 | _=>false
theorem tF {P:Program} {t:TypeId} {d:TypeDesc} (h:P.underlying t=some d) (w:World):(isAgg t).run P w= .ok (gR d) w:=by
 unfold isAgg
 rw [Sem.run_bind,run_underlying h w]
 cases d <;> rfl
section
variable {P : Program} {E : Env} {g : Bool} {w : World} {dst : Option Tmp} {ty : TypeId} {pos : String} {af : Array Edge} {gd : Option (Nat × Bool)}
theorem yE {x:Operand} {v:Value} {n:Nat} {t e:TypeId} (ht:P.underlying t=some (.slice e)) (hx:Opd E g x v) (hl:Len v n):
  Run P E g ⟨dst,.call ⟨.builtin .len,#[x],#[t]⟩,ty,pos,af,gd⟩ w (.int .i64 n):=
 fun n' a hf hg=>by
  obtain ⟨ad,cap,rfl⟩:=hl
  simp [execOp,resolve,invoke,builtin,hx n' a hf hg,Builtin.len_,run_underlying ht,goInt]
theorem A4 {x y:Operand} {v z:Value} {i:Int} {k:IntKind} {n bytes:Nat} {p:Addr} {t e:TypeId} (ht:P.underlying t=some (.slice e)) (hti:TI P e n bytes z)
  (hx:Opd E g x v) (hy:Opd E g y (.int k i)) (he:g=true→mu v i n p):
  Run P E g ⟨dst,.indexAddr t x y,ty,pos,af,gd⟩ w (.pointer (some p)):=
 fun n' a hf hg=>by
  obtain ⟨i',hi,hs,_,_⟩:=hti.out
  obtain ⟨ad,len,cap,rfl,h0,h1,rfl⟩:=he hg
  simp [execOp,hx n' a hf hg,hy n' a hf hg,Instr.indexAt,asIntOf,run_underlying ht,h0,h1,sizeOf,typeInfo,hi,hs]
theorem zi {t:TypeId} {d:TypeDesc} {p:Addr} {v:Value} (ht:P.underlying t=some d) (hd:gR d=false) (hc:w.cell? p=some v):
  (loadVar t p).run P w= .ok v w:=by
 simp [loadVar,tF ht,hd,hc]
theorem aM.cell0 {p:Addr} {v:Value} {vs:List Value} (hc:aM w p vs) (h0:vs[0]? =some v):w.cell? p=some v:=by
 have:=hc.cell h0
 simpa [Addr.add] using this
theorem zw {x:Operand} {t:TypeId} {d:TypeDesc} {p:Addr} {v:Value} (ht:P.underlying t=some d) (hd:gR d=false) (hx:Opd E g x (.pointer (some p)))
  (hc:g=true→aM w p [v]):Run P E g ⟨dst,.load t x,ty,pos,af,gd⟩ w v:=
 fun n' a hf hg=>by
  simp [execOp,hx n' a hf hg,Instr.loadAt,Instr.sureAddr,zi ht hd ((hc hg).cell0 rfl)]
theorem y8 {t:TypeId} {d:TypeDesc} {p:Addr} {n bytes:Nat} {z:Value} {vs:List Value} (ht:P.underlying t=some d) (hd:gR d=true) (hti:TI P t n bytes z) (hc:aM w p vs) (hl:vs.length=n):
  (loadVar t p).run P w= .ok (.agg vs.toArray) w:=by
 obtain ⟨i',hi,hs,_,_⟩:=hti.out
 have:=run_loadCells_list (P:=P) w p vs (fun j v hv=>hc.cell hv)
 rw [hl] at this
 simp [loadVar,tF ht,hd,sizeOf,typeInfo,hi,hs,this]
theorem zj {x:Operand} {t:TypeId} {d:TypeDesc} {p:Addr} {n bytes:Nat} {z:Value} {vs:List Value} (ht:P.underlying t=some d) (hd:gR d=true) (hti:TI P t n bytes z) (hx:Opd E g x (.pointer (some p)))
  (hc:g=true→aM w p vs) (hl:vs.length=n):Run P E g ⟨dst,.load t x,ty,pos,af,gd⟩ w (.agg vs.toArray):=
 fun n' a hf hg=>by
  simp [execOp,hx n' a hf hg,Instr.loadAt,Instr.sureAddr,y8 ht hd hti (hc hg) hl]
def Lh (P:Program) (t:TypeId) (k:Nat) (off:Nat):Prop:=
 ∃ fs f i,P.underlying t=some (.struct fs)∧fs[k]? =some f∧f.offset=off∧P.info? f.type=some i∧i.size≠0
theorem x5 {x:Operand} {t:TypeId} {k off:Nat} {p:Addr} (hf':Lh P t k off) (hx:Opd E g x (.pointer (some p))):
  Run P E g ⟨dst,.fieldAddr t x k,ty,pos,af,gd⟩ w (.pointer (some (p.add off))):=
 fun n' a hf hg=>by
  obtain ⟨fs,f,i,ht,hk,ho,hi,hs⟩:=hf'
  have hk': ∃ h:k<fs.size,fs[k]=f:=Array.getElem?_eq_some_iff.1 hk
  obtain ⟨h1,h2⟩:=hk'
  simp [execOp,hx n' a hf hg,Instr.fieldAt,run_underlying ht,Instr.sureAddr,fieldPlace,sizeOf,typeInfo,hi,hs,ho,h1,h2]
theorem IU {x:Operand} {p:Addr} (hx:Opd E g x (.pointer (some p))):Run P E g ⟨dst,.nilCheck x,ty,pos,af,gd⟩ w (.pointer (some p)):=
 fun n' a hf hg=>by simp only [execOp,hx n' a hf hg];rfl
theorem Px {x:Operand} {f:FuncId} {us vs:Array Value} (hx:Opd E g x (.func (.func f) us vs)):Run P E g ⟨dst,.nilCheck x,ty,pos,af,gd⟩ w (.func (.func f) us vs):=
 fun n' a hf hg=>by simp only [execOp,hx n' a hf hg];rfl
theorem Jx {t:TypeId} {d:TypeDesc} {n bytes off:Nat} {z v:Value} {cs:List Value} (ht:P.underlying t=some d) (hti:TI P t n bytes z)
  (hv:(if gR d then some (.agg ((cs.drop off).take n).toArray) else cs[off]?)=some v):(part t cs.toArray off).run P w= .ok v w:=by
 obtain ⟨i',hi,hs,_,_⟩:=hti.out
 unfold part
 rw [Sem.run_bind,tF ht]
 cases hd:gR d
 ·simp only [hd,Bool.false_eq_true,if_false] at hv ⊢
  simp [hv]
 ·have e1:(cs.toArray.extract off (off+n))=((cs.drop off).take n).toArray:=by
   rw [List.extract_toArray];congr 1;simp [List.extract_eq_take_drop]
  simp only [hd,if_true,Option.some.injEq] at hv
  subst hv
  simp [sizeOf,typeInfo,hi,hs]
theorem Pj {x:Operand} {t t':TypeId} {k n bytes off:Nat} {z v:Value} {fs:Array Field} {f:Field} {d:TypeDesc} {cs:List Value}
  (ht:P.underlying t=some (.struct fs)) (hk:fs[k]? =some f) (hft:f.type=t') (hfo:f.offset=off) (ht':P.underlying t'=some d) (hti:TI P t' n bytes z) (hx:Opd E g x (.agg cs.toArray))
  (hv:(if gR d then some (.agg ((cs.drop off).take n).toArray) else cs[off]?)=some v):
  Run P E g ⟨dst,.field t x k,ty,pos,af,gd⟩ w v:=
 fun n' a hf hg=>by
  subst hft;subst hfo
  have hp:=Jx (w:=w) ht' hti hv
  simp only [execOp,hx n' a hf hg,Instr.field,Sem.run_bind,run_underlying ht,Result.andThen_ok,hk,asAgg,Sem.run_pure,hp]
theorem N9 {t:TypeId} {parts:List (Nat×Operand)} {vs:List Value} {v:Value} (hx:jS E g (parts.map (·.2)) vs)
  (hb: ∀ w:World,(Instr.build t ((parts.map (·.1)).zip vs).toArray).run P w= .ok v w):
  Run P E g ⟨dst,.build t parts.toArray,ty,pos,af,gd⟩ w v:=
 fun n' a hf hg=>by
  have e:(parts.map fun p=>(p.1,a.eval p.2))=(parts.map (·.1)).zip vs:=by
   have h:=hx.map hf hg
   rw [List.map_map] at h
   subst h
   clear hx hb
   induction parts with
   | nil=>rfl
   | cons p ps ih=>simp [ih]
  simp only [execOp,List.map_toArray]
  have e2:(parts.map fun x:Nat×Operand=>match x with | (i,x)=>(i,a.eval x))=(parts.map (·.1)).zip vs:=e
  rw [e2]
  simp [hb]
def Hq (v:Value) (i j:Int) (n:Nat) (v':Value):Prop:=
 ∃ ad len cap,v= .slice ad len cap∧0≤i∧i≤j∧j≤(len:Nat)∧len≤cap∧
  v'= .slice (if cap=i.toNat then ad else ad.map (·.add (i.toNat*n))) (j.toNat-i.toNat) (cap-i.toNat)
def Aw (v:Value) (i j k:Int) (n:Nat) (v':Value):Prop:=
 ∃ ad len cap,v= .slice ad len cap∧0≤i∧i≤j∧j≤k∧k≤(len:Nat)∧len≤cap∧
  v'= .slice (if k.toNat=i.toNat then ad else ad.map (·.add (i.toNat*n))) (j.toNat-i.toNat) (k.toNat-i.toNat)
def bd {α:Type} (xs:List α) (i j:Int):List α:=(xs.drop i.toNat).take (j.toNat-i.toNat)
def jj (i j k:Int) (n:Nat):Bool:=decide (0≤i)&&decide (i≤j)&&decide (j≤k)&&decide (k≤n)
theorem Pb {i j k:Int} {n:Nat}:jj i j k n=true↔((0≤i∧i≤j)∧j≤k)∧k≤n:=by simp [jj]
theorem SRd.sub {α:Type} {A:Rep α} {M:Nat→Prop} {b off cap:Nat} {cs:Array Value} {e':TypeId} {fr:Nat×Nat} {xs:List α} {i m:Nat} {j:Nat} (hM: ¬ M b) (hb:w.heap[b]? =some (.cells cs e' fr)) (hcl:xs.length≤cap)
  (ho:off+cap*A.n≤cs.size) (hA:ARd A M w ((cs.toList.drop off).take (xs.length*A.n)) xs) (h1:i≤j) (h2:j≤xs.length) (h3:j≤m) (h4:m≤cap):
  SRd A M w (.slice (if m=i then some ⟨b,off,none⟩ else (some (⟨b,off,none⟩:Addr)).map (·.add (i*A.n))) (j-i) (m-i)) ((xs.drop i).take (j-i)):=by
 have hlen:((xs.drop i).take (j-i)).length=j-i:=by rw [List.length_take,List.length_drop];omega
 by_cases hci:m=i
 ·rw [if_pos hci]
  have hx0:j-i=0:=by omega
  refine .inr ⟨b,off,m-i,cs,e',fr,by rw [hlen],hM,hb,by rw [hlen];omega,?_,?_⟩
  ·have:(m-i)*A.n≤cap*A.n:=Nat.mul_le_mul_right _ (by omega)
   omega
  ·have:((xs.drop i).take (j-i))=[]:=by rw [hx0];rfl
   rw [this]
   simpa using (ARd.nil (A:=A) (M:=M) (w:=w))
 ·rw [if_neg hci]
  have hadd:(⟨b,off,none⟩:Addr).add (i*A.n)=⟨b,off+i*A.n,none⟩:=by
   unfold Addr.add;split <;> simp_all
  refine .inr ⟨b,off+i*A.n,m-i,cs,e',fr,by rw [hlen];simp [hadd],hM,hb,by rw [hlen];omega,?_,?_⟩
  ·have h6:i*A.n+(m-i)*A.n=m*A.n:=by rw [← Nat.add_mul];congr 1;omega
   have h7:m*A.n≤cap*A.n:=Nat.mul_le_mul_right _ h4
   omega
  ·have h7:=(hA.drop i).take (j-i)
   rw [List.drop_take,List.drop_drop,List.take_take] at h7
   rw [hlen]
   have h8:(j-i)*A.n≤xs.length*A.n-i*A.n:=by rw [← Nat.sub_mul];exact Nat.mul_le_mul_right _ (by omega)
   rwa [Nat.min_eq_left h8] at h7
theorem SRd.cut {α:Type} {A:Rep α} {M:Nat→Prop} {v:Value} {xs:List α} {i j:Int} (h:SRd A M w v xs) (hc:fX i j xs.length=true):
  ∃ v',Hq v i j A.n v'∧SRd A M w v' (bd xs i j):=by
 obtain ⟨⟨h0,h1⟩,h2⟩:=rK.1 hc
 rcases h with ⟨⟨ad,rfl⟩,rfl⟩ | ⟨b,off,cap,cs,e',fr,rfl,hM,hb,hcl,ho,hA⟩
 ·have hj:j=0:=by simp at h2;omega
  have hi0:i=0:=by omega
  subst hj;subst hi0
  exact ⟨_,⟨ad,0,0,rfl,by omega,by omega,by simp,Nat.le_refl _,rfl⟩,.inl ⟨⟨_,rfl⟩,by simp [bd]⟩⟩
 ·exact ⟨_,⟨some ⟨b,off,none⟩,xs.length,cap,rfl,h0,h1,h2,hcl,rfl⟩,SRd.sub hM hb hcl ho hA (by omega) (by omega) (by omega) (Nat.le_refl _)⟩
theorem SRd.Wh {α:Type} {A:Rep α} {M:Nat→Prop} {v:Value} {xs:List α} {i j k:Int} (h:SRd A M w v xs) (hc:jj i j k xs.length=true):
  ∃ v',Aw v i j k A.n v'∧SRd A M w v' (bd xs i j):=by
 obtain ⟨⟨⟨h0,h1⟩,h2⟩,h3⟩:=Pb.1 hc
 rcases h with ⟨⟨ad,rfl⟩,rfl⟩ | ⟨b,off,cap,cs,e',fr,rfl,hM,hb,hcl,ho,hA⟩
 ·have hk:k=0:=by simp at h3;omega
  have hj:j=0:=by omega
  have hi0:i=0:=by omega
  subst hk;subst hj;subst hi0
  exact ⟨_,⟨ad,0,0,rfl,by omega,by omega,by omega,by simp,Nat.le_refl _,rfl⟩,.inl ⟨⟨_,rfl⟩,by simp [bd]⟩⟩
 ·exact ⟨_,⟨some ⟨b,off,none⟩,xs.length,cap,rfl,h0,h1,h2,h3,hcl,rfl⟩,SRd.sub hM hb hcl ho hA (by omega) (by omega) (by omega) (by omega)⟩
theorem tz {x:Operand} {v v' z:Value} {i j:Int} {lo hi:Option Operand} {t e:TypeId} {n bytes len:Nat}
  (ht:P.underlying t=some (.slice e)) (hti:TI P e n bytes z) (hx:Opd E g x v) (hl:g=true→Len v len)
  (hlo:match lo with | none=>i=0 | some y=> ∃ k,Opd E g y (.int k i)) (hhi:match hi with | none=>j=len | some y=> ∃ k,Opd E g y (.int k j))
  (hc:g=true→Hq v i j n v'):Run P E g ⟨dst,.slice t x lo hi none,ty,pos,af,gd⟩ w v':=by
 cases hg:g
 ·intro n' a hf h;cases h
 ·subst hg
  obtain ⟨i',hi',hs,_,_⟩:=hti.out
  obtain ⟨ad,len',cap,rfl,h0,h1,h2,h3,rfl⟩:=hc rfl
  obtain ⟨_,_,hl⟩:=hl rfl
  cases hl
  intro n' a hf hg
  have h4:i≤((j.toNat:Nat):Int):=by omega
  have h5:j≤(cap:Nat):=by omega
  have h6:0≤j:=by omega
  have e1:((j.toNat:Nat):Int)=j:=by omega
  cases lo with
  | none=>
   subst hlo
   cases hi with
   | none=>
    subst hhi
    simp [execOp,hx n' a hf rfl,Instr.sliceAt,Instr.slice,Instr.sliceBounds,run_underlying ht,sizeOf,typeInfo,hi']
   | some y=>
    obtain ⟨k,hy⟩:=hhi
    simp [execOp,hx n' a hf rfl,hy n' a hf rfl,Instr.sliceAt,Instr.slice,Instr.sliceBounds,Instr.sliceBound,asIntOf,run_underlying ht,sizeOf,typeInfo,hi',h6,h5]
  | some y0=>
   obtain ⟨k0,hy0⟩:=hlo
   cases hi with
   | none=>
    subst hhi
    simp [execOp,hx n' a hf rfl,hy0 n' a hf rfl,Instr.sliceAt,Instr.slice,Instr.sliceBounds,Instr.sliceBound,asIntOf,run_underlying ht,sizeOf,typeInfo,hi',hs,h0,h1]
   | some y=>
    obtain ⟨k,hy⟩:=hhi
    simp [execOp,hx n' a hf rfl,hy0 n' a hf rfl,hy n' a hf rfl,Instr.sliceAt,Instr.slice,Instr.sliceBounds,Instr.sliceBound,asIntOf,run_underlying ht,sizeOf,typeInfo,hi',hs,h0,h6,h5,h1,e1]
theorem Dl {x y3:Operand} {v v' z:Value} {i j k:Int} {k3:IntKind} {lo hi:Option Operand} {t e:TypeId} {n bytes len:Nat}
  (ht:P.underlying t=some (.slice e)) (hti:TI P e n bytes z) (hx:Opd E g x v) (hl:g=true→Len v len)
  (hlo:match lo with | none=>i=0 | some y=> ∃ k,Opd E g y (.int k i)) (hhi:match hi with | none=>False | some y=> ∃ k,Opd E g y (.int k j)) (h3:Opd E g y3 (.int k3 k))
  (hc:g=true→Aw v i j k n v'):Run P E g ⟨dst,.slice t x lo hi (some y3),ty,pos,af,gd⟩ w v':=by
 cases hg:g
 ·intro n' a hf h;cases h
 ·subst hg
  obtain ⟨i',hi',hs,_,_⟩:=hti.out
  obtain ⟨ad,len',cap,rfl,h0,h1,h2,h2',h2'',rfl⟩:=hc rfl
  obtain ⟨_,_,hl⟩:=hl rfl
  cases hl
  intro n' a hf hg
  have h4:i≤((j.toNat:Nat):Int):=by omega
  have h5:k≤(cap:Nat):=by omega
  have h6:0≤j:=by omega
  have h7:0≤k:=by omega
  have h8:j≤((k.toNat:Nat):Int):=by omega
  have e1:((j.toNat:Nat):Int)=j:=by omega
  have e2:((k.toNat:Nat):Int)=k:=by omega
  cases hi with
  | none=>exact hhi.elim
  | some y=>
   obtain ⟨k',hy⟩:=hhi
   cases lo with
   | none=>
    subst hlo
    simp [execOp,hx n' a hf rfl,hy n' a hf rfl,h3 n' a hf rfl,Instr.sliceAt,Instr.slice,Instr.sliceBounds,Instr.sliceBound,asIntOf,run_underlying ht,sizeOf,typeInfo,hi',h6,h7,h5,h2,e2]
   | some y0=>
    obtain ⟨k0,hy0⟩:=hlo
    simp [execOp,hx n' a hf rfl,hy0 n' a hf rfl,hy n' a hf rfl,h3 n' a hf rfl,Instr.sliceAt,Instr.slice,Instr.sliceBounds,Instr.sliceBound,asIntOf,run_underlying ht,sizeOf,typeInfo,hi',hs,h0,h1,h6,h7,h5,h2,e1,e2]
theorem SRd.atG {α:Type} {A:Rep α} {M:Nat→Prop} {v:Value} {xs:List α} {i:Int} {x:α} (h:g=true→SRd A M w v xs) (hx:g=true→idx xs i=some x):
  ∃ p vs,(g=true→mu v i A.n p)∧(g=true→aM w p vs)∧(g=true→A.rd M w vs x):=by
 cases hg:g
 ·exact ⟨default,[],(fun h=>by cases h),(fun h=>by cases h),(fun h=>by cases h)⟩
 ·obtain ⟨p,vs,h1,h2,h3⟩:=SRd.at_ (h hg) (hx hg)
  exact ⟨p,vs,fun _=>h1,fun _=>h2,fun _=>h3⟩
theorem OSl.atG {α:Type} {A:Rep α} {e:TypeId} {M:Nat→Prop} {v:Value} {xs:List α} {i:Int} {x:α} (h:g=true→OSl A e M w v xs) (hx:g=true→idx xs i=some x):
  ∃ p vs,(g=true→mu v i A.n p)∧(g=true→aM w p vs)∧(g=true→A.rd M w vs x):=by
 cases hg:g
 ·exact ⟨default,[],(fun h=>by cases h),(fun h=>by cases h),(fun h=>by cases h)⟩
 ·obtain ⟨p,vs,h1,h2,h3⟩:=OSl.at_ (h hg) (hx hg)
  exact ⟨p,vs,fun _=>h1,fun _=>h2,fun _=>h3⟩
theorem mu.addr {v:Value} {i:Int} {n:Nat} {p:Addr} (h:mu v i n p): ∃ a len cap,v= .slice (some a) len cap∧p=a.add (i.toNat*n):=by
 obtain ⟨a,len,cap,hv,_,_,hp⟩:=h
 exact ⟨a,len,cap,hv,hp⟩
end
section
variable {P : Program} {E : Env} {w : World}
theorem P9 (ts:Array TypeId) (t:TypeId) (k:IntKind) (x y:Int) (w:World):(Builtin.max_ ts t #[.int k x,.int k y]).run P w= .ok (.int k (max x y)) w:=by
 rw [run_max_int2];congr 2;split <;> omega
theorem P4 (ts:Array TypeId) (t:TypeId) (k:IntKind) (x y:Int) (w:World):(Builtin.min_ ts t #[.int k x,.int k y]).run P w= .ok (.int k (min x y)) w:=by
 rw [run_min_int2];congr 2;split <;> omega
theorem kB {g:Bool} {dst:Option Tmp} {ty:TypeId} {pos:String} {af:Array Edge} {gd:Option (Nat×Bool)} {x:Operand} {v:Value} {m:Nat} {t e:TypeId} (ht:P.underlying t=some (.slice e)) (hx:Opd E g x v) (hl:g=true→Len v m):
  Run P E g ⟨dst,.call ⟨.builtin .len,#[x],#[t]⟩,ty,pos,af,gd⟩ w (.int .i64 m):=fun n' a hf hg=>yE ht hx (hl hg) n' a hf hg
/-! structs against one another -/
theorem Gy (P:Program) (w:World) (d:Nat) (t:TypeId) (a b:Str) (h:P.underlying t=some .string):(Op.equalIn (d+1) t (S a) (S b)).run P w= .ok (a==b) w:=by
 unfold S;rw [run_equalIn_string w d t _ _ h,wO,wO]
theorem Nj {t:TypeId} {d:TypeDesc} {cs:List Value} {off:Nat} {v:Value} (ht:P.underlying t=some d) (hd:gR d=false) (hv:cs[off]? =some v):(part t cs.toArray off).run P w= .ok v w:=by
 unfold part
 rw [Sem.run_bind,tF ht]
 simp [hd,hv]
theorem RZ {d:Nat} {xs ys:Array Value} {f:Field} {fs:List Field} {a b:Value} {r s:Bool} (hn:(f.name != "_")=true) (h1:(part f.type xs f.offset).run P w= .ok a w) (h2:(part f.type ys f.offset).run P w= .ok b w)
  (h3:(Op.equalIn d f.type a b).run P w= .ok r w) (h4:(Op.eqFields d xs ys fs).run P w= .ok s w):(Op.eqFields d xs ys (f::fs)).run P w= .ok (r&&s) w:=by
 have hn':f.name≠ "_" :=by simpa using hn
 simp only [Op.eqFields,if_pos hn',Sem.run_bind,h1,h2,h3,Result.andThen_ok]
 cases r
 ·rfl
 ·simpa using h4
theorem S3 {d:Nat} {xs ys:Array Value}:(Op.eqFields d xs ys []).run P w= .ok true w:=rfl
end
def elA (v:Value) (i:Int) (n:Nat):Addr:=match v with
 | .slice (some a) _ _=>a.add (i.toNat*n)
 | _=>⟨0,0,none⟩
theorem mu.elA {v:Value} {i:Int} {n:Nat} {p:Addr} (h:mu v i n p):p=elA v i n:=by
 obtain ⟨a,len,cap,rfl,_,_,rfl⟩:=h
 rfl
theorem SRd.atA {α:Type} {A:Rep α} {M:Nat→Prop} {w:World} {v:Value} {xs:List α} {i:Int} {x:α} (h:SRd A M w v xs) (hx:idx xs i=some x):
  mu v i A.n (elA v i A.n)∧ ∃ vs,aM w (elA v i A.n) vs∧A.rd M w vs x∧ ¬ M (elA v i A.n).block:=by
 have hnM: ∀ p,mu v i A.n p→ ¬ M p.block:=by
  intro p hp
  rcases h with ⟨⟨a0,rfl⟩,rfl⟩ | ⟨b,off,cap,cs,e,fr,rfl,hM,_⟩
  ·obtain ⟨a,l,c,hv,h0,h1,_⟩:=hp
   simp only [Value.slice.injEq] at hv
   omega
  ·obtain ⟨a,l,c,hv,_,_,rfl⟩:=hp
   cases hv
   unfold Addr.add;split <;> exact hM
 obtain ⟨p,vs,h1,h2,h3⟩:=h.at_ hx
 have:=h1.elA;subst this
 exact ⟨h1,vs,h2,h3,hnM _ h1⟩
theorem Own.atA {α:Type} {A:Rep α} {e:TypeId} {M:Nat→Prop} {w:World} {v:Value} {xs:List α} {R:List Nat} {i:Int} {x:α} (h:Own A e M w v xs R) (hx:idx xs i=some x):
  mu v i A.n (elA v i A.n)∧ ∃ vs,aM w (elA v i A.n) vs∧A.rd M w vs x:=by
 obtain ⟨p,vs,h1,h2,h3⟩:=Own.atG (g:=true) (fun _=>h) (fun _=>hx)
 have:=(h1 rfl).elA;subst this
 exact ⟨h1 rfl,vs,h2 rfl,h3 rfl⟩
/-! ### operations that change the world -/
section
variable {P : Program} {E : Env} {w : World} {dst : Option Tmp} {ty : TypeId} {pos : String} {af : Array Edge}
theorem cQ (w:World) (o:Obj):Ext w (w.alloc o):=⟨rfl,rfl,rfl,by simp,fun b hb=>heap_alloc_old w o hb⟩
theorem Dz {t:TypeId} {size bytes:Nat} {z:Value} {zs:List Value} (hti:TI P t size bytes z) (hz:z.cells=zs.toArray):
  j4 P E ⟨dst,.alloc t,ty,pos,af,none⟩ w (.pointer (some ⟨w.heap.size,0,none⟩)) (w.alloc (.cells zs.toArray t)):=fun n' a hf=>by
 obtain ⟨i',hi,_,_,hzz⟩:=hti.out
 simp [execOp,Instr.alloc,zeroValue,typeInfo,hi,hzz,newVar,newRow,hz]
theorem Rx {t:TypeId} {x:Operand} {v:Value} {zs:List Value} (hx:Opd E true x v) (hz:v.cells=zs.toArray):
  j4 P E ⟨dst,.box t x,ty,pos,af,none⟩ w (.pointer (some ⟨w.heap.size,0,none⟩)) (w.alloc (.cells zs.toArray t)):=fun n' a hf=>by
 simp [execOp,Instr.box,newVar,newRow,hx n' a hf rfl,hz]
def px (size len:Nat) (z:List Value) (parts:List (Nat×Value)):Option (Array Value):=
 Instr.fill (fun i=>some (i*size,size)) ((Array.range (len*size)).map (z.toArray[· %z.length]!)) parts
theorem OB {parts:List (Nat×Operand)} {vs:List Value} (hx:jS E true (parts.map (·.2)) vs) {n:Nat} {a:Act} (hf:Fits n E a):
  (parts.map fun x:Nat×Operand=>match x with | (i,x)=>(i,a.eval x))=(parts.map (·.1)).zip vs:=by
 have h:=hx.map hf rfl
 rw [List.map_map] at h
 subst h
 clear hx
 induction parts with
 | nil=>rfl
 | cons p ps ih=>simp [ih]
theorem oA {t e:TypeId} {len size bytes:Nat} {z:Value} {zs cells:List Value} {parts:List (Nat×Operand)} {vs:List Value}
  (ht:P.underlying t=some (.slice e)) (hti:TI P e size bytes z) (hz:z.cells=zs.toArray) (hpos:Nat.blt 0 (len*size)=true) (hbig:Nat.ble (len*size) 16777216=true)
  (hx:jS E true (parts.map (·.2)) vs) (hc:px size len zs ((parts.map (·.1)).zip vs)=some cells.toArray):
  j4 P E ⟨dst,.buildSlice t len parts.toArray,ty,pos,af,none⟩ w (.slice (some ⟨w.heap.size,0,none⟩) len len) (w.alloc (.cells cells.toArray e)):=fun n' a hf=>by
 obtain ⟨i',hi,hs,_,hzz⟩:=hti.out
 have e2:=OB hx hf
 have h0: ¬ len*size=0:=by
  have:0<len*size:=by simpa using hpos
  omega
 have h1': ¬ (len*size>2^24):=by have:=Nat.le_of_ble_eq_true hbig;omega
 have hc':Instr.fill (fun i=>some (i*size,size)) ((Array.range (len*size)).map (z.cells[· %z.cells.size]!)) ((parts.map (·.1)).zip vs)=some cells.toArray:=by
  rw [hz];simpa [px] using hc
 simp only [execOp,List.map_toArray,e2,Instr.buildSlice,Sem.run_bind,run_underlying ht,Result.andThen_ok,sizeOf,typeInfo,run_program,hi,Sem.run_pure,hs,if_neg h1',if_neg h0,zeroValue,hzz,hc',newRow,run_newObj]
 rfl
theorem m7 {t e:TypeId} {size bytes:Nat} {z:Value} (ht:P.underlying t=some (.slice e)) (hti:TI P e size bytes z):
  j4 P E ⟨dst,.buildSlice t 0 #[],ty,pos,af,none⟩ w (.slice (some ⟨w.heap.size,0,none⟩) 0 0) (w.alloc (.cells ([]:List Value).toArray e)):=fun n' a hf=>by
 obtain ⟨i',hi,hs,_,hzz⟩:=hti.out
 have e0:(Array.range 0).map (fun _=>(default:Value))= #[]:=Array.eq_empty_of_size_eq_zero (by simp)
 simp [execOp,Instr.buildSlice,run_underlying ht,sizeOf,typeInfo,hi,Instr.fill,newRow,e0]
theorem SRd.fresh {α:Type} {A:Rep α} {M:Nat→Prop} {b len:Nat} {cells:List Value} {e:TypeId} {xs:List α} (hb:cG w b e cells) (hM: ¬ M b)
  (hl:xs.length=len) (hA:ARd A M w cells xs):SRd A M w (.slice (some ⟨b,0,none⟩) len len) xs:=
 .inr ⟨b,0,len,cells.toArray,e,(0,0),by rw [hl],hM,hb,by omega,by simp [hA.1,hl],by
  rw [List.drop_zero,← hA.1];simpa using hA⟩
theorem OSl.fresh {α:Type} {A:Rep α} {M:Nat→Prop} {b len:Nat} {cells:List Value} {e:TypeId} {xs:List α} (hb:cG w b e cells)
  (hl:xs.length=len) (hm:Nat.ble len 9223372036854775807=true) (hA:ARd A M w cells xs):OSl A e M w (.slice (some ⟨b,0,none⟩) len len) xs:=
 ⟨cells,⟨hA.1,.inr ⟨b,len,cells.toArray,by rw [hl],Nat.zero_le _,hb,by omega,by simpa [maxLen] using Nat.le_of_ble_eq_true hm,by simp [hA.1,hl],by simp [← hA.1]⟩⟩,hA⟩
/-! stores -/
def j2 (vs:List Value) (k:Nat) (us:List Value):List Value:=vs.take k++us++vs.drop (k+us.length)
theorem M4 {t e:TypeId} {x y:Operand} {b k:Nat} {vs us vs':List Value} {v:Value} {size bytes:Nat} {z:Value} (hti:TI P t size bytes z)
  (hx:Opd E true x (.pointer (some ⟨b,k,none⟩))) (hy:Opd E true y v) (hv:v.cells=us.toArray) (hl:us.length=size)
  (h1:us.all Value.oneCell'=true) (hb:cG w b e vs) (hk:Nat.ble (k+us.length) vs.length=true) (hvs:j2 vs k us=vs'):
  yQ P E ⟨dst,.store t x y,ty,pos,af,none⟩ w (w.setRow b vs'.toArray)∧Chg [b] w (w.setRow b vs'.toArray)∧cG (w.setRow b vs'.toArray) b e vs':=by
 obtain ⟨i',hi,hs,_,_⟩:=hti.out
 have hk':=Nat.le_of_ble_eq_true hk
 have hst:=run_storeCells_at P b k e us 0 vs.toArray w hb (by simpa using hk') (by simpa using h1)
 refine ⟨fun n a hf=> ?_,⟨rfl,rfl,rfl,by simp,fun c _ hcb=>setRow_other w b c _ (by simpa using hcb)⟩,setRow_heap w b _ _ e (0,0) hb⟩
 have e1:(vs.take k++us++vs.drop (k+us.length))=vs':=hvs
 simp only [Nat.add_zero] at hst
 simp [execOp,Instr.storeAt,Instr.sureAddr,hx n a hf rfl,hy n a hf rfl,storeVar,sizeOf,typeInfo,hi,hs,hv,hl,hst]
 rw [← e1];simp [hl]
theorem qG {α:Type} {A:Rep α} {M:Nat→Prop} {t e:TypeId} {x y:Operand} {p:Addr} {i:Int} {k:Nat} {sv v:Value} {xs:List α} {u:α} {vs us vs':List Value} {size bytes:Nat} {z:Value} (hti:TI P t size bytes z)
  (hx:Opd E true x (.pointer (some (p.add k)))) (hy:Opd E true y v) (hv:v.cells=us.toArray) (hsz:us.length=size) (h1c:us.all Value.oneCell'=true) (hel:mu sv i A.n p) (ho:OSl A e M w sv xs) (hC:aM w p vs) (hvl:vs.length=A.n)
  (hkl:Nat.ble (k+us.length) vs.length=true) (hvs:j2 vs k us=vs') (hu:A.rd M w vs' u) (hM: ∀ b∈blk sv,M b):
  ∃ w',yQ P E ⟨dst,.store t x y,ty,pos,af,none⟩ w w'∧Chg (blk sv) w w'∧w'.heap.size=w.heap.size∧ ∀ M',Mv M w M' w'→OSl A e M' w' sv (xs.set i.toNat u):=by
 obtain ⟨i',hi,hs,_,_⟩:=hti.out
 obtain ⟨ad,len,cap,rfl,h0,h1,rfl⟩:=hel
 obtain ⟨cells,⟨hcl,hown⟩,hA⟩:=ho
 rcases hown with ⟨hbad,_⟩ | ⟨g,cap',cur,hval,_,hg,hc,hm,hcs,ht⟩
 ·cases hbad
 ·cases hval
  have hkl:=Nat.le_of_ble_eq_true hkl
  have hlu:=A.len hu
  have hi1:i.toNat<xs.length:=by omega
  have hadd:((⟨g,0,none⟩:Addr).add (i.toNat*A.n))=⟨g,i.toNat*A.n,none⟩:=by
   unfold Addr.add;split <;> simp_all
  rw [hadd] at hx hC
  have hadd2:((⟨g,i.toNat*A.n,none⟩:Addr).add k)=⟨g,i.toNat*A.n+k,none⟩:=by
   unfold Addr.add;split <;> simp_all
  rw [hadd2] at hx
  have hfit0:i.toNat*A.n+A.n≤cur.size:=by
   rw [hcs,← Nat.succ_mul];exact Nat.mul_le_mul_right _ (by omega)
  have hfit:i.toNat*A.n+k+us.length≤cur.size:=by omega
  have hst:=run_storeCells_at P g (i.toNat*A.n+k) e us 0 cur w hg (by simpa using hfit) (by simpa using h1c)
  simp only [Nat.add_zero] at hst
  -- the element's cells
  have hseg:vs=(cur.toList.drop (i.toNat*A.n)).take A.n:=by
   obtain ⟨_,cs,t',fr,hb,hcell⟩:=hC
   rw [hg] at hb
   cases hb
   apply List.ext_getElem
   ·simp only [List.length_take,List.length_drop,Array.length_toList];omega
   ·intro j h2 h3
    have:=hcell j _ (List.getElem?_eq_getElem h2)
    have hj:j<A.n:=by omega
    rw [List.getElem_take,List.getElem_drop,Array.getElem_toList]
    rw [Array.getElem?_eq_getElem (by show i.toNat*A.n+j<cur.size;omega)] at this
    exact (Option.some.inj this).symm
  have erow:cur.toList.take (i.toNat*A.n+k)++us++cur.toList.drop (i.toNat*A.n+k+us.length)=cur.toList.take (i.toNat*A.n)++vs'++cur.toList.drop ((i.toNat+1)*A.n):=by
   have e1:cur.toList.take (i.toNat*A.n+k)=cur.toList.take (i.toNat*A.n)++vs.take k:=by
    rw [hseg,List.take_take,List.take_add,Nat.min_eq_left (by omega)]
   have e2:cur.toList.drop (i.toNat*A.n+k+us.length)=vs.drop (k+us.length)++cur.toList.drop ((i.toNat+1)*A.n):=by
    have e3:(i.toNat+1)*A.n=i.toNat*A.n+A.n:=Nat.succ_mul ..
    rw [hseg,List.drop_take,List.drop_drop,e3,← Nat.add_assoc]
    have e4:cur.toList.drop (i.toNat*A.n+A.n)=(cur.toList.drop (i.toNat*A.n+k+us.length)).drop (A.n-(k+us.length)):=by
     rw [List.drop_drop];congr 1;omega
    rw [e4,List.take_append_drop]
   rw [e1,e2,← hvs]
   simp [j2]
  have hrun:yQ P E ⟨dst,.store t x y,ty,pos,af,none⟩ w (w.setRow g (cur.toList.take (i.toNat*A.n+k)++us++cur.toList.drop (i.toNat*A.n+k+us.length)).toArray):=fun n a hf=>by
   have hnn: ¬ (us.toArray.size≠i'.size):=by simp [hsz,hs]
   simp only [execOp,Instr.storeAt,Instr.sureAddr,hx n a hf rfl,hy n a hf rfl,storeVar,sizeOf,typeInfo,hi,hv,Sem.run_bind,Sem.run_pure,Result.andThen_ok,run_program,if_neg hnn,hst]
  rw [erow] at hrun
  have hchg:Chg [g] w (w.setRow g (cur.toList.take (i.toNat*A.n)++vs'++cur.toList.drop ((i.toNat+1)*A.n)).toArray):=
   ⟨rfl,rfl,rfl,by simp,fun c _ hcb=>setRow_other w g c _ (by simpa using hcb)⟩
  refine ⟨_,hrun,hchg,by simp,fun M' hmv=> ?_⟩
  refine ⟨cells.take (i.toNat*A.n)++vs'++cells.drop ((i.toNat+1)*A.n),⟨?_,.inr ⟨g,cap,_,by simp,Nat.zero_le _,setRow_heap w g cur _ e (0,0) hg,by simpa using hc,hm,?_,?_⟩⟩,((hA.set hi1 hu).mv hmv)⟩
  ·exact (hA.set hi1 hu).1
  ·have e3:(i.toNat+1)*A.n=i.toNat*A.n+A.n:=Nat.succ_mul ..
   simp only [List.size_toArray,List.length_append,List.length_take,List.length_drop,Array.length_toList]
   omega
  ·rw [List.length_set,← ht]
   have hk:i.toNat*A.n+A.n≤xs.length*A.n:=by rw [← Nat.succ_mul];exact Nat.mul_le_mul_right _ hi1
   have e3:(i.toNat+1)*A.n=i.toNat*A.n+vs'.length:=by rw [hlu,Nat.add_mul];omega
   rw [e3,List.take_append,List.take_append,List.take_take,List.take_take,List.drop_take]
   have e4:min (xs.length*A.n) (i.toNat*A.n)=i.toNat*A.n:=by omega
   have e5:min (i.toNat*A.n) (xs.length*A.n)=i.toNat*A.n:=by omega
   rw [e4,e5]
   congr 1
   ·congr 1
    rw [List.take_of_length_le]
    simp only [List.length_take,Array.length_toList];omega
   ·congr 1
    simp only [List.length_append,List.length_take,Array.length_toList]
    omega
/-! append -/
def aw (k bytes:Nat):Bool:=Nat.ble (k*bytes) 140737488355328&&Nat.ble k 9223372036854775807
theorem wc {α:Type} {A:Rep α} {M:Nat→Prop} (t ty' e:TypeId) (i:TypeInfo) (z:Value) (ht:P.underlying t=some (.slice e)) (hi:P.info? e=some i) (hz:i.zero=some z) (hs:i.size=A.n)
  (hzs:z.cells.size=A.n) {v u:Value} {xs ys:List α} (ho:OSl A e M w v xs) (hy:SRd A M w u ys) (hM: ∀ b∈blk v,M b) (hroom:aw (xs.length+ys.length) i.bytes=true) (_hpos:0<A.n):
  ∃ v' w',(Builtin.append_ #[t,t] ty' #[v,u]).run P w= .ok v' w'∧Chg (blk v) w w'∧(∀ b∈blk v',b<w'.heap.size∧(b∈blk v∨w.heap.size≤b))∧
   (∀ M',Mv M w M' w'→OSl A e M' w' v' (xs++ys)):=by
 simp only [aw,Bool.and_eq_true] at hroom
 have hb1:=Nat.le_of_ble_eq_true hroom.1
 have hb2:=Nat.le_of_ble_eq_true hroom.2
 obtain ⟨cells,hown,hA⟩:=ho
 -- the new cells
 have hnew:(u= .slice none 0 0∧ys=[])∨ ∃ ad c news,u= .slice (some ad) ys.length c∧news.length=ys.length*A.n∧(∀ j x,news[j]? =some x→w.cell? (ad.add j)=some x)∧ARd A M w news ys:=by
  rcases hy with ⟨⟨uo,rfl⟩,rfl⟩ | ⟨b,off,cap,cs,e',fr,rfl,hMb,hb,hc,hof,hr⟩
  ·cases uo with
   | none=>exact .inl ⟨rfl,rfl⟩
   | some ad=>exact .inr ⟨ad,0,[],rfl,by simp,by simp,ARd.nil⟩
  ·refine .inr ⟨⟨b,off,none⟩,cap,_,rfl,hr.1,fun j x hj=> ?_,hr⟩
   have key:aM w ⟨b,off,none⟩ ((cs.toList.drop off).take (ys.length*A.n)):=⟨rfl,cs,e',fr,hb,fun j u hj=>by
    rw [List.getElem?_take] at hj
    split at hj
    ·simpa [List.getElem?_drop] using hj
    ·cases hj⟩
   exact key.cell hj
 rcases hnew with ⟨rfl,rfl⟩ | ⟨ad,c,news,rfl,hnl,hnc,hnA⟩
 · -- nothing is appended
  refine ⟨v,w,?_,(Ext.refl w).chg _,fun b hb=>⟨?_,.inl hb⟩,fun M' m=>⟨cells,?_,?_⟩⟩
  ·rcases hown.2 with ⟨rfl,h0⟩ | ⟨g,cap,cur,rfl,_,hg,hcap,_⟩
   ·simp [Builtin.append_,run_underlying ht,sizeOf,typeInfo,hi,Builtin.lenOf,Builtin.firstCells]
   ·have hst:=run_storeCells_at P g (xs.length*i.size) e [] 0 cur w hg
    simp [Builtin.append_,run_underlying ht,sizeOf,typeInfo,hi,Builtin.lenOf,Builtin.firstCells,storeCells,hcap]
  ·exact (hown.lt b (by simpa [blk] using hb)).2
  ·simpa using hown
  ·simpa using hA.mv m
 ·have hA':=hA.append hnA
  have hone:=hnA.rA
  by_cases hm0:ys.length=0
  · -- a slice without elements
   have hys:ys=[]:=List.eq_nil_of_length_eq_zero hm0
   subst hys
   have hn0:news=[]:=List.eq_nil_of_length_eq_zero (by simpa using hnl)
   subst hn0
   refine ⟨v,w,?_,(Ext.refl w).chg _,fun b hb=>⟨?_,.inl hb⟩,fun M' m=>⟨cells,?_,?_⟩⟩
   ·rcases hown.2 with ⟨rfl,h0⟩ | ⟨g,cap,cur,rfl,_,hg,hcap,_⟩
    ·simp [Builtin.append_,run_underlying ht,sizeOf,typeInfo,hi,Builtin.lenOf,Builtin.firstCells,loadCells,loadCellsFrom]
    ·simp [Builtin.append_,run_underlying ht,sizeOf,typeInfo,hi,Builtin.lenOf,Builtin.firstCells,storeCells,loadCells,loadCellsFrom,hcap]
   ·exact (hown.lt b (by simpa [blk] using hb)).2
   ·simpa using hown
   ·simpa using hA.mv m
  ·have grown: ∀ (old:Nat),old<xs.length+ys.length→
     (w.drew.alloc (.cells (cells.toArray++news.toArray++Builtin.zeroCells z.cells (grownCap w (xs.length+ys.length) old e-(xs.length+ys.length))) e)).ownsRow 0 e A.n
      (.slice (some ⟨w.heap.size,0,none⟩) (xs++ys).length (grownCap w (xs.length+ys.length) old e)) (xs++ys).length (cells++news):=by
    intro old hold
    have hge:=grownCap_ge w (xs.length+ys.length) old e
    have hcm:grownCap w (xs.length+ys.length) old e≤maxLen:=grownCap_le_maxLen w _ old e (by simpa [maxLen] using hb2)
    refine ⟨hA'.1,.inr ⟨w.heap.size,_,_,rfl,Nat.zero_le _,heap_alloc_new w.drew _,by simpa using hge,hcm,?_,?_⟩⟩
    ·simp only [Array.size_append,List.size_toArray,size_zeroCells,hzs,hA.1,hnl,← Nat.add_mul]
     congr 1
     omega
    ·simp only [Array.toList_append,List.append_assoc]
     rw [← List.append_assoc,← hA'.1]
     exact List.take_left
   have hchg: ∀ o C,Chg C w (w.drew.alloc o):=fun o C=>⟨rfl,rfl,rfl,by simp,fun b hb _=>heap_alloc_old w.drew o hb⟩
   rcases hown.2 with ⟨rfl,h0⟩ | ⟨g,cap,cur,rfl,_,hg,hcap,hcm,hcs,htake⟩
   ·have hx0:xs=[]:=List.eq_nil_of_length_eq_zero h0
    subst hx0
    have hc0:cells=[]:=List.eq_nil_of_length_eq_zero (by simpa using hown.1)
    subst hc0
    have hr:=run_append_nil (P:=P) w t ty' e i z ht hi hz ad ys.length c news (by rw [hs];exact hnl) hnc (by omega) (by simp at hb2;omega) (by simp at hb1;omega)
    have hgr:=grown 0 (by simp;omega)
    simp only [List.length_nil,Nat.zero_add,List.nil_append,Array.empty_append] at hgr hr
    refine ⟨_,_,hr,hchg _ _,fun b hb=> ?_,fun M' m=>⟨_,by simpa using hgr,by simpa using hnA.mv m⟩⟩
    have:b=w.heap.size:=by simpa [blk,Value.ownBlock] using hb
    subst this
    exact ⟨by simp,.inr (Nat.le_refl _)⟩
   ·by_cases hroom':xs.length+ys.length≤cap
    ·have hfit:xs.length*i.size+news.length≤cur.size:=by rw [hs,hnl,hcs,← Nat.add_mul];exact Nat.mul_le_mul_right _ hroom'
     have hr:=run_append_room (P:=P) w t ty' e i ht hi g xs.length cap cur hg ad ys.length c news (by rw [hs];exact hnl) hnc hone hroom' hfit
     rw [hs] at hr
     refine ⟨_,_,hr,⟨rfl,rfl,rfl,by simp,fun b hb hbg=>setRow_other w g b _ (by simpa [blk,Value.ownBlock] using hbg)⟩,fun b hb=> ?_,fun M' m=>⟨cells++news,⟨hA'.1,.inr ⟨g,cap,_,by simp,Nat.zero_le _,setRow_heap w g cur _ e _ hg,by simpa using hroom',hcm,?_,?_⟩⟩,hA'.mv m⟩⟩
     ·have:b=g:=by simpa [blk,Value.ownBlock] using hb
      subst this
      exact ⟨by simpa using (Array.getElem?_eq_some_iff.1 hg).1,.inl (by simp [blk,Value.ownBlock])⟩
     ·simp only [List.size_toArray,List.length_append,List.length_take,List.length_drop,Array.length_toList]
      rw [hs] at hfit
      omega
     ·rw [htake,← hA'.1]
      exact List.take_left
    ·have holds: ∀ j x,cells[j]? =some x→w.cell? ((⟨g,0,none⟩:Addr).add j)=some x:=hown.cells (g:=g) rfl
     have hr:=run_append_grow (P:=P) w t ty' e i z ht hi hz ⟨g,0,none⟩ xs.length cap cells (by rw [hs];exact hA.1) holds ad ys.length c news (by rw [hs];exact hnl) hnc (by omega) (by omega) (growslice_fits (by omega) hb1)
     have hgr:=grown cap (by omega)
     refine ⟨_,_,hr,hchg _ _,fun b hb=> ?_,fun M' m=>⟨_,by simpa using hgr,hA'.mv m⟩⟩
     have:b=w.heap.size:=by simpa [blk,Value.ownBlock] using hb
     subst this
     exact ⟨by simp,.inr (Nat.le_refl _)⟩
theorem mT {α:Type} {A:Rep α} {M:Nat→Prop} (t ty' e:TypeId) (i:TypeInfo) (z:Value) (ht:P.underlying t=some (.slice e)) (hi:P.info? e=some i) (hz:i.zero=some z) (hs:i.size=A.n)
  (hzs:z.cells.size=A.n) {a0:Option Addr} {u:Value} {ys:List α} (hx:SRd A M w (.slice a0 0 0) []) (hy:SRd A M w u ys) (hroom:aw ys.length i.bytes=true):
  ((Builtin.append_ #[t,t] ty' #[.slice a0 0 0,u]).run P w= .ok (.slice a0 0 0) w∧ys=[])∨
  ∃ v' w',(Builtin.append_ #[t,t] ty' #[.slice a0 0 0,u]).run P w= .ok v' w'∧Ext w w'∧(∀ b∈blk v',b<w'.heap.size∧w.heap.size≤b)∧(∀ M',Mv M w M' w'→OSl A e M' w' v' ys):=by
 simp only [aw,Bool.and_eq_true] at hroom
 have hb1:=Nat.le_of_ble_eq_true hroom.1
 have hb2:=Nat.le_of_ble_eq_true hroom.2
 have hnew:(u= .slice none 0 0∧ys=[])∨ ∃ ad c news,u= .slice (some ad) ys.length c∧news.length=ys.length*A.n∧(∀ j x,news[j]? =some x→w.cell? (ad.add j)=some x)∧ARd A M w news ys:=by
  rcases hy with ⟨⟨uo,rfl⟩,rfl⟩ | ⟨b,off,cap,cs,e',fr,rfl,hMb,hb,hc,hof,hr⟩
  ·cases uo with
   | none=>exact .inl ⟨rfl,rfl⟩
   | some ad=>exact .inr ⟨ad,0,[],rfl,by simp,by simp,ARd.nil⟩
  ·refine .inr ⟨⟨b,off,none⟩,cap,_,rfl,hr.1,fun j x hj=> ?_,hr⟩
   have key:aM w ⟨b,off,none⟩ ((cs.toList.drop off).take (ys.length*A.n)):=⟨rfl,cs,e',fr,hb,fun j u hj=>by
    rw [List.getElem?_take] at hj
    split at hj
    ·simpa [List.getElem?_drop] using hj
    ·cases hj⟩
   exact key.cell hj
 rcases hnew with ⟨rfl,rfl⟩ | ⟨ad,c,news,rfl,hnl,hnc,hnA⟩
 ·refine .inl ⟨?_,rfl⟩
  cases a0 <;> simp [Builtin.append_,run_underlying ht,sizeOf,typeInfo,hi,Builtin.lenOf,Builtin.firstCells,storeCells]
 ·by_cases hm0:ys.length=0
  ·have hys:ys=[]:=List.eq_nil_of_length_eq_zero hm0
   subst hys
   refine .inl ⟨?_,rfl⟩
   cases a0 <;> simp [Builtin.append_,run_underlying ht,sizeOf,typeInfo,hi,Builtin.lenOf,Builtin.firstCells,storeCells,loadCells,loadCellsFrom]
  ·refine .inr ?_
   have hge:=grownCap_ge w ys.length 0 e
   have hcm:grownCap w ys.length 0 e≤maxLen:=grownCap_le_maxLen w _ 0 e (by simpa [maxLen] using hb2)
   have hgr:(w.drew.alloc (.cells (news.toArray++Builtin.zeroCells z.cells (grownCap w ys.length 0 e-ys.length)) e)).ownsRow 0 e A.n
      (.slice (some ⟨w.heap.size,0,none⟩) ys.length (grownCap w ys.length 0 e)) ys.length news:=by
    refine ⟨hnl,.inr ⟨w.heap.size,_,_,rfl,Nat.zero_le _,heap_alloc_new w.drew _,hge,hcm,?_,?_⟩⟩
    ·simp only [Array.size_append,List.size_toArray,size_zeroCells,hzs,hnl,← Nat.add_mul]
     congr 1
     omega
    ·simp only [Array.toList_append]
     rw [← hnl]
     exact List.take_left
   have hE:Ext w (w.drew.alloc (.cells (news.toArray++Builtin.zeroCells z.cells (grownCap w ys.length 0 e-ys.length)) e)):=⟨rfl,rfl,rfl,by simp,fun b hb=>heap_alloc_old w.drew _ hb⟩
   have hB: ∀ b∈blk (.slice (some ⟨w.heap.size,0,none⟩) ys.length (grownCap w ys.length 0 e)),b<(w.drew.alloc (.cells (news.toArray++Builtin.zeroCells z.cells (grownCap w ys.length 0 e-ys.length)) e)).heap.size∧w.heap.size≤b:=fun b hb=>by
    have:b=w.heap.size:=by simpa [blk,Value.ownBlock] using hb
    subst this
    exact ⟨by simp,Nat.le_refl _⟩
   cases a0 with
   | none=>
    have hr:=run_append_nil (P:=P) w t ty' e i z ht hi hz ad ys.length c news (by rw [hs];exact hnl) hnc (by omega) (by omega) (by omega)
    exact ⟨_,_,hr,hE,hB,fun M' m=>⟨news,hgr,hnA.mv m⟩⟩
   | some ad0=>
    have hr:=run_append_grow (P:=P) w t ty' e i z ht hi hz ad0 0 0 [] (by simp) (by intro j v hj;simp at hj) ad ys.length c news (by rw [hs];exact hnl) hnc (by omega) (by omega) (growslice_fits (by omega) (by simpa using hb1))
    simp only [Nat.zero_add,Array.empty_append] at hr
    exact ⟨_,_,by simpa using hr,hE,hB,fun M' m=>⟨news,hgr,hnA.mv m⟩⟩
theorem Bd {α:Type} {A:Rep α} {M:Nat→Prop} {v u:Value} {x y:Operand} {t e:TypeId} {bytes:Nat} {z:Value} {R:List Nat} (ht:P.underlying t=some (.slice e)) (hti:TI P e A.n bytes z)
  (hzs:z.cells.size=A.n) (hpos:0<A.n) (hx:Opd E true x v) (hy:Opd E true y u)
  {xs ys:List α} (ho:Own A e M w v xs R) (hyr:SRd A M w u ys) (hM: ∀ b∈R,M b) (hroom:aw (xs.length+ys.length) bytes=true):
  ∃ v' R' w',j4 P E ⟨dst,.call ⟨.builtin .append,#[x,y],#[t,t]⟩,ty,pos,af,none⟩ w v' w'∧Chg R w w'∧(∀ b∈R',b<w'.heap.size∧(b∈R∨w.heap.size≤b))∧ ∀ M',Mv M w M' w'→Own A e M' w' v' (xs++ys) R':=by
 obtain ⟨i',hi',hs,hby,hz⟩:=hti.out
 subst hby
 rcases ho with ⟨rfl,ho⟩ | ⟨rfl,rfl,⟨a0,rfl⟩,hr0⟩
 ·obtain ⟨v',w',hr,hC,hR,hO⟩:=wc t ty e i' z ht hi' hz hs hzs ho hyr hM hroom hpos
  exact ⟨v',blk v',w',(fun n' a hf=>by simp [execOp,resolve,invoke,builtin,hx n' a hf rfl,hy n' a hf rfl,hr]),hC,hR,fun M' m=>Own.of (hO M' m)⟩
 ·rcases mT t ty e i' z ht hi' hz hs hzs hr0 hyr (by simpa using hroom) with ⟨hr,rfl⟩ | ⟨v',w',hr,hE,hB,hO⟩
  ·exact ⟨_,[],w,(fun n' a hf=>by simp [execOp,resolve,invoke,builtin,hx n' a hf rfl,hy n' a hf rfl,hr]),(Ext.refl w).chg _,(fun b hb=>by cases hb),fun M' m=>Own.empty (hr0.mv m)⟩
  ·exact ⟨v',blk v',w',(fun n' a hf=>by simp [execOp,resolve,invoke,builtin,hx n' a hf rfl,hy n' a hf rfl,hr]),hE.chg _,(fun b hb=>⟨(hB b hb).1,.inr (hB b hb).2⟩),fun M' m=>Own.of (by simpa using hO M' m)⟩
/-! make -/
theorem Ig (zs:List Value): ∀ m j,j<m*zs.length→((List.replicate m zs).flatten)[j]? =zs[j%zs.length]?
 | 0,j,h=>by simp at h
 | m+1,j,h=>by
  rw [List.replicate_succ,List.flatten_cons]
  by_cases hjn:j<zs.length
  ·rw [List.getElem?_append_left hjn,Nat.mod_eq_of_lt hjn]
  ·have h1:j-zs.length<m*zs.length:=by rw [Nat.succ_mul] at h;omega
   rw [List.getElem?_append_right (by omega),Ig zs m _ h1,Nat.mod_eq_sub_mod (by omega:zs.length≤j)]
theorem zH (zs:List Value) (hpos:0<zs.length) (m:Nat):((Array.range (m*zs.length)).map (zs.toArray[· %zs.toArray.size]!))=((List.replicate m zs).flatten).toArray:=by
 apply Array.toList_inj.1
 apply List.ext_getElem?
 intro j
 by_cases hj:j<m*zs.length
 ·have hlt:j%zs.length<zs.length:=Nat.mod_lt _ hpos
  rw [Ig zs m j hj]
  simp only [Array.toList_map,Array.toList_range,List.getElem?_map,List.getElem?_range hj,List.size_toArray,Option.map_some]
  rw [List.getElem?_eq_getElem hlt]
  simp [hlt]
 ·have hlen:((List.replicate m zs).flatten).length=m*zs.length:=by simp
  rw [List.getElem?_eq_none (by simp;omega),List.getElem?_eq_none (by simp at hlen ⊢; omega)]
theorem Om {α:Type} {A:Rep α} {x y:Operand} {t e:TypeId} {bytes:Nat} {z:Value} {k k':IntKind} {l:Int} {zx:α} {zs:List Value} (ht:P.underlying t=some (.slice e)) (hti:TI P e A.n bytes z)
  (hz:z.cells=zs.toArray) (hzl:zs.length=A.n) (hpos:0<A.n) (hx:Opd E true x (.int k l)) (hy:Opd E true y (.int k' l)) (h0:decide (0≤l)=true) (hroom:aw l.toNat bytes=true)
  (hzr: ∀ M w,A.rd M w zs zx):
  ∃ w',j4 P E ⟨dst,.makeSlice t x y,ty,pos,af,none⟩ w (.slice (some ⟨w.heap.size,0,none⟩) l.toNat l.toNat) w'∧Ext w w'∧w.heap.size<w'.heap.size∧ ∀ M,OSl A e M w' (.slice (some ⟨w.heap.size,0,none⟩) l.toNat l.toNat) (List.replicate l.toNat zx):=by
 obtain ⟨i',hi',hs,hby,hzz⟩:=hti.out
 subst hby
 simp only [aw,Bool.and_eq_true] at hroom
 have hb1:=Nat.le_of_ble_eq_true hroom.1
 have hb2:=Nat.le_of_ble_eq_true hroom.2
 have h0':0≤l:=by simpa using h0
 have el:((l.toNat:Nat):Int)=l:=by omega
 have hb':(i'.bytes:Int)*l≤281474976710656:=by
  have h1:((i'.bytes*l.toNat:Nat):Int)≤281474976710656:=by rw [Nat.mul_comm];omega
  rwa [Int.natCast_mul,el] at h1
 have hr:=run_make (P:=P) w t e i' z ht hi' hzz k k' l l h0' (Int.le_refl _) hb' (by omega)
 have hARd: ∀ m M w',ARd A M w' ((List.replicate m zs).flatten) (List.replicate m zx):=by
  intro m M w'
  induction m with
  | zero=>simpa using ARd.nil
  | succ m ih=>rw [List.replicate_succ,List.flatten_cons,List.replicate_succ];exact ARd.cons (hzr M w') ih
 have hobj:madeCells z.cells (l.toNat*i'.size)=((List.replicate l.toNat zs).flatten).toArray:=by
  rw [hz,hs,← hzl,← zH zs (by omega) l.toNat];simp [madeCells]
 rw [hobj] at hr
 refine ⟨w.alloc (.cells ((List.replicate l.toNat zs).flatten).toArray e),(fun n' a hf=>by simp [execOp,hx n' a hf rfl,hy n' a hf rfl,hr]),cQ _ _,by simp,fun M=> ?_⟩
 exact OSl.fresh (heap_alloc_new w _) (by simp) (by simpa using hb2) (hARd _ _ _)
end
/-! results in memory -/
section
variable {P : Program} {fn : Func} {S : Value → World → Prop} {Sp : List PanicEntry → World → Prop} {n : Nat} {E : Env} {w : World}
def jD (P:Program) (E:Env) (w:World) (r:ResultVar) (v:Value):Prop:=
 match r with
 | .tmp t=>look E t=some (true,v)
 | .cell p t=> ∃ ad,look E p=some (true,.pointer (some ad))∧(loadVar t ad).run P w= .ok v w
theorem jD.t {t:Tmp} {v:Value} (h:look E t=some (true,v)):jD P E w (.tmp t) v:=h
theorem jD.cA {p:Tmp} {t:TypeId} {ad:Addr} {d:TypeDesc} {size bytes:Nat} {z:Value} {vs:List Value} (h:look E p=some (true,.pointer (some ad))) (ht:P.underlying t=some d) (hd:gR d=true)
  (hti:TI P t size bytes z) (hc:aM w ad vs) (hl:vs.length=size):jD P E w (.cell p t) (.agg vs.toArray):=⟨ad,h,y8 ht hd hti hc hl⟩
theorem jD.c1 {p:Tmp} {t:TypeId} {ad:Addr} {d:TypeDesc} {v:Value} {vs:List Value} (h:look E p=some (true,.pointer (some ad))) (ht:P.underlying t=some d) (hd:gR d=false)
  (hc:aM w ad vs) (h0:vs[0]? =some v):jD P E w (.cell p t) v:=⟨ad,h,zi ht hd (hc.cell0 h0)⟩
def Db (a:Act) (r:ResultVar):Sem Value:=
 match r with
 | .tmp t=>pure (a.tmps.getD t undef)
 | .cell p t=>do loadVar t (← asAddr (a.tmps.getD p undef))
theorem jD.run {r:ResultVar} {v:Value} (hr:jD P E w r v) {a:Act} (hf:Fits n E a):(Db a r).run P w= .ok v w:=by
 cases r with
 | tmp t=>have:=hf.at_ t true v hr;simp [Db,this,qH]
 | cell p t=>
  obtain ⟨ad,hl,hrun⟩:=hr
  have:=hf.at_ p true _ hl
  simp [Db,this,qH,asAddr,hrun]
theorem Cr (fn:Func) (a:Act):results fn a.tmps=(do let vs ← fn.results.mapM (Db a);pure (if h:vs.size=1 then vs[0] else .tuple vs)):=rfl
theorem Mp {vs:List Value} (_hr:fn.results.toList.length=vs.length) (h: ∀ a,Fits n E a→(fn.results.mapM (Db a)).run P w= .ok vs.toArray w) {v:Value} (hv:(if h:vs.length=1 then vs[0] else .tuple vs.toArray)=v) (hS:S v w):
  At (BP P fn S Sp) .ret n [] E w:=fun a hf hd=>by
 show LeavesInM _ _ _ _ _ _ a.defers _ _
 rw [hd]
 refine ⟨v,?_,hS⟩
 rw [Cr]
 simp only [Sem.run_bind,h a hf,Result.andThen_ok,Sem.run_pure]
 subst hv
 simp
theorem Ls {r:ResultVar} {v:Value} (hr:fn.results= #[r]) (h1:jD P E w r v) (hS:S v w):At (BP P fn S Sp) .ret n [] E w:=
 Mp (vs:=[v]) (by rw [hr];rfl) (fun a hf=>by rw [hr];simp [h1.run hf]) (by simp) hS
theorem At_pan {c:List PanicEntry} (hS:Sp c w):At (BP P fn S Sp) (.panic c) n [] E w:=fun a hf hd=>by
 show LeavesInM _ _ _ _ _ _ a.defers _ _
 rw [hd]
 exact hS
theorem At_mark {k:Nat} {D:List Deferred} {e:Exit} (he:e= .ret∨e= .normal) (hk:w.heap[k]? =some (.deferred (some []))) (h:At (BP P fn S Sp) e n D E (w.putObj k (.deferred none))):
  At (BP P fn S Sp) e n ({ target:= .collected k,args:= #[] }::D) E w:=fun a hf hd=>by
 have h2:=h { a with defers:=D } ⟨hf.size,hf.at_⟩ rfl
 rcases he with rfl | rfl <;>
 ·show LeavesInM _ _ _ _ _ _ a.defers _ _
  rw [hd]
  exact ⟨by simp,.inl ⟨k,_,rfl,run_takeDeferred hk,h2⟩⟩
end
end Go.Proofs.YtgcgmclghbebjaaGreat
namespace Go.Proofs.YtgcgmclghbebjaaGreat
structure dA (w w':World):Prop where
 os:w'.os=w.os
 tape:w'.tape=w.tape
 output:w'.output=w.output
theorem dA.refl (w:World):dA w w:=⟨rfl,rfl,rfl⟩
theorem dA.trans {a b c:World} (h:dA a b) (k:dA b c):dA a c:=⟨k.os.trans h.os,k.tape.trans h.tape,k.output.trans h.output⟩
theorem Chg.env {C:List Nat} {w w':World} (h:Chg C w w'):dA w w':=⟨h.os,h.tape,h.output⟩
structure Item where
 own:List Nat
 P:(Nat→Prop)→World→Prop
 lt: ∀ {M w},P M w→ ∀ b∈own,b<w.heap.size
 bm: ∀ {M M' w w'},P M w→Mv M w M' w'→(∀ b∈own,w'.heap[b]? =w.heap[b]?)→dA w w'→P M' w'
 ck:Bool
 hp:ck=true→own=[]
abbrev Ctx:=List Item
def Ctx.M (Γ:Ctx) (b:Nat):Prop:= ∃ it,it∈Γ∧b∈it.own
structure Sat (Γ:Ctx) (w:World):Prop where
 all: ∀ it,it∈Γ→it.P Γ.M w
 sep: ∀ (i j:Nat) (it jt:Item),Γ[i]? =some it→Γ[j]? =some jt→i≠j→ ∀ b,b∈it.own→b∉jt.own
section
variable {Γ : Ctx} {w w' : World} {it new : Item} {i : Nat}
theorem Sat.nil:Sat [] w:=⟨fun _ h=>(by cases h),fun i j it jt h=>(by simp at h)⟩
theorem Sat.at_ (h:Sat Γ w) (hi:Γ[i]? =some it):it.P Γ.M w:=h.all it (List.mem_of_getElem? hi)
theorem Ctx.gA (hi:Γ[i]? =some it) {b:Nat} (hb:b∈it.own):Γ.M b:=⟨it,List.mem_of_getElem? hi,hb⟩
theorem Sat.lt (h:Sat Γ w) {b:Nat} (hb:Γ.M b):b<w.heap.size:=by
 obtain ⟨it,hi,hb⟩:=hb
 exact it.lt (h.all it hi) b hb
theorem Ctx.p9 {b:Nat}:Ctx.M (new::Γ) b↔b∈new.own∨Γ.M b:=by
 constructor
 ·rintro ⟨it,hi,hb⟩
  rcases List.mem_cons.1 hi with rfl | hi
  ·exact .inl hb
  ·exact .inr ⟨it,hi,hb⟩
 ·rintro (hb | ⟨it,hi,hb⟩)
  ·exact ⟨new,List.mem_cons_self .., hb⟩
  ·exact ⟨it,List.mem_cons_of_mem _ hi,hb⟩
theorem Sat.ext (h:Sat Γ w) (x:Ext w w'):Sat Γ w':=
 ⟨fun it hi=>it.bm (h.all it hi) (x.mv _) (fun b hb=>x.block b (h.lt ⟨it,hi,hb⟩)) ⟨x.os,x.tape,x.output⟩,h.sep⟩
theorem Sat.upd (h:Sat Γ w) (hi:Γ[i]? =some it) (hC:Chg it.own w w') (hR: ∀ b∈new.own,b<w'.heap.size∧(b∈it.own∨w.heap.size≤b))
  (hP: ∀ M',Mv Γ.M w M' w'→(∀ b∈it.own,b∉new.own→ ¬ M' b)→new.P M' w'):Sat (Γ.set i new) w':=by
 have hlt:i<Γ.length:=(List.getElem?_eq_some_iff.1 hi).1
 have hsep: ∀ {j jt},Γ[j]? =some jt→j≠i→ ∀ b∈new.own,b∉jt.own:=fun {j jt} hj hne b hb hb'=>by
  rcases (hR b hb).2 with h1 | h1
  ·exact h.sep j i jt it hj hi hne b hb' h1
  ·have:=h.lt (Ctx.gA hj hb');omega
 have hmem: ∀ {jt},jt∈Γ.set i new→jt=new∨ ∃ j,j≠i∧Γ[j]? =some jt:=fun {jt} hj=>by
  obtain ⟨j,hj⟩:=List.mem_iff_getElem?.1 hj
  rw [List.getElem?_set] at hj
  split at hj
  ·rename_i e;subst e
   simp only [Option.some.injEq] at hj
   exact .inl hj.symm
  ·rename_i e;exact .inr ⟨j,fun e'=>e e'.symm,hj⟩
 have mv:Mv Γ.M w (Ctx.M (Γ.set i new)) w':=by
  refine ⟨hC.size,fun b hb hn=>⟨?_,hC.block b hb (fun hc=>hn (Ctx.gA hi hc))⟩⟩
  rintro ⟨jt,hj,hbj⟩
  rcases hmem hj with rfl | ⟨j,_,hj⟩
  ·rcases (hR b hbj).2 with h1 | h1
   ·exact hn (Ctx.gA hi h1)
   ·omega
  ·exact hn (Ctx.gA hj hbj)
 refine ⟨fun jt hj=> ?_,fun j k jt kt hj hk hjk b hb hb'=> ?_⟩
 ·rcases hmem hj with rfl | ⟨j,hne,hj⟩
  ·refine hP _ mv (fun b hb hbn=> ?_)
   rintro ⟨kt,hk,hbk⟩
   rcases hmem hk with rfl | ⟨k,hne,hk⟩
   ·exact hbn hbk
   ·exact h.sep k i kt it hk hi hne b hbk hb
  ·exact jt.bm (h.at_ hj) mv (fun b hb=>hC.block b (h.lt (Ctx.gA hj hb)) (fun hc=>h.sep j i jt it hj hi hne b hb hc)) hC.env
 ·rw [List.getElem?_set] at hj hk
  split at hj <;> split at hk
  ·omega
  ·rename_i e1 e2;subst e1
   simp only [Option.some.injEq] at hj
   subst hj
   exact hsep hk (fun e=>e2 e.symm) b hb hb'
  ·rename_i e1 e2;subst e2
   simp only [Option.some.injEq] at hk
   subst hk
   exact hsep hj (fun e=>e1 e.symm) b hb' hb
  ·exact h.sep j k jt kt hj hk hjk b hb hb'
theorem Sat.push (h:Sat Γ w) (x:Ext w w') (hR: ∀ b∈new.own,b<w'.heap.size∧w.heap.size≤b) (hP: ∀ M',Mv Γ.M w M' w'→new.P M' w'):Sat (new::Γ) w':=by
 have mv:Mv Γ.M w (Ctx.M (new::Γ)) w':=by
  refine ⟨x.size,fun b hb hn=>⟨?_,x.block b hb⟩⟩
  rw [Ctx.p9]
  rintro (h1 | h1)
  ·have:=(hR b h1).2;omega
  ·exact hn h1
 refine ⟨fun jt hj=> ?_,fun j k jt kt hj hk hjk b hb hb'=> ?_⟩
 ·rcases List.mem_cons.1 hj with rfl | hj
  ·exact hP _ mv
  ·exact jt.bm (h.all jt hj) mv (fun b hb=>x.block b (h.lt ⟨jt,hj,hb⟩)) ⟨x.os,x.tape,x.output⟩
 ·cases j with
  | zero=>
   simp only [List.getElem?_cons_zero,Option.some.injEq] at hj
   subst hj
   cases k with
   | zero=>exact hjk rfl
   | succ k=>
    simp only [List.getElem?_cons_succ] at hk
    have:=(hR b hb).2
    have:=h.lt (Ctx.gA hk hb');omega
  | succ j=>
   simp only [List.getElem?_cons_succ] at hj
   cases k with
   | zero=>
    simp only [List.getElem?_cons_zero,Option.some.injEq] at hk
    subst hk
    have:=(hR b hb').2
    have:=h.lt (Ctx.gA hj hb);omega
   | succ k=>
    simp only [List.getElem?_cons_succ] at hk
    exact h.sep j k jt kt hj hk (by omega) b hb hb'
theorem Sat.add (h:Sat Γ w) (hp:new.own=[]) (hP:new.P Γ.M w):Sat (new::Γ) w:=by
 refine h.push (Ext.refl w) (fun b hb=>absurd (hp▸hb:b∈([]:List Nat)) List.not_mem_nil) (fun M' m=>new.bm hP m (fun b _=>rfl) (dA.refl w))
/-! the row is laid anew: what is told may be told twice; what owns blocks stands once; what stands behind the first k stays -/
theorem Sat.map {Γ':Ctx} (h:Sat Γ w) (f:Nat→Nat) (h1: ∀ (j:Nat) (jt:Item),Γ'[j]? =some jt→Γ[f j]? =some jt) (h2: ∀ (j k:Nat) (jt:Item),j≠k→f j=f k→Γ'[j]? =some jt→(Γ'[k]?).isSome=true→jt.ck=true):Sat Γ' w:=by
 have mv:Mv Γ.M w (Ctx.M Γ') w:=Mv.weaken w fun b hb=>by
  obtain ⟨it,hi,hb⟩:=hb
  obtain ⟨k,hk⟩:=List.mem_iff_getElem?.1 hi
  exact Ctx.gA (h1 k it hk) hb
 refine ⟨fun jt hj=> ?_,fun j k jt kt hj hk hjk b hb hb'=> ?_⟩
 ·obtain ⟨k,hk⟩:=List.mem_iff_getElem?.1 hj
  exact jt.bm (h.at_ (h1 k jt hk)) mv (fun _ _=>rfl) (dA.refl w)
 ·by_cases e:f j=f k
  ·have hp:=h2 j k jt hjk e hj (by rw [hk];rfl)
   rw [jt.hp hp] at hb;cases hb
  ·exact h.sep (f j) (f k) jt kt (h1 j jt hj) (h1 k kt hk) e b hb hb'
def reB (Γ:Ctx) (k:Nat):List Nat→Bool
 | []=>true
 | i::is=>Nat.blt i k&&(match Γ[i]? with
   | none=>false
   | some it=> !(is.contains i)||it.ck)&&reB Γ k is
def Ctx.re (Γ:Ctx) (k:Nat):List Nat→Ctx
 | []=>Γ.drop k
 | i::is=>match Γ[i]? with
   | none=>[]
   | some it=>it::Γ.re k is
def reF (k:Nat):List Nat→Nat→Nat
 | [],j=>k+j
 | i::_,0=>i
 | _::is,j+1=>reF k is j
theorem vp {k:Nat}: ∀ (is:List Nat),reB Γ k is=true→ ∀ (j:Nat) (jt:Item),(Γ.re k is)[j]? =some jt→Γ[reF k is j]? =some jt
 | [],_,j,jt,h=>by simpa [Ctx.re,reF] using h
 | i::is,hB,j,jt,h=>by
  simp only [reB,Bool.and_eq_true] at hB
  simp only [Ctx.re] at h
  cases hi:Γ[i]? with
  | none=>simp [hi] at hB
  | some it=>
   simp only [hi] at h
   cases j with
   | zero=>simp only [List.getElem?_cons_zero,Option.some.injEq] at h;subst h;exact hi
   | succ j=>simp only [List.getElem?_cons_succ] at h;exact vp is hB.2 j jt h
theorem Li (k:Nat): ∀ (is:List Nat) (j:Nat),(reF k is j∈is∧j<is.length)∨(k≤reF k is j∧reF k is j=k+(j-is.length)∧is.length≤j)
 | [],j=> .inr ⟨by simp [reF],by simp [reF],by simp⟩
 | i::is,0=> .inl ⟨by simp [reF],by simp⟩
 | i::is,j+1=>by
  rcases Li k is j with ⟨h,h'⟩ | ⟨h1,h2,h3⟩
  ·exact .inl ⟨by simp [reF,h],by simpa using h'⟩
  ·exact .inr ⟨by simpa [reF] using h1,by simp only [reF,List.length_cons];omega,by simpa using h3⟩
theorem Eb {k:Nat}: ∀ (is:List Nat),reB Γ k is=true→ ∀ (j j':Nat) (it:Item),j<j'→reF k is j=reF k is j'→Γ[reF k is j]? =some it→it.ck=true
 | [],_,j,j',it,hlt,e,_=>by simp [reF] at e;omega
 | i::is,hB,j,j',it,hlt,e,hi=>by
  have hB0:=hB
  simp only [reB,Bool.and_eq_true] at hB
  cases j' with
  | zero=>omega
  | succ j'=>
   cases j with
   | zero=>
    simp only [reF] at e hi
    simp only [hi,Bool.or_eq_true] at hB
    rcases hB.1.2 with h | h
    ·have hlt':i<k:=by simpa using hB.1.1
     rcases Li k is j' with ⟨h1,_⟩ | ⟨h1,_⟩
     ·rw [← e] at h1
      have:is.contains i=true:=by simpa using h1
      rw [this] at h;cases h
     ·omega
    ·exact h
   | succ j=>exact Eb is hB.2 j j' it (by omega) (by simpa [reF] using e) (by simpa [reF] using hi)
theorem Sat.re (h:Sat Γ w) (k:Nat) (is:List Nat) (hB:reB Γ k is=true):Sat (Γ.re k is) w:=
 h.map (reF k is) (vp is hB) fun j j' jt hne e hj hj'=>by
  rcases Nat.lt_or_gt_of_ne hne with hlt | hlt
  ·exact Eb is hB j j' jt hlt e (vp is hB j jt hj)
  ·obtain ⟨kt,hk⟩:=Option.isSome_iff_exists.1 hj'
   have h1:=vp is hB j jt hj
   have h2:=vp is hB j' kt hk
   rw [e,h2] at h1
   cases h1
   exact Eb is hB j' j jt hlt e.symm h2
theorem Sat.ofG {w':World} {g:Bool} (h1:g=true→Sat Γ w') (h0:g=false→w'=w) (h:Sat Γ w):Sat Γ w':=by
 cases g
 ·rw [h0 rfl];exact h
 ·exact h1 rfl
end
/-! ### the kinds of things -/
def imm {α:Type} (A:Rep α) (vs:List Value) (x:α):Item where
 own:=[]
 P M w:=A.rd M w vs x
 lt _ b hb:=by cases hb
 bm h m _ _:=A.mv h m
 ck:=true
 hp _:=rfl
def Se {α:Type} (g:Bool) (A:Rep α) (vs:List Value) (x:α):Item where
 own:=[]
 P M w:=g=true→A.rd M w vs x
 lt _ b hb:=by cases hb
 bm h m _ _:=fun hg=>A.mv (h hg) m
 ck:=true
 hp _:=rfl
def box (b:Nat) (e:TypeId) (vs:List Value):Item where
 own:=[b]
 P _ w:=cG w b e vs
 lt h c hc:=by
  have:c=b:=by simpa using hc
  subst this;exact h.lt
 bm h _ k _:=cG.bm h (k b (by simp))
 ck:=false
 hp h:=by cases h
def osl {α:Type} (A:Rep α) (e:TypeId) (v:Value) (xs:List α) (R:List Nat):Item where
 own:=R
 P M w:=Own A e M w v xs R
 lt h:=h.lt
 bm h m k _:=h.bm k m
 ck:=false
 hp h:=by cases h
def CR (w:World) (b:Nat) (l:Str) (pos:Nat):Prop:=w.heap[b]? =some (.stringIter ⟨l.toArray⟩ pos)
def iter (b:Nat) (l:Str) (pos:Nat):Item where
 own:=[b]
 P _ w:=CR w b l pos
 lt h c hc:=by
  have:c=b:=by simpa using hc
  subst this;exact (Array.getElem?_eq_some_iff.1 h).1
 bm h _ k _:=(k b (by simp)).trans h
 ck:=false
 hp h:=by cases h
def elem (g:Bool) (p:Addr) (vs:List Value):Item where
 own:=[]
 P M w:=g=true→ ¬ M p.block∧aM w p vs
 lt _ b hb:=by cases hb
 bm {M M' w w'} h m _ _:=fun hg=>by
  obtain ⟨h1,hs,cs,t,fr,hb,hc⟩:=h hg
  obtain ⟨h2,h3⟩:=m.2 _ (Array.getElem?_eq_some_iff.1 hb).1 h1
  exact ⟨h2,hs,cs,t,fr,h3.trans hb,hc⟩
 ck:=true
 hp _:=rfl
def kept (w0:World) (M0:Nat→Prop):Item where
 own:=[]
 P M w:=dA w0 w∧w0.heap.size≤w.heap.size∧ ∀ b,b<w0.heap.size→ ¬ M0 b→ ¬ M b∧w.heap[b]? =w0.heap[b]?
 lt _ b hb:=by cases hb
 bm h m _ e:=⟨h.1.trans e,Nat.le_trans h.2.1 m.1,fun b hb hn=>by
  obtain ⟨h1,h2⟩:=h.2.2 b hb hn
  obtain ⟨h3,h4⟩:=m.2 b (Nat.lt_of_lt_of_le hb h.2.1) h1
  exact ⟨h3,h4.trans h2⟩⟩
 ck:=true
 hp _:=rfl
section
variable {Γ : Ctx} {w w' : World} {α : Type} {A : Rep α} {i : Nat}
theorem Sat.imm (h:Sat Γ w) {vs:List Value} {x:α} (hi:Γ[i]? =some (imm A vs x)):A.rd Γ.M w vs x:=h.at_ hi
theorem Sat.Se (h:Sat Γ w) {g:Bool} {vs:List Value} {x:α} (hi:Γ[i]? =some (Se g A vs x)):g=true→A.rd Γ.M w vs x:=h.at_ hi
theorem Vp {M:Nat→Prop} {v:Value} {xs:List α} (h:(RSl A).rd M w [v] xs):SRd A M w v xs:=by
 obtain ⟨u,hu,h⟩:=h
 have:v=sl u:=by simpa using hu
 rw [this];exact h
theorem Sat.sl (h:Sat Γ w) {v:Value} {xs:List α} (hi:Γ[i]? =some (Go.Proofs.YtgcgmclghbebjaaGreat.imm (RSl A) [v] xs)):SRd A Γ.M w v xs:=Vp (h.imm hi)
theorem Sat.box (h:Sat Γ w) {b:Nat} {e:TypeId} {vs:List Value} (hi:Γ[i]? =some (box b e vs)):cG w b e vs:=h.at_ hi
theorem Sat.own (h:Sat Γ w) {e:TypeId} {v:Value} {xs:List α} {R:List Nat} (hi:Γ[i]? =some (osl A e v xs R)):Own A e Γ.M w v xs R:=h.at_ hi
theorem Sat.iter (h:Sat Γ w) {b:Nat} {l:Str} {pos:Nat} (hi:Γ[i]? =some (iter b l pos)):CR w b l pos:=h.at_ hi
theorem Sat.elem (h:Sat Γ w) {g:Bool} {p:Addr} {vs:List Value} (hi:Γ[i]? =some (elem g p vs)):g=true→aM w p vs:=fun hg=>(h.at_ hi hg).2
theorem Sat.kept (h:Sat Γ w) {w0:World} {M0:Nat→Prop} (hi:Γ[i]? =some (kept w0 M0)):dA w0 w∧w0.heap.size≤w.heap.size∧ ∀ b,b<w0.heap.size→ ¬ M0 b→ ¬ Γ.M b∧w.heap[b]? =w0.heap[b]? :=h.at_ hi
theorem Sat.addNil (h:Sat Γ w) (A:Rep α) (e:TypeId):Sat (osl A e (.slice none 0 0) [] []::Γ) w:=h.add rfl Own.nil
theorem Sat.freeze (h:Sat Γ w) {e:TypeId} {v:Value} {xs:List α} {R:List Nat} (hi:Γ[i]? =some (osl A e v xs R)):Sat (Γ.set i (Go.Proofs.YtgcgmclghbebjaaGreat.imm (RSl A) [v] xs)) w:=
 h.upd hi ((Ext.refl w).chg _) (fun b hb=>by cases hb) (fun M' m hn=>((h.own hi).freeze (fun b hb=>hn b hb (fun hb=>by cases hb)) m).rsl)
theorem Sat.only (h:Sat Γ w) {it jt:Item} {j:Nat} (hi:Γ[i]? =some it) (hj:Γ[j]? =some jt) (hne:Nat.beq i j=false): ∀ b∈it.own,b∉jt.own:=
 fun b hb=>h.sep i j it jt hi hj (fun e=>by subst e;simp at hne) b hb
end
/-! facts more, all at once -/
def QG (M:Nat→Prop) (w:World):List Item→Prop
 | []=>True
 | it::l=>it.P M w∧QG M w l
theorem Oe {Γ:Ctx} {b:Nat}: ∀ (new:List Item),new.all (·.ck)=true→Ctx.M (new++Γ) b→Γ.M b
 | [],_,h=>h
 | it::l,hp,h=>by
  simp only [List.all_cons,Bool.and_eq_true] at hp
  rcases Ctx.p9.1 h with h | h
  ·rw [it.hp hp.1] at h;cases h
  ·exact Oe l hp.2 h
theorem Sat.U6 {Γ:Ctx} {w:World} (h:Sat Γ w): ∀ (new:List Item),new.all (·.ck)=true→QG Γ.M w new→Sat (new++Γ) w
 | [],_,_=>h
 | it::l,hp,hP=>by
  have hp':=hp
  simp only [List.all_cons,Bool.and_eq_true] at hp
  have h':=h.U6 l hp.2 hP.2
  exact h'.add (it.hp hp.1) (it.bm hP.1 (Mv.weaken w fun b hb=>Oe l hp.2 hb) (fun _ _=>rfl) (dA.refl w))
/-! the row is spelled out -/
theorem Sat.n1 {a0:Item} {Γ Δ:Ctx} {w:World} (h:Sat Δ w) (e:Δ=a0::Γ):Sat (a0::Γ) w:=e▸h
theorem Sat.n2 {a0 a1:Item} {Γ Δ:Ctx} {w:World} (h:Sat Δ w) (e:Δ=a0::a1::Γ):Sat (a0::a1::Γ) w:=e▸h
theorem Sat.n4 {a0 a1 a2 a3:Item} {Γ Δ:Ctx} {w:World} (h:Sat Δ w) (e:Δ=a0::a1::a2::a3::Γ):Sat (a0::a1::a2::a3::Γ) w:=e▸h
theorem Sat.n6 {a0 a1 a2 a3 a4 a5:Item} {Γ Δ:Ctx} {w:World} (h:Sat Δ w) (e:Δ=a0::a1::a2::a3::a4::a5::Γ):Sat (a0::a1::a2::a3::a4::a5::Γ) w:=e▸h
theorem Sat.n7 {a0 a1 a2 a3 a4 a5 a6:Item} {Γ Δ:Ctx} {w:World} (h:Sat Δ w) (e:Δ=a0::a1::a2::a3::a4::a5::a6::Γ):Sat (a0::a1::a2::a3::a4::a5::a6::Γ) w:=e▸h
theorem Sat.n9 {a0 a1 a2 a3 a4 a5 a6 a7 a8:Item} {Γ Δ:Ctx} {w:World} (h:Sat Δ w) (e:Δ=a0::a1::a2::a3::a4::a5::a6::a7::a8::Γ):Sat (a0::a1::a2::a3::a4::a5::a6::a7::a8::Γ) w:=e▸h
theorem Sat.n13 {a0 a1 a2 a3 a4 a5 a6 a7 a8 a9 a10 a11 a12:Item} {Γ Δ:Ctx} {w:World} (h:Sat Δ w) (e:Δ=a0::a1::a2::a3::a4::a5::a6::a7::a8::a9::a10::a11::a12::Γ):Sat (a0::a1::a2::a3::a4::a5::a6::a7::a8::a9::a10::a11::a12::Γ) w:=e▸h
theorem Sat.n28 {a0 a1 a2 a3 a4 a5 a6 a7 a8 a9 a10 a11 a12 a13 a14 a15 a16 a17 a18 a19 a20 a21 a22 a23 a24 a25 a26 a27:Item} {Γ Δ:Ctx} {w:World} (h:Sat Δ w) (e:Δ=a0::a1::a2::a3::a4::a5::a6::a7::a8::a9::a10::a11::a12::a13::a14::a15::a16::a17::a18::a19::a20::a21::a22::a23::a24::a25::a26::a27::Γ):Sat (a0::a1::a2::a3::a4::a5::a6::a7::a8::a9::a10::a11::a12::a13::a14::a15::a16::a17::a18::a19::a20::a21::a22::a23::a24::a25::a26::a27::Γ) w:=e▸h
end Go.Proofs.YtgcgmclghbebjaaGreat
namespace Go.Proofs.YtgcgmclghbebjaaGreat
theorem w64 {x:Int} (h: -9223372036854775808≤x∧x≤9223372036854775807):IntKind.i64.wrap x=x:=by
 rw [IntKind.wrap_i64];omega
theorem Nq {x:Int} (h:0≤x∧x≤4294967295):IntKind.u32.wrap x=x:=by rw [IntKind.wrap_u32];omega
theorem qx {x:Int} (h:0≤x∧x≤18446744073709551615):IntKind.u64.wrap x=x:=by rw [IntKind.wrap_u64];omega
def strOf (xs:List Int):Str:=xs.map fun n=>UInt8.ofNat n.toNat
section
variable {P : Program} {E : Env} {g : Bool} {w : World}
theorem ARd.ints {k:IntKind} {M:Nat→Prop} {cs:List Value} {xs:List Int} (h:ARd (RI k) M w cs xs):cs=xs.map (Value.int k):=by
 have hl:=h.1
 simp only [RI,Nat.mul_one] at hl
 apply List.ext_getElem (by simpa using hl)
 intro i h1 h2
 have hi:i<xs.length:=by omega
 have hr:=h.2 i hi
 simp only [RI,Nat.mul_one] at hr
 have:cs[i]=((cs.drop i).take 1)[0]'(by simp;omega):=by simp
 rw [this]
 simp only [hr,List.getElem_cons_zero,List.getElem_map]
theorem Tv {M:Nat→Prop} {v:Value} {xs:List Int} {src d e:TypeId} (hs:P.underlying src=some (.slice e)) (he:P.underlying e=some (.int .u8)) (hd:P.underlying d=some .string)
  (h:SRd (RI .u8) M w v xs):(convert src d v).run P w= .ok (S (strOf xs)) w:=by
 rcases h with ⟨⟨a,rfl⟩,rfl⟩ | ⟨b,off,cap,cs,e',fr,rfl,hM,hb,hc,ho,hr⟩
 ·cases a with
  | none=>exact run_convert_bytes_nil w src e hs he 0 0 d hd
  | some a=>
   rw [run_convert_bytes_string w src d e _ 0 0 hs he hd]
   simp [Conv.bytesToString,loadCells,loadCellsFrom,strOf,S]
   try rfl
 ·have hi:=hr.ints
  have hlen:=hr.1
  refine run_convert_bytes_arg w src e hs he b off xs.length cap xs rfl (fun i hi'=> ?_) d hd
  have h1:(List.take (xs.length*(RI IntKind.u8).n) (List.drop off cs.toList))[i]? =some (.int .u8 xs[i]):=by
   rw [hi];simp [hi']
  rw [List.getElem?_take] at h1
  split at h1
  ·rw [List.getElem?_drop] at h1
   simp only [World.cell?,hb]
   simpa [List.getD,hi'] using h1
  ·cases h1
theorem TR {M:Nat→Prop} {dst:Option Tmp} {ty:TypeId} {pos:String} {af:Array Edge} {gd:Option (Nat×Bool)} {x:Operand} {v:Value} {xs:List Int} {src d e:TypeId} (hs:P.underlying src=some (.slice e)) (he:P.underlying e=some (.int .u8)) (hd:P.underlying d=some .string)
  (hx:Opd E g x v) (h:g=true→SRd (RI .u8) M w v xs):Run P E g ⟨dst,.convert src d x,ty,pos,af,gd⟩ w (S (strOf xs)):=
 fun n a hf hg=>by simp [execOp,hx n a hf hg,Tv hs he hd (h hg)]
end
section
variable {P : Program} {E : Env} {w : World} {g : Bool}
variable {dst : Option Tmp} {ty : TypeId} {pos : String} {af : Array Edge} {gd : Option (Nat × Bool)}
/-! numbers -/
def ar (k:IntKind) (x y:Int):Int:=x/2^min y.toNat k.bits
def fT (k:IntKind) (x y:Int):Int:=k.wrap (x*2^min y.toNat k.bits)
theorem Up {x y:Operand} {k k':IntKind} {m l:Int} {t t':TypeId} (hx:Opd E g x (.int k m)) (hy:Opd E g y (.int k' l)) (h0:g=true→decide (0≤l)=true):
  Run P E g ⟨dst,.binOp .shr t x y t',ty,pos,af,gd⟩ w (.int k (ar k m l)):=fun n a hf hg=>
 bw (P:=P) hx hy (by
  rw [Sem.run_bind,cp rfl,Result.andThen_ok]
  show (Op.shift .shr k m k' l).run P w=_
  rw [shift_shr_any k k' m l (of_decide_eq_true (h0 hg))];rfl) n a hf hg
theorem SM {x y:Operand} {k k':IntKind} {m l:Int} {t t':TypeId} (hx:Opd E g x (.int k m)) (hy:Opd E g y (.int k' l)) (h0:g=true→decide (0≤l)=true):
  Run P E g ⟨dst,.binOp .shl t x y t',ty,pos,af,gd⟩ w (.int k (fT k m l)):=fun n a hf hg=>
 bw (P:=P) hx hy (by
  rw [Sem.run_bind,cp rfl,Result.andThen_ok]
  show (Op.shift .shl k m k' l).run P w=_
  rw [shift_shl_any k k' m l (of_decide_eq_true (h0 hg))];rfl) n a hf hg
def gC (k:IntKind) (x y:Int):Int:=k.wrap ((BitVec.ofInt k.bits x &&& BitVec.ofInt k.bits y).toNat:Nat)
def orI (k:IntKind) (x y:Int):Int:=k.wrap ((BitVec.ofInt k.bits x ||| BitVec.ofInt k.bits y).toNat:Nat)
def gM (k:IntKind) (x y:Int):Int:=k.wrap ((BitVec.ofInt k.bits x ^^^ BitVec.ofInt k.bits y).toNat:Nat)
def KH (k:IntKind) (x y:Int):Int:=k.wrap ((BitVec.ofInt k.bits x &&& ~~~ BitVec.ofInt k.bits y).toNat:Nat)
theorem Ru {x y:Operand} {k:IntKind} {m l:Int} {t t':TypeId} (hx:Opd E g x (.int k m)) (hy:Opd E g y (.int k l)):
  Run P E g ⟨dst,.binOp .and t x y t',ty,pos,af,gd⟩ w (.int k (gC k m l)):=tT (.inl rfl) hx hy (fun _=>rfl)
theorem UA {x y:Operand} {k:IntKind} {m l:Int} {t t':TypeId} (hx:Opd E g x (.int k m)) (hy:Opd E g y (.int k l)):
  Run P E g ⟨dst,.binOp .or t x y t',ty,pos,af,gd⟩ w (.int k (orI k m l)):=tT (.inr (.inl rfl)) hx hy (fun _=>rfl)
theorem QV {x y:Operand} {k:IntKind} {m l:Int} {t t':TypeId} (hx:Opd E g x (.int k m)) (hy:Opd E g y (.int k l)):
  Run P E g ⟨dst,.binOp .xor t x y t',ty,pos,af,gd⟩ w (.int k (gM k m l)):=tT (.inr (.inr (.inl rfl))) hx hy (fun _=>rfl)
theorem JP {x y:Operand} {k:IntKind} {m l:Int} {t t':TypeId} (hx:Opd E g x (.int k m)) (hy:Opd E g y (.int k l)):
  Run P E g ⟨dst,.binOp .andNot t x y t',ty,pos,af,gd⟩ w (.int k (KH k m l)):=tT (.inr (.inr (.inr rfl))) hx hy (fun _=>rfl)
/-! strings -/
def ltS (x y:Str):Bool:=Op.bytesLess x y
theorem TO {x y:Operand} {m l:Str} {t t':TypeId} (hx:Opd E g x (S m)) (hy:Opd E g y (S l)):
  Run P E g ⟨dst,.binOp .lss t x y t',ty,pos,af,gd⟩ w (.bool (ltS m l)):=bw hx hy (by simp [eqGuard,S,binOp,Op.stringOp,ltS])
theorem Us {x y:Operand} {m l:Str} {t t':TypeId} (hx:Opd E g x (S m)) (hy:Opd E g y (S l)):
  Run P E g ⟨dst,.binOp .leq t x y t',ty,pos,af,gd⟩ w (.bool (ltS m l||m==l)):=bw hx hy (by simp [eqGuard,S,binOp,Op.stringOp,ltS])
theorem Uy {x y:Operand} {m l:Str} {t t':TypeId} (hx:Opd E g x (S m)) (hy:Opd E g y (S l)):
  Run P E g ⟨dst,.binOp .gtr t x y t',ty,pos,af,gd⟩ w (.bool (!(ltS m l||m==l))):=bw hx hy (by simp [eqGuard,S,binOp,Op.stringOp,ltS])
theorem T8 {x y:Operand} {m l:Str} {t t':TypeId} (hx:Opd E g x (S m)) (hy:Opd E g y (S l)):
  Run P E g ⟨dst,.binOp .geq t x y t',ty,pos,af,gd⟩ w (.bool (!(ltS m l))):=bw hx hy (by simp [eqGuard,S,binOp,Op.stringOp,ltS])
/-! nil -/
def mQ:Value→Bool
 | .slice none _ _=>true
 | _=>false
theorem Kf {x y:Operand} {v:Value} {t t' e:TypeId} {len:Nat} (ht:P.underlying t=some (.slice e)) (hx:Opd E g x v) (hl:Len v len) (hy:Opd E g y (.slice none 0 0)):
  Run P E g ⟨dst,.binOp .eql t x y t',ty,pos,af,gd⟩ w (.bool (mQ v)):=by
 obtain ⟨a,cap,rfl⟩:=hl
 exact bw hx hy (by cases a <;> simp [eqGuard,binOp,run_equal_slice_nil w t e _ _ _ ht,mQ])
theorem JN {x y:Operand} {v:Value} {t t' e:TypeId} {len:Nat} (ht:P.underlying t=some (.slice e)) (hx:Opd E g x v) (hl:Len v len) (hy:Opd E g y (.slice none 0 0)):
  Run P E g ⟨dst,.binOp .neq t x y t',ty,pos,af,gd⟩ w (.bool (!mQ v)):=by
 obtain ⟨a,cap,rfl⟩:=hl
 exact bw hx hy (by cases a <;> simp [eqGuard,binOp,run_equal_slice_nil w t e _ _ _ ht,mQ])
theorem SRd.mQ {α:Type} {A:Rep α} {M:Nat→Prop} {v:Value} {xs:List α} (h:SRd A M w v xs) (hn:mQ v=true):v= .slice none 0 0∧xs=[]:=by
 rcases h with ⟨⟨a,rfl⟩,rfl⟩ | ⟨b,off,cap,cs,e,fr,rfl,_⟩
 ·cases a with
  | none=>exact ⟨rfl,rfl⟩
  | some a=>cases hn
 ·cases hn
end
/-! bytes of a string -/
def bytesOf (l:Str):List Int:=l.map fun b=>(b.toNat:Int)
theorem zJ {w:World} {M:Nat→Prop}: ∀ l:Str,ARd (RI .u8) M w (l.map fun b=>Value.int .u8 (b.toNat:Int)) (bytesOf l)
 | []=>ARd.nil
 | b::l=>ARd.cons (A:=RI .u8) (c:=[Value.int .u8 (b.toNat:Int)]) rfl (zJ l)
section
variable {P : Program} {E : Env} {w : World} {dst : Option Tmp} {ty : TypeId} {pos : String} {af : Array Edge}
theorem Rs {x:Operand} {l:Str} {src dt e:TypeId} (hs:P.underlying src=some .string) (hd:P.underlying dt=some (.slice e)) (he:P.underlying e=some (.int .u8)) (hx:Opd E true x (S l)):
  ∃ v' w',j4 P E ⟨dst,.convert src dt x,ty,pos,af,none⟩ w v' w'∧Ext w w'∧w.heap.size<w'.heap.size∧(∀ M:Nat→Prop,¬ M w.heap.size→SRd (RI .u8) M w' v' (bytesOf l)):=by
 have hrun:=run_bytes_of_string (P:=P) w src dt e ⟨l.toArray⟩ hs hd he
 have hheap:(w.drew.alloc (.cells (bytesRow ⟨l.toArray⟩ (grownCap w l.length 0 e)) e ((bytesRow ⟨l.toArray⟩ (grownCap w l.length 0 e)).size,(bytesRow ⟨l.toArray⟩ (grownCap w l.length 0 e)).size+1))).heap[w.heap.size]? =some (.cells (bytesRow ⟨l.toArray⟩ (grownCap w l.length 0 e)) e ((bytesRow ⟨l.toArray⟩ (grownCap w l.length 0 e)).size,(bytesRow ⟨l.toArray⟩ (grownCap w l.length 0 e)).size+1)):=by
  show (w.heap.push _)[w.heap.size]? =_
  simp
 have hE:=cQ w.drew (.cells (bytesRow ⟨l.toArray⟩ (grownCap w l.length 0 e)) e ((bytesRow ⟨l.toArray⟩ (grownCap w l.length 0 e)).size,(bytesRow ⟨l.toArray⟩ (grownCap w l.length 0 e)).size+1))
 have hlt:=(Array.getElem?_eq_some_iff.1 hheap).1
 refine ⟨.slice (some ⟨w.heap.size,0,none⟩) l.length (grownCap w l.length 0 e),_,?_,⟨hE.os,hE.tape,hE.output,hE.size,hE.block⟩,hlt,fun M hM=> ?_⟩
 ·intro n a hf
  rw [iS] at hrun
  simp only [execOp,hx n a hf rfl]
  simp [S,hrun]
 ·have hcap:l.length≤grownCap w l.length 0 e:=grownCap_ge w l.length 0 e
  have hlen:(bytesOf l).length=l.length:=by simp [bytesOf]
  refine .inr ⟨w.heap.size,0,grownCap w l.length 0 e,bytesRow ⟨l.toArray⟩ (grownCap w l.length 0 e),e,_,by rw [hlen],hM,hheap,by rw [hlen];exact hcap,?_,?_⟩
  ·simp [bytesRow,RI,iS];omega
  ·have:((bytesRow ⟨l.toArray⟩ (grownCap w l.length 0 e)).toList.drop 0).take ((bytesOf l).length*(RI .u8).n)=l.map fun b=>Value.int .u8 (b.toNat:Int):=by
    simp [bytesRow,bytesOf,RI]
   rw [this]
   exact zJ l
end
/-! ### the rules -/
section
variable {P : Program} {ρ : Option Nat} {Q : aI} {n : Nat} {D : List Deferred} {E : Env} {w : World} {ops : Array Oper} {rest : List Oper} {Γ : Ctx} {i : Nat}
variable {d : Tmp} {ty : TypeId} {pos : String} {af : Array Edge}
theorem WS_storeEl {α:Type} {A:Rep α} {t e:TypeId} {x y:Operand} {j:Int} {k:Nat} {sv v:Value} {xs:List α} {R:List Nat} {u u0:α} {vs us vs':List Value} {size bytes:Nat} {z:Value} (hs:Sat Γ w) (i:Nat) (hi:Γ[i]? =some (osl A e sv xs R)) (hti:TI P t size bytes z)
  (hj:idx xs j=some u0) (hx:Opd E true x (.pointer (some ((elA sv j A.n).add k)))) (hy:Opd E true y v) (hv:v.cells=us.toArray) (hsz:us.length=size) (h1c:us.all Value.oneCell'=true)
  (hC:aM w (elA sv j A.n) vs) (hvl:vs.length=A.n) (hkl:Nat.ble (k+us.length) vs.length=true) (hvs:j2 vs k us=vs') (hu:A.rd Γ.M w vs' u)
  (h: ∀ w',Sat (Γ.set i (osl A e sv (xs.set j.toNat u) R)) w'→WL P ρ ops Q n D rest E w'):
  WL P ρ ops Q n D (⟨none,.store t x y,ty,pos,af,none⟩::rest) E w:=by
 have ho:=hs.own hi
 obtain ⟨hO,rfl⟩:=ho.osl hj
 obtain ⟨w',hr,hCh,hsz',hP⟩:=qG (P:=P) (E:=E) (w:=w) (dst:=none) (ty:=ty) (pos:=pos) (af:=af) hti hx hy hv hsz h1c (ho.atA hj).1 hO hC hvl hkl hvs hu (fun b hb=>Ctx.gA hi hb)
 exact Vr hr rfl rfl rfl (h _ (hs.upd hi hCh (fun c hc=>⟨by rw [hsz'];exact ho.lt c hc,.inl hc⟩) (fun M' m _=>Own.of (hP M' m))))
/-! ranges over strings -/
def It (l:Str) (pos:Nat):Int:=((Utf8.decode ⟨l.toArray⟩ pos).1:Nat)
def nN (l:Str) (pos:Nat):Nat:=pos+(Utf8.decode ⟨l.toArray⟩ pos).2
end
end Go.Proofs.YtgcgmclghbebjaaGreat
namespace Go.Proofs.YtgcgmclghbebjaaGreat
def AtP (Q:aI) (c:List PanicEntry) (D:List Deferred) (w:World):Prop:= ∀ a,a.defers=D→Q (.panic c) a w
def QN (Q:aI):aI:=fun e a w=>match e with | .panic c=>AtP Q c a.defers w | e=>Q e a w
theorem Ut {Q:aI} {i:Nat} {c:List PanicEntry} {D:List Deferred} {w:World} (h:AtP Q c D w):AtP (Exit.inBlock i Q) c D w:=h
theorem AtP.at {Q:aI} {c:List PanicEntry} {D:List Deferred} {w:World} {n:Nat} {E:Env} (h:AtP Q c D w):At Q (.panic c) n D E w:=fun a _ hd=>h a hd
theorem fD (a:Act) (d:Option Tmp) (v:Value):(a.put d v).defers=a.defers:=by cases d <;> rfl
section
variable {P : Program} {ρ : Option Nat} {ops : Array Oper} {md : Region.Mode}
def YJ (P:Program) (ops:Array Oper) (J:World→Prop) (o:Oper) (v:Value) (a:Act):Prop:=
 (Region.wanted o (yielded ops a.tmps)=true∧ ∀ w,J w→(execOp a.eval o).run P w= .ok (.value v) w)∨
 (Region.wanted o (yielded ops a.tmps)=false∧v=undef)
theorem YJ.wpOp {J:World→Prop} {i:Nat} {o:Oper} {v:Value} {a:Act} {Q:aI} (hi:ops[i]? =some o) (hp:eO o=true) (hy:YJ P ops J o v a)
  {K:Act→World→Prop} {w:World} (hJ:J w) (h:K (a.put o.dst v) w):wpOpIn (FW ρ) 0 P ops Q i K a w:=by
 unfold Go.wpOpIn
 simp only [hi]
 rcases hy with ⟨hw,hv⟩ | ⟨hw,rfl⟩
 ·simp only [hw,if_true];exact fP hp (by rw [hv w hJ];exact h)
 ·simp only [hw,Bool.false_eq_true,if_false];exact ⟨fun _ _=>trivial,h⟩
theorem YJ.of_same {J:World→Prop} {o:Oper} {v:Value} {a a':Act} (hy:YJ P ops J o v a) (he:execOp a'.eval o=execOp a.eval o)
  (hw:Region.wanted o (yielded ops a'.tmps)=Region.wanted o (yielded ops a.tmps)):YJ P ops J o v a':=by
 unfold YJ at*
 rw [he,hw]
 exact hy
theorem Ph {J:World→Prop} {j:Nat} {oi oj:Oper} {v:Value} {Q:aI} (hj:ops[j]? =some oj) (hpj:eO oj=true) (hap:oi.apart ops oj=true)
  (hsi: ∀ cs b,oi.op≠ .select cs b) (hsj: ∀ cs b,oj.op≠ .select cs b) (hQ: ∀ c a w,Q (.panic c) (a.put oi.dst v) w→Q (.panic c) a w) {K:Act→World→Prop} {a:Act} {w:World}
  (hy:YJ P ops J oi v a) (h:wpOpIn (FW ρ) 0 P ops Q j K (a.put oi.dst v) w):
  wpOpIn (FW ρ) 0 P ops Q j (fun a' w'=>YJ P ops J oi v a'∧K (a'.put oi.dst v) w') a w:=by
 obtain ⟨h1,h2,h3⟩:=Oper.apart_spec hap
 have bm: ∀ (a:Act),YJ P ops J oi v a→ ∀ u,YJ P ops J oi v (a.put oj.dst u):=fun a hy u=>
  hy.of_same (execOp_put oi hsi a oj.dst u h3) (wanted_put oi a oj.dst u h3)
 have keepD: ∀ d,YJ P ops J oi v { a with defers:=d::a.defers }:=fun d=>hy.of_same rfl rfl
 unfold wpOpIn at*
 simp only [hj] at*
 rw [wanted_put oj a oi.dst v h1] at h
 split
 ·rename_i hw
  simp only [hw,if_true] at h
  refine fP hpj ?_
  have h:=h.2
  rw [show (FW ρ).round=ρ from rfl,xJ hpj,execOp_put oj hsj a oi.dst v h1] at h
  generalize (execOp a.eval oj).run P w=r at*
  cases r with
  | ok n w'=>
   cases n <;> simp only [Oper.uponIn] at h ⊢
   case value u=>exact ⟨bm a hy u,by rw [← Act.put_comm a v u h2];exact h⟩
   case skip=>exact ⟨bm a hy _,by rw [← Act.put_comm a v undef h2];exact h⟩
   case defer d=>
    refine ⟨bm _ (keepD d) _,?_⟩
    rw [← Act.put_comm _ v undef h2,← Act.put_defers]
    exact h
   case enter f args=>
    refine ⟨h.1,CallsIn.mono h.2 fun e w'' he=> ?_⟩
    cases e with
    | returned u=>exact ⟨bm a hy u,by rw [← Act.put_comm a v u h2];exact he⟩
    | panicked c=>exact hQ _ _ _ he
    | outgrown=>exact he
   case row row args=>exact ⟨h.1,RowsIn.mono h.2 fun u w'' he=>⟨bm a hy u,by rw [← Act.put_comm a v u h2];exact he⟩⟩
   case round l f tmps assign body=>
    refine ⟨h.1,RoundIn.mono h.2 fun e w'' he=> ?_⟩
    cases e with
    | returned u=>exact ⟨bm a hy u,by rw [← Act.put_comm a v u h2];exact he⟩
    | panicked c=>exact hQ _ _ _ he
    | outgrown=>exact he
  | halt x w'=>
   cases x <;> simp only [Oper.uponIn] at h ⊢
   case panic u=>exact hQ _ _ _ h
 ·rename_i hw
  simp only [hw] at h
  exact ⟨fun _ _=>trivial,bm a hy _,by rw [← Act.put_comm a v undef h2];exact h.2⟩
def waits (md:Region.Mode) (ops:Array Oper) (k i:Nat):Bool:=match ops[k]? with
 | some o=>o.after.any fun e=>Region.binds md e&&e.on==i
 | none=>false
abbrev cM:=List (Nat×(World→Prop))
def eC:cM→World→Prop
 | [],_=>True
 | p::l,w=>p.2 w∧eC l w
def still (md:Region.Mode) (ops:Array Oper) (k:Nat) (l:cM):cM:=l.filter fun p=> !waits md ops k p.1
theorem Is {w:World}:eC [] w:=trivial
theorem js {f:Nat×(World→Prop)→Bool} {w:World}: ∀ {l:cM},eC l w→eC (l.filter f) w
 | [],_=>trivial
 | p::l,h=>by
  rw [List.filter_cons]
  split
  ·exact ⟨h.1,js h.2⟩
  ·exact js h.2
def wpP (P:Program) (ρ:Option Nat) (md:Region.Mode) (ops:Array Oper) (Q:aI):Nat→cM→Array Bool→Act→World→Prop
 | 0,pend,listed,a,w=>eC pend w∧Region.ready md ops listed=[]∧Q .normal a w
 | fuel+1,pend,listed,a,w=>eC pend w∧(Region.ready md ops listed=[]→Q .normal a w)∧
  ∀ i∈Region.ready md ops listed,wpOpIn (FW ρ) 0 P ops Q i (wpP P ρ md ops Q fuel (still md ops i pend) (listed.setIfInBounds i true)) a w
theorem Hg {Q:aI} (p:Nat×(World→Prop)): ∀ (fuel:Nat) (pend:cM) (listed:Array Bool) (a:Act) (w:World),wpP P ρ md ops Q fuel (p::pend) listed a w→wpP P ρ md ops Q fuel pend listed a w
 | 0,_,_,_,_,h=>⟨h.1.2,h.2⟩
 | fuel+1,pend,listed,a,w,h=>⟨h.1.2,h.2.1,fun i hi=>wpOpIn_mono (fun a' w' h'=>by
   unfold still at h'
   rw [List.filter_cons] at h'
   split at h'
   ·exact Hg p fuel _ _ _ _ h'
   ·exact h') (h.2.2 i hi)⟩
theorem La {Q:aI}: ∀ (fuel:Nat) (pend:cM) (listed:Array Bool) (a:Act) (w:World),wpP P ρ md ops Q fuel pend listed a w→wpAnyIn (FW ρ) 0 P md ops Q fuel listed a w
 | 0,_,_,_,_,h=>h.2
 | fuel+1,_,_,_,_,h=>⟨h.2.1,fun i hi=>wpOpIn_mono (fun _a' _w' h'=>La fuel _ _ _ _ h') (h.2.2 i hi)⟩
theorem JU {k i:Nat} {o:Oper} (hk:ops[k]? =some o) (h: ∀ e∈o.after,Region.binds md e=true→e.on≠i):waits md ops k i=false:=by
 unfold waits
 simp only [hk]
 rw [Bool.eq_false_iff]
 intro ht
 obtain ⟨e,he,hb⟩:=Array.any_eq_true'.1 ht
 simp only [Bool.and_eq_true,beq_iff_eq] at hb
 exact h e he hb.1 hb.2
theorem On {Q:aI} {J:World→Prop} {i:Nat} {oi:Oper} {v:Value} (hi:ops[i]? =some oi) (hsel: ∀ (j:Nat) (o:Oper) cs b,ops[j]? =some o→o.op≠ .select cs b)
  (hQ: ∀ c (a:Act) d v w,Q (.panic c) (a.put d v) w→Q (.panic c) a w) (hpl: ∀ (j:Nat) (o:Oper),ops[j]? =some o→eO o=true):
  ∀ (fuel:Nat) (pend:cM) (listed:Array Bool) (a:Act) (w:World),
   (∀ j oj,ops[j]? =some oj→j≠i→listed.getD j true=false→(∀ e∈oj.after,Region.binds md e=true→e.on≠i)→oi.apart ops oj=true)→
   i∈Region.ready md ops listed→YJ P ops J oi v a→
   wpP P ρ md ops Q fuel ((i,J)::pend) (listed.setIfInBounds i true) (a.put oi.dst v) w→wpP P ρ md ops Q (fuel+1) pend listed a w:=by
 intro fuel
 induction fuel with
 | zero=>
  intro pend listed a w _ hr hy H
  refine ⟨H.1.2,fun h=>(by rw [h] at hr;cases hr),fun j hj=> ?_⟩
  by_cases hji:j=i
  ·subst hji;exact hy.wpOp hi (hpl _ _ hi) H.1.1 ⟨js H.1.2,H.2⟩
  ·have:=ready_mono hj hji
   rw [H.2.1] at this
   cases this
 | succ fuel ih=>
  intro pend listed a w hfree hr hy H
  refine ⟨H.1.2,fun h=>(by rw [h] at hr;cases hr),fun j hj=> ?_⟩
  by_cases hji:j=i
  ·subst hji
   refine hy.wpOp hi (hpl _ _ hi) H.1.1 ?_
   have H':=Hg _ _ _ _ _ _ H
   -- fewer promises
   have key: ∀ (fuel:Nat) (pend:cM) (f:Nat×(World→Prop)→Bool) (listed:Array Bool) (a:Act) (w:World),wpP P ρ md ops Q fuel pend listed a w→wpP P ρ md ops Q fuel (pend.filter f) listed a w:=by
    intro fuel
    induction fuel with
    | zero=>intro pend f listed a w h;exact ⟨js h.1,h.2⟩
    | succ fuel ih2=>
     intro pend f listed a w h
     refine ⟨js h.1,h.2.1,fun i hi=>wpOpIn_mono (fun a' w' h'=> ?_) (h.2.2 i hi)⟩
     have:still md ops i (pend.filter f)=(still md ops i pend).filter f:=by
      unfold still;rw [List.filter_filter,List.filter_filter];congr 1;funext p;exact Bool.and_comm ..
     rw [this]
     exact ih2 _ f _ _ _ h'
   exact key _ _ _ _ _ _ H'
  ·have h1:=H.2.2 j (ready_mono hj hji)
   obtain ⟨hjun,oj,hoj,hall⟩:=mem_ready.1 hj
   have hnot: ∀ e∈oj.after,Region.binds md e=true→e.on≠i:=fun e he hb heq=>by
    have h1:=hall e he hb
    have h0:=(mem_ready.1 hr).1
    rw [heq] at h1
    rcases Nat.lt_or_ge i listed.size with h' | h'
    ·simp [h'] at h0 h1;rw [h0] at h1;cases h1
    ·simp [Array.getElem?_eq_none h'] at h1
   have h2:=Ph hoj (hpl _ _ hoj) (hfree j oj hoj hji hjun hnot) (fun cs b=>hsel i oi cs b hi) (fun cs b=>hsel j oj cs b hoj) (fun c a w=>hQ c a _ _ w) hy h1
   have hfree': ∀ k ok,ops[k]? =some ok→k≠i→(listed.setIfInBounds j true).getD k true=false→
     (∀ e∈ok.after,Region.binds md e=true→e.on≠i)→oi.apart ops ok=true:=fun k ok hk hki hun hno=>by
    refine hfree k ok hk hki ?_ hno
    by_cases hjk:j=k
    ·subst hjk;exact hjun
    ·rw [getD_set_ne true hjk] at hun;exact hun
   refine wpOpIn_mono (fun a' w' h3=>ih _ (listed.setIfInBounds j true) a' w' hfree' (ready_mono hr (Ne.symm hji)) h3.1 ?_) h2
   rw [Array.setIfInBounds_comm _ _ hji]
   have e:still md ops j ((i,J)::pend)=(i,J)::still md ops j pend:=by
    unfold still;rw [List.filter_cons,JU hoj hnot];rfl
   rw [e] at h3
   exact h3.2
inductive OT where
 | nil
 | q (k m:Nat) (r:OT)
 | l (k m:Nat) (r:OT)
 | l2 (m:Nat) (k₁:Nat) (r₁:OT) (k₂:Nat) (r₂:OT)
 /-- k changes the world and takes the floats fs; the floats fl (new blocks) may run here, ahead of it, in whatever order -/
 | f (k m:Nat) (fl fs:List Nat) (r:OT)
def fS:List Edge→Nat
 | []=>0
 | e::l=>bif Region.binds .any e then Nat.lor (Nat.shiftLeft 1 e.on) (fS l) else fS l
theorem nL: ∀ (l:List Edge) (i:Nat),(fS l).testBit i=l.any (fun e=>Region.binds .any e&&e.on==i)
 | [],i=>by simp [fS]
 | e::l,i=>by
  simp only [fS,List.any_cons]
  cases h:Region.binds .any e
  ·simp [nL l i]
  ·have h1:(Nat.lor (Nat.shiftLeft 1 e.on) (fS l)).testBit i=((1 <<< e.on) ||| fS l).testBit i:=rfl
   rw [cond_true,h1,Nat.testBit_or,nL l i,Nat.testBit_shiftLeft]
   simp only [Bool.true_and]
   congr 1
   by_cases hi:e.on=i
   ·subst hi;simp
   ·have h2:(e.on==i)=false:=by simpa using hi
    rw [h2]
    by_cases h3:e.on≤i
    ·obtain ⟨n,hn⟩: ∃ n,i-e.on=n+1:=⟨i-e.on-1,by omega⟩
     rw [hn];simp [Nat.testBit_succ]
    ·simp [h3]
def xG (a m:Nat):Bool:=Nat.beq (Nat.land a m) a
theorem pn {a m:Nat}:xG a m=true↔ ∀ i,a.testBit i=true→m.testBit i=true:=by
 unfold xG
 constructor
 ·intro h i hi
  have h1:a &&& m=a:=Nat.eq_of_beq_eq_true h
  have h2:(a &&& m).testBit i=true:=by rw [h1];exact hi
  rw [Nat.testBit_and] at h2
  simp only [Bool.and_eq_true] at h2
  exact h2.2
 ·intro h
  have h1:a &&& m=a:=by
   apply Nat.eq_of_testBit_eq
   intro i
   rw [Nat.testBit_and]
   cases hi:a.testBit i
   ·rfl
   ·rw [h i hi];rfl
  show Nat.beq (a &&& m) a=true
  rw [h1];simp
def tV:List Nat→Nat→Nat→List Nat→Bool
 | [],_,_,_=>true
 | a::as,j,m,ks=>(Nat.testBit m j|| !(xG a m)||ks.any (Nat.beq j))&&tV as (j+1) m ks
theorem De: ∀ (l:List Nat) (j0 m:Nat) (ks:List Nat),tV l j0 m ks=true→ ∀ j a,l[j]? =some a→m.testBit (j0+j)=false→xG a m=true→(j0+j)∈ks
 | [],_,_,_,_,j,a,h,_,_=>by simp at h
 | a0::as,j0,m,ks,hB,j,a,h,h1,h2=>by
  simp only [tV,Bool.and_eq_true,Bool.or_eq_true,Bool.not_eq_true',List.any_eq_true] at hB
  cases j with
  | zero=>
   simp only [List.getElem?_cons_zero,Option.some.injEq] at h
   subst h
   rcases hB.1 with (h3 | h3) | ⟨x,hx,h3⟩
   ·rw [Nat.add_zero] at h1;rw [h1] at h3;cases h3
   ·rw [h2] at h3;cases h3
   ·have:=Nat.eq_of_beq_eq_true h3;rw [Nat.add_zero,this];exact hx
  | succ j=>
   simp only [List.getElem?_cons_succ] at h
   have:=De as (j0+1) m ks hB.2 j a h (by rw [← h1];congr 1;omega) h2
   have e:j0+1+j=j0+(j+1):=by omega
   rwa [e] at this
def pL (masks:List Nat) (k m:Nat):Bool:=match masks[k]? with
 | some a=> !(Nat.testBit m k)&&xG a m
 | none=>false
def bit (m k:Nat):Nat:=Nat.lor m (Nat.shiftLeft 1 k)
theorem rB (m k i:Nat):(bit m k).testBit i=(m.testBit i||k==i):=by
 have h1:(bit m k).testBit i=(m ||| (1 <<< k)).testBit i:=rfl
 rw [h1,Nat.testBit_or,Nat.testBit_shiftLeft]
 congr 1
 by_cases hi:k=i
 ·subst hi;simp
 ·have h2:(k==i)=false:=by simpa using hi
  rw [h2]
  by_cases h3:k≤i
  ·obtain ⟨n,hn⟩: ∃ n,i-k=n+1:=⟨i-k-1,by omega⟩
   rw [hn];simp [Nat.testBit_succ]
  ·simp [h3]
def bO (f:Nat):List Nat→Bool
 | []=>false
 | x::l=>Nat.beq x f||bO f l
theorem bN {f:Nat}: ∀ {l:List Nat},bO f l=true↔f∈l
 | []=>by simp [bO]
 | x::l=>by
  simp only [bO,Bool.or_eq_true,List.mem_cons,bN (l:=l)]
  constructor
  ·rintro (h | h)
   ·exact .inl (Nat.eq_of_beq_eq_true h).symm
   ·exact .inr h
  ·rintro (h | h)
   ·exact .inl (by rw [h];simp)
   ·exact .inr h
def fQ (m:Nat):List Nat→Nat
 | []=>m
 | f::l=>bit (fQ m l) f
theorem cE {m i:Nat}: ∀ {l:List Nat},(fQ m l).testBit i=(m.testBit i||bO i l)
 | []=>by simp [fQ,bO]
 | f::l=>by
  have e:(f==i)=Nat.beq f i:=by
   rw [Bool.eq_iff_iff,beq_iff_eq]
   exact ⟨fun h=>by rw [h];simp,Nat.eq_of_beq_eq_true⟩
  rw [fQ,rB,cE (l:=l),bO,e]
  cases m.testBit i <;> cases Nat.beq f i <;> cases bO i l <;> rfl
def hasB (masks:List Nat) (k f:Nat):Bool:=match masks[k]? with
 | some a=>a.testBit f
 | none=>false
def mR (masks:List Nat):OT→List Nat→Nat→Bool
 | .nil,pf,m=>pf.isEmpty&&tV masks 0 m []
 | .q k m' r,pf,m=>Nat.beq m' m&&pL masks k m'&& !(bO k pf)&&mR masks r pf (bit m' k)
 | .l k m' r,pf,m=>pf.isEmpty&&Nat.beq m' m&&pL masks k m'&&tV masks 0 m' [k]&&mR masks r [] (bit m' k)
 | .l2 m' k₁ r₁ k₂ r₂,pf,m=>pf.isEmpty&&Nat.beq m' m&&pL masks k₁ m'&&pL masks k₂ m'&&tV masks 0 m' [k₁,k₂]&&mR masks r₁ [] (bit m' k₁)&&mR masks r₂ [] (bit m' k₂)
 | .f k m' fl fs r,pf,m=>Nat.beq m' m&&pf.all (fun f=>bO f fl)&&fl.all (fun f=>pL masks f m')&&fs.all (fun f=>bO f fl&&hasB masks k f)&& !(bO k fl)&&pL masks k (fQ m' fs)&&tV masks 0 (fQ m' fl) [k]&&
  mR masks r (fl.filter fun f=> !(bO f fs)) (bit (fQ m' fs) k)
def LM (n:Nat) (listed:Array Bool) (m:Nat):Prop:=listed.size=n∧ ∀ i,i<n→listed.getD i true=m.testBit i
theorem LM.set {n k m:Nat} {listed:Array Bool} (h:LM n listed m):LM n (listed.setIfInBounds k true) (bit m k):=by
 refine ⟨by simp [h.1],fun i hi=> ?_⟩
 rw [rB]
 by_cases e:k=i
 ·subst e
  simp [Array.getD_eq_getD_getElem?,h.1,hi]
 ·have h1:(k==i)=false:=by simpa using e
  have h2:=h.2 i hi
  rw [h1,Bool.or_false,← h2]
  simp [Array.getD_eq_getD_getElem?,e]
theorem LM.getD {n m i:Nat} {listed:Array Bool} (h:LM n listed m) (b:Bool) (hi:i<n):listed.getD i b=m.testBit i:=by
 rw [← h.2 i hi]
 have:i<listed.size:=by rw [h.1];exact hi
 simp [Array.getD,this]
def Du (ops:List Oper) (masks:List Nat):Bool:=match ops,masks with
 | [],[]=>true
 | o::ops,a::as=>Nat.beq (fS o.after.toList) a&&Du ops as
 | _,_=>false
theorem Bi: ∀ (ops:List Oper) (masks:List Nat),Du ops masks=true→masks=ops.map fun o=>fS o.after.toList
 | [],[],_=>rfl
 | o::ops,a::as,h=>by
  simp only [Du,Bool.and_eq_true] at h
  rw [List.map_cons,← Nat.eq_of_beq_eq_true h.1,← Bi ops as h.2]
 | [],_::_,h=>by cases h
 | _::_,[],h=>by cases h
def HG (n:Nat) (ops:List Oper):Bool:=ops.all fun o=>o.after.toList.all fun e=> !Region.binds .any e||Nat.blt e.on n
section
variable {ops : Array Oper} {masks : List Nat}
theorem tr (hm:masks=ops.toList.map fun o=>fS o.after.toList) (he:HG ops.size ops.toList=true) {listed:Array Bool} {m j:Nat} (hL:LM ops.size listed m):
  j∈Region.ready .any ops listed↔ ∃ a,masks[j]? =some a∧m.testBit j=false∧xG a m=true:=by
 rw [mem_ready]
 have hedge: ∀ {o:Oper} {e:Edge},o∈ops.toList→e∈o.after→Region.binds .any e=true→e.on<ops.size:=fun {o e} ho hin hb=>by
  have h1:=List.all_eq_true.1 he o ho
  have h2:=List.all_eq_true.1 h1 e (by simpa using hin)
  rw [hb] at h2
  simpa using h2
 constructor
 ·rintro ⟨h1,oj,hoj,h2⟩
  have hlt:j<ops.size:=(Array.getElem?_eq_some_iff.1 hoj).1
  refine ⟨fS oj.after.toList,by rw [hm,List.getElem?_map];simp [hoj],by rw [← hL.2 j hlt];exact h1,?_⟩
  rw [pn]
  intro i hi
  rw [nL,List.any_eq_true] at hi
  obtain ⟨e,hin,hb⟩:=hi
  simp only [Bool.and_eq_true,beq_iff_eq] at hb
  have hin':e∈oj.after:=by simpa using hin
  have hmem:oj∈ops.toList:=by simpa using Array.mem_of_getElem? hoj
  have:=h2 e hin' hb.1
  rw [hL.getD false (hedge hmem hin' hb.1),hb.2] at this
  exact this
 ·rintro ⟨a,ha,h1,h2⟩
  rw [hm,List.getElem?_map] at ha
  cases ho:ops.toList[j]? with
  | none=>rw [ho] at ha;cases ha
  | some oj=>
   rw [ho] at ha
   simp only [Option.map_some,Option.some.injEq] at ha
   have hoj:ops[j]? =some oj:=by simpa using ho
   have hlt:j<ops.size:=(Array.getElem?_eq_some_iff.1 hoj).1
   refine ⟨by rw [hL.2 j hlt];exact h1,oj,hoj,fun e hin hb=> ?_⟩
   have hmem:oj∈ops.toList:=List.mem_of_getElem? ho
   rw [hL.getD false (hedge hmem hin hb)]
   rw [pn] at h2
   refine h2 _ ?_
   rw [← ha,nL,List.any_eq_true]
   exact ⟨e,by simpa using hin,by simp [hb]⟩
end
def Aa (t:Tmp) (o:Oper):Bool:=match o.dst with
 | some d=>Nat.beq d t
 | none=>false
def II (t:Tmp) (j a:Nat):List Oper→List Nat→Nat→Bool
 | [],_,_=>true
 | o::l,ms,i=>(!(Aa t o)||Nat.beq i j||Nat.testBit a i||(match ms with | m::_=>Nat.testBit m j | []=>false))&&II t j a l ms.tail (i+1)
def yM (t:Tmp) (j:Nat):List Oper→Nat→Bool
 | [],_=>true
 | o::l,i=>(!(Aa t o)||Nat.beq i j)&&yM t j l (i+1)
def Au (ops:Array Oper) (all:List Oper) (mall:List Nat):List Oper→List Nat→Nat→Bool
 | [],_,_=>true
 | o::l,a::as,j=>(o.looksAt ops).all (fun t=>II t j a all mall 0)&&(match o.dst with | some d=>yM d j all 0 | none=>true)&&Au ops all mall l as (j+1)
 | _::_,[],_=>false
theorem yU {t:Tmp} {j a:Nat}: ∀ (l:List Oper) (ms:List Nat) (i0:Nat),II t j a l ms i0=true→ ∀ i o,l[i]? =some o→o.dst=some t→i0+i≠j→a.testBit (i0+i)=true∨ ∃ m,ms[i]? =some m∧m.testBit j=true
 | [],_,_,_,i,o,h,_,_=>by simp at h
 | o0::l,ms,i0,hB,i,o,h,hd,hne=>by
  simp only [II,Bool.and_eq_true,Bool.or_eq_true,Bool.not_eq_true'] at hB
  cases i with
  | zero=>
   simp only [List.getElem?_cons_zero,Option.some.injEq] at h
   subst h
   rcases hB.1 with ((h1 | h1) | h1) | h1
   ·simp [Aa,hd] at h1
   ·exact absurd (Nat.eq_of_beq_eq_true h1) hne
   ·exact .inl h1
   ·cases ms with
    | nil=>cases h1
    | cons m ms=>exact .inr ⟨m,rfl,h1⟩
  | succ i=>
   simp only [List.getElem?_cons_succ] at h
   have e:i0+1+i=i0+(i+1):=by omega
   have:=yU l ms.tail (i0+1) hB.2 i o h hd (by rw [e];exact hne)
   rw [e] at this
   rcases this with h1 | ⟨m,h1,h2⟩
   ·exact .inl h1
   ·refine .inr ⟨m,?_,h2⟩
    cases ms with
    | nil=>simp at h1
    | cons m0 ms=>simpa using h1
theorem Bc {t:Tmp} {j:Nat}: ∀ (l:List Oper) (i0:Nat),yM t j l i0=true→ ∀ i o,l[i]? =some o→o.dst=some t→i0+i=j
 | [],_,_,i,o,h,_=>by simp at h
 | o0::l,i0,hB,i,o,h,hd=>by
  simp only [yM,Bool.and_eq_true,Bool.or_eq_true,Bool.not_eq_true'] at hB
  cases i with
  | zero=>
   simp only [List.getElem?_cons_zero,Option.some.injEq] at h
   subst h
   rcases hB.1 with h1 | h1
   ·simp [Aa,hd] at h1
   ·exact Nat.eq_of_beq_eq_true h1
  | succ i=>
   simp only [List.getElem?_cons_succ] at h
   have:=Bc l (i0+1) hB.2 i o h hd
   omega
theorem wI {ops:Array Oper} {all:List Oper} {mall:List Nat}: ∀ (l:List Oper) (as:List Nat) (j0:Nat),Au ops all mall l as j0=true→ ∀ j o a,l[j]? =some o→as[j]? =some a→
  (∀ t∈o.looksAt ops,II t (j0+j) a all mall 0=true)∧(∀ d,o.dst=some d→yM d (j0+j) all 0=true)
 | [],_,_,_,j,o,a,h,_=>by simp at h
 | o0::l,[],_,h,_,_,_,_,_=>by cases h
 | o0::l,a0::as,j0,hB,j,o,a,h,ha=>by
  simp only [Au,Bool.and_eq_true,List.all_eq_true] at hB
  cases j with
  | zero=>
   simp only [List.getElem?_cons_zero,Option.some.injEq] at h ha
   subst h;subst ha
   refine ⟨fun t ht=>hB.1.1 t ht,fun d hd=> ?_⟩
   have:=hB.1.2
   rw [hd] at this
   exact this
  | succ j=>
   simp only [List.getElem?_cons_succ] at h ha
   have e:j0+1+j=j0+(j+1):=by omega
   have:=wI l as (j0+1) hB.2 j o a h ha
   rwa [e] at this
theorem PG {ops:Array Oper} {masks:List Nat} (hm:masks=ops.toList.map fun o=>fS o.after.toList) (hD:Au ops ops.toList masks ops.toList masks 0=true) {i j:Nat} {oi oj:Oper} (hi:ops[i]? =some oi) (hj:ops[j]? =some oj) (hne:j≠i)
  (h1:(fS oj.after.toList).testBit i=false) (h2:(fS oi.after.toList).testBit j=false):oi.apart ops oj=true:=by
 have hi':ops.toList[i]? =some oi:=by simpa using hi
 have hj':ops.toList[j]? =some oj:=by simpa using hj
 have mi:masks[i]? =some (fS oi.after.toList):=by rw [hm,List.getElem?_map,hi'];rfl
 have mj:masks[j]? =some (fS oj.after.toList):=by rw [hm,List.getElem?_map,hj'];rfl
 obtain ⟨si,ti⟩:=wI _ _ 0 hD i oi _ hi' mi
 obtain ⟨sj,tj⟩:=wI _ _ 0 hD j oj _ hj' mj
 simp only [Nat.zero_add] at si ti sj tj
 unfold Oper.apart
 simp only [Bool.and_eq_true]
 constructor
 ·cases hd:oi.dst with
  | none=>rfl
  | some d=>
   simp only [Bool.and_eq_true,Bool.not_eq_true',bne_iff_ne]
   refine ⟨?_,?_⟩
   ·rw [Bool.eq_false_iff]
    intro hc
    rcases yU _ _ 0 (sj d (by simpa using hc)) i oi hi' hd (by omega) with h | ⟨m,h,h'⟩
    ·rw [Nat.zero_add,h1] at h;cases h
    ·rw [mi] at h;cases h;rw [h2] at h';cases h'
   ·intro hc
    have:=Bc _ 0 (tj d hc) i oi hi' hd
    omega
 ·cases hd:oj.dst with
  | none=>rfl
  | some d=>
   simp only [Bool.not_eq_true']
   rw [Bool.eq_false_iff]
   intro hc
   rcases yU _ _ 0 (si d (by simpa using hc)) j oj hj' hd (by omega) with h | ⟨m,h,h'⟩
   ·rw [Nat.zero_add,h2] at h;cases h
   ·rw [mj] at h;cases h;rw [h1] at h';cases h'
def IV (ops:Array Oper) (masks:List Nat) (order:OT):Bool:=
 ops.toList.all eO&&Region.noSelect ops&&Du ops.toList masks&&HG ops.size ops.toList&&Au ops ops.toList masks ops.toList masks 0&&mR masks order [] 0
def wpE (P:Program) (ρ:Option Nat) (ops:Array Oper) (Q:aI) (fl:List Nat) (pend:cM) (nx:List Nat→Act→World→Prop):Nat→List Nat→Act→World→Prop
 | 0,ea,a,w=>nx ea a w
 | n+1,ea,a,w=>nx ea a w∧ ∀ f∈fl,bO f ea=false→wpOpIn (FW ρ) 0 P ops Q f (fun a' w'=>eC pend w'∧wpE P ρ ops Q fl pend nx n (f::ea) a' w') a w
def wpD (P:Program) (ρ:Option Nat) (ops:Array Oper) (Q:aI):OT→List Nat→cM→Act→World→Prop
 | .nil,_,_,a,w=>Q .normal a w
 | .q k _ r,ea,pend,a,w=>match ops[k]? with
  | none=>False
  | some o=> ∃ v J,J w∧YJ P ops J o v a∧wpD P ρ ops Q r ea ((k,J)::pend) (a.put o.dst v) w
 | .l k _ r,ea,pend,a,w=>match ops[k]? with
  | none=>False
  | some _=>wpOpIn (FW ρ) 0 P ops Q k (fun a' w'=>eC (still .any ops k pend) w'∧wpD P ρ ops Q r ea (still .any ops k pend) a' w') a w
 | .l2 _ k₁ r₁ k₂ r₂,ea,pend,a,w=>(match ops[k₁]? with
  | none=>False
  | some _=>wpOpIn (FW ρ) 0 P ops Q k₁ (fun a' w'=>eC (still .any ops k₁ pend) w'∧wpD P ρ ops Q r₁ ea (still .any ops k₁ pend) a' w') a w)∧
  (match ops[k₂]? with
  | none=>False
  | some _=>wpOpIn (FW ρ) 0 P ops Q k₂ (fun a' w'=>eC (still .any ops k₂ pend) w'∧wpD P ρ ops Q r₂ ea (still .any ops k₂ pend) a' w') a w)
 | .f k _ fl fs r,ea,pend,a,w=>wpE P ρ ops Q fl pend (fun ea a w=>(∀ f∈fs,f∈ea)→wpOpIn (FW ρ) 0 P ops Q k (fun a' w'=>eC (still .any ops k pend) w'∧wpD P ρ ops Q r (ea.filter fun f=> !(bO f fs)) (still .any ops k pend) a' w') a w) fl.length ea a w
def oz:List Bool→Nat
 | []=>0
 | true::l=>oz l
 | false::l=>oz l+1
theorem HW: ∀ {l:List Bool} {i:Nat},l[i]? =some false→oz (l.set i true)+1=oz l
 | [],i,h=>by simp at h
 | b::l,0,h=>by
  simp only [List.getElem?_cons_zero,Option.some.injEq] at h
  subst h
  rfl
 | b::l,i+1,h=>by
  simp only [List.getElem?_cons_succ] at h
  have:=HW h
  cases b <;> simp only [List.set_cons_succ,oz] <;> omega
theorem Jn: ∀ {n:Nat},oz (List.replicate n false)=n
 | 0=>rfl
 | n+1=>by rw [List.replicate_succ,oz,Jn]
theorem Dn {Q:aI}: ∀ (fuel:Nat) (pend:cM) (f:Nat×(World→Prop)→Bool) (listed:Array Bool) (a:Act) (w:World),wpP P ρ md ops Q fuel pend listed a w→wpP P ρ md ops Q fuel (pend.filter f) listed a w
 | 0,_,_,_,_,_,h=>⟨js h.1,h.2⟩
 | fuel+1,pend,f,listed,a,w,h=>⟨js h.1,h.2.1,fun i hi=>wpOpIn_mono (fun a' w' h'=>by
   have:still md ops i (pend.filter f)=(still md ops i pend).filter f:=by
    unfold still;rw [List.filter_filter,List.filter_filter];congr 1;funext p;exact Bool.and_comm ..
   rw [this]
   exact Dn fuel _ f _ _ _ h') (h.2.2 i hi)⟩
theorem filter_lt {α:Type} {p q:α→Bool} (hpq: ∀ x,q x=true→p x=true): ∀ {l:List α} {x:α},x∈l→p x=true→q x=false→(l.filter q).length<(l.filter p).length
 | y::l,x,hx,hp,hq=>by
  have hle: ∀ l:List α,(l.filter q).length≤(l.filter p).length:=fun l=>by
   induction l with
   | nil=>exact Nat.le_refl _
   | cons z l ih=>
    rw [List.filter_cons,List.filter_cons]
    cases hz:q z
    ·cases p z <;> simp <;> omega
    ·rw [hpq z hz];simp;omega
  rw [List.filter_cons,List.filter_cons]
  rcases List.mem_cons.1 hx with rfl | hx
  ·rw [hp,hq]
   have:=hle l
   simp;omega
  ·have ih:=filter_lt hpq hx hp hq
   cases hz:q y
   ·cases p y <;> simp <;> omega
   ·rw [hpq y hz];simp;omega
theorem VZ {Q:aI} {masks:List Nat} (hm:masks=ops.toList.map fun o=>fS o.after.toList) (he:HG ops.size ops.toList=true) (hD:Au ops ops.toList masks ops.toList masks 0=true)
  (hs:Region.noSelect ops=true) (hQ: ∀ c (a:Act) d v w,Q (.panic c) (a.put d v) w→Q (.panic c) a w) (hpl: ∀ (j:Nat) (o:Oper),ops[j]? =some o→eO o=true): ∀ (order:OT) (n:Nat) (pf ea:List Nat) (pend:cM) (listed:Array Bool) (m:Nat) (a:Act) (w:World),
  (∀ f∈ea,f∈pf)→LM ops.size listed (fQ m ea)→oz listed.toList=n→mR masks order pf m=true→eC pend w→wpD P ρ ops Q order ea pend a w→wpP P ρ .any ops Q n pend listed a w:=by
 have rdy: ∀ {k m:Nat} {ea:List Nat} {listed:Array Bool},LM ops.size listed (fQ m ea)→pL masks k m=true→k∉ea→k∈Region.ready .any ops listed:=fun {k m ea listed} hL h hk=>by
  rw [tr hm he hL]
  unfold pL at h
  cases ha:masks[k]? with
  | none=>rw [ha] at h;cases h
  | some a=>
   rw [ha] at h
   simp only [Bool.and_eq_true,Bool.not_eq_true'] at h
   refine ⟨a,rfl,?_,?_⟩
   ·rw [cE,h.1,Bool.false_or,Bool.eq_false_iff]
    exact fun hc=>hk (bN.1 hc)
   ·rw [pn] at h ⊢
    intro i hi
    rw [cE,h.2 i hi,Bool.true_or]
 have only: ∀ {m:Nat} {ks fl ea:List Nat} {listed:Array Bool},(∀ f∈ea,f∈fl)→LM ops.size listed (fQ m ea)→tV masks 0 (fQ m fl) ks=true→ ∀ i∈Region.ready .any ops listed,i∉ea∧m.testBit i=false∧(i∈fl∨i∈ks):=fun {m ks fl ea listed} hsub hL h i hi=>by
  obtain ⟨a,ha,h1,h2⟩:=(tr hm he hL).1 hi
  rw [cE,Bool.or_eq_false_iff] at h1
  refine ⟨(fun hc=>by rw [bN.2 hc] at h1;cases h1.2),h1.1,?_⟩
  by_cases hf:i∈fl
  ·exact .inl hf
  ·refine .inr ?_
   have:=De masks 0 (fQ m fl) ks h i a ha (by rw [Nat.zero_add,cE,h1.1,Bool.false_or,Bool.eq_false_iff];exact fun hc=>hf (bN.1 hc)) (by
    rw [pn] at h2 ⊢
    intro j hj
    have:=h2 j hj
    rw [cE,Bool.or_eq_true] at this
    rw [cE,Bool.or_eq_true]
    exact this.imp id fun h=>bN.2 (hsub j (bN.1 h)))
   rwa [Nat.zero_add] at this
 have step: ∀ {i n:Nat} {listed:Array Bool},i∈Region.ready .any ops listed→oz listed.toList=n→ ∃ n',n=n'+1∧oz (listed.setIfInBounds i true).toList=n':=fun {i n listed} hi hn=>by
  have h1:=(mem_ready.1 hi).1
  have h2:listed.toList[i]? =some false:=by
   rw [Array.getD_eq_getD_getElem?] at h1
   rw [Array.getElem?_toList]
   cases hl:listed[i]? with
   | none=>rw [hl] at h1;cases h1
   | some b=>rw [hl] at h1;simp only [Option.getD_some] at h1;rw [h1]
  have h3:=HW h2
  refine ⟨oz (listed.toList.set i true),by omega,?_⟩
  rw [Array.toList_setIfInBounds]
 have congr: ∀ {listed:Array Bool} {m m':Nat},LM ops.size listed m→(∀ i,m.testBit i=m'.testBit i)→LM ops.size listed m':=fun h e=>⟨h.1,fun i hi=>by rw [h.2 i hi,e]⟩
 have setq: ∀ {listed:Array Bool} {m k:Nat} {ea:List Nat},LM ops.size listed (fQ m ea)→LM ops.size (listed.setIfInBounds k true) (fQ (bit m k) ea):=fun {listed m k ea} h=>congr h.set fun i=>by
  rw [rB,cE,cE,rB]
  cases m.testBit i <;> cases (k==i) <;> cases bO i ea <;> rfl
 intro order
 induction order with
 | nil=>
  intro n pf ea pend listed m a w hsub hL hn hB hJ h
  simp only [mR,Bool.and_eq_true,List.isEmpty_iff] at hB
  obtain ⟨rfl,hB⟩:=hB
  have h0:Region.ready .any ops listed=[]:=by
   cases hr:Region.ready .any ops listed with
   | nil=>rfl
   | cons x xs=>
    obtain ⟨_,_,h1⟩:=only (fl:=[]) hsub hL hB x (by rw [hr];exact List.mem_cons_self ..)
    simp at h1
  cases n with
  | zero=>exact ⟨hJ,h0,h⟩
  | succ n=>exact ⟨hJ,fun _=>h,fun i hi=>by rw [h0] at hi;cases hi⟩
 | q k m' rest ih=>
  intro n pf ea pend listed m a w hsub hL hn hB hJ h
  simp only [mR,Bool.and_eq_true,Bool.not_eq_true'] at hB
  obtain ⟨⟨⟨hm',hk⟩,hkp⟩,hB⟩:=hB
  have:=Nat.eq_of_beq_eq_true hm';subst this
  simp only [wpD] at h
  split at h
  ·exact h.elim
  ·rename_i o ho
   obtain ⟨v,J,hJw,hy,h⟩:=h
   have hk':=rdy hL hk (fun hc=>by rw [bN.2 (hsub k hc)] at hkp;cases hkp)
   obtain ⟨n',rfl,hn'⟩:=step hk' hn
   refine On ho (Region.noSelect_spec hs) hQ hpl n' pend listed a w (fun j oj hj hne hun hno=> ?_) hk' hy (ih _ _ _ _ _ _ _ _ hsub (setq hL) hn' hB ⟨hJw,hJ⟩ h)
   refine PG hm hD ho hj hne ?_ ?_
   ·rw [nL,Bool.eq_false_iff]
    intro hc
    obtain ⟨e,hin,hb⟩:=List.any_eq_true.1 hc
    simp only [Bool.and_eq_true,beq_iff_eq] at hb
    exact hno e (by simpa using hin) hb.1 hb.2
   ·rw [nL,Bool.eq_false_iff]
    intro hc
    obtain ⟨e,hin,hb⟩:=List.any_eq_true.1 hc
    simp only [Bool.and_eq_true,beq_iff_eq] at hb
    obtain ⟨_,o',ho',hall⟩:=mem_ready.1 hk'
    rw [ho] at ho';cases ho'
    have h3:=hall e (by simpa using hin) hb.1
    have hlt:j<ops.size:=(Array.getElem?_eq_some_iff.1 hj).1
    rw [hb.2,hL.getD false hlt,← hL.2 j hlt,hun] at h3
    cases h3
 | l k m' rest ih=>
  intro n pf ea pend listed m a w hsub hL hn hB hJ h
  simp only [mR,Bool.and_eq_true,List.isEmpty_iff] at hB
  obtain ⟨⟨⟨⟨rfl,hm'⟩,hk⟩,ho⟩,hB⟩:=hB
  have:=Nat.eq_of_beq_eq_true hm';subst this
  simp only [wpD] at h
  have hk':=rdy hL hk (fun hc=>by cases hsub k hc)
  obtain ⟨n',rfl,hn'⟩:=step hk' hn
  split at h
  ·exact h.elim
  ·refine ⟨hJ,(fun h0=>by rw [h0] at hk';cases hk'),fun i hi=> ?_⟩
   obtain ⟨_,_,h1⟩:=only (fl:=[]) hsub hL ho i hi
   have:i=k:=by simpa using h1
   subst this
   exact wpOpIn_mono (fun a' w' h'=>ih _ _ _ _ _ _ _ _ hsub (setq hL) hn' hB h'.1 h'.2) h
 | l2 m' k₁ r₁ k₂ r₂ ih1 ih2=>
  intro n pf ea pend listed m a w hsub hL hn hB hJ h
  simp only [mR,Bool.and_eq_true,List.isEmpty_iff] at hB
  obtain ⟨⟨⟨⟨⟨⟨rfl,hm'⟩,hk1⟩,hk2⟩,ho⟩,hB1⟩,hB2⟩:=hB
  have:=Nat.eq_of_beq_eq_true hm';subst this
  simp only [wpD] at h
  obtain ⟨h1,h2⟩:=h
  have hk1':=rdy hL hk1 (fun hc=>by cases hsub k₁ hc)
  have hk2':=rdy hL hk2 (fun hc=>by cases hsub k₂ hc)
  obtain ⟨n',rfl,hn1⟩:=step hk1' hn
  obtain ⟨n2,e2,hn2⟩:=step hk2' hn
  have e3:n2=n':=by omega
  subst e3
  refine ⟨hJ,(fun h0=>by rw [h0] at hk1';cases hk1'),fun i hi=> ?_⟩
  obtain ⟨_,_,h3⟩:=only (fl:=[]) hsub hL ho i hi
  have h3:i=k₁∨i=k₂:=by simpa using h3
  rcases h3 with rfl | rfl
  ·split at h1
   ·exact h1.elim
   ·exact wpOpIn_mono (fun a' w' h'=>ih1 _ _ _ _ _ _ _ _ hsub (setq hL) hn1 hB1 h'.1 h'.2) h1
  ·split at h2
   ·exact h2.elim
   ·exact wpOpIn_mono (fun a' w' h'=>ih2 _ _ _ _ _ _ _ _ hsub (setq hL) hn2 hB2 h'.1 h'.2) h2
 | f k m' fl fs rest ih=>
  intro n pf ea pend listed m a w hsub hL hn hB hJ h
  simp only [mR,Bool.and_eq_true,List.all_eq_true,Bool.not_eq_true'] at hB
  obtain ⟨⟨⟨⟨⟨⟨⟨hm',hpf⟩,hfl⟩,hfs⟩,hkf⟩,hk⟩,ho⟩,hB⟩:=hB
  have:=Nat.eq_of_beq_eq_true hm';subst this
  simp only [wpD] at h
  have hsub': ∀ f∈ea,f∈fl:=fun f hf=>bN.1 (hpf f (hsub f hf))
  have hkfl:k∉fl:=fun hc=>by rw [bN.2 hc] at hkf;cases hkf
  have flm: ∀ f∈fl,m'.testBit f=false:=fun f hf=>by
   have:=hfl f hf
   unfold pL at this
   split at this
   ·simp only [Bool.and_eq_true,Bool.not_eq_true'] at this
    exact this.1
   ·cases this
  have main: ∀ (nf n:Nat) (ea:List Nat) (listed:Array Bool) (a:Act) (w:World),(∀ f∈ea,f∈fl)→(fl.filter fun f=> !(bO f ea)).length≤nf→LM ops.size listed (fQ m' ea)→oz listed.toList=n→eC pend w→
    wpE P ρ ops Q fl pend (fun ea a w=>(∀ f∈fs,f∈ea)→wpOpIn (FW ρ) 0 P ops Q k (fun a' w'=>eC (still .any ops k pend) w'∧wpD P ρ ops Q rest (ea.filter fun f=> !(bO f fs)) (still .any ops k pend) a' w') a w) nf ea a w→wpP P ρ .any ops Q n pend listed a w:=by
   have body: ∀ (n:Nat) (ea:List Nat) (listed:Array Bool) (a:Act) (w:World),(∀ f∈ea,f∈fl)→LM ops.size listed (fQ m' ea)→oz listed.toList=n→eC pend w→
     ((∀ f∈fs,f∈ea)→wpOpIn (FW ρ) 0 P ops Q k (fun a' w'=>eC (still .any ops k pend) w'∧wpD P ρ ops Q rest (ea.filter fun f=> !(bO f fs)) (still .any ops k pend) a' w') a w)→
     (∀ i∈fl,i∉ea→wpOpIn (FW ρ) 0 P ops Q i (fun a' w'=> ∀ n',LM ops.size (listed.setIfInBounds i true) (fQ m' (i::ea))→oz (listed.setIfInBounds i true).toList=n'→wpP P ρ .any ops Q n' pend (listed.setIfInBounds i true) a' w') a w)→wpP P ρ .any ops Q n pend listed a w:=by
    intro n ea listed a w hsub hL hn hJ hx hf
    have some_ready: ∃ i,i∈Region.ready .any ops listed:=by
     by_cases hall: ∀ f∈fs,f∈ea
     ·refine ⟨k,?_⟩
      rw [tr hm he hL]
      unfold pL at hk
      cases ha:masks[k]? with
      | none=>rw [ha] at hk;cases hk
      | some x=>
       rw [ha] at hk
       simp only [Bool.and_eq_true,Bool.not_eq_true'] at hk
       refine ⟨x,rfl,?_,?_⟩
       ·have:=hk.1
        rw [cE,Bool.or_eq_false_iff] at this
        rw [cE,this.1,Bool.false_or,Bool.eq_false_iff]
        exact fun hc=>hkfl (hsub k (bN.1 hc))
       ·have h2:=hk.2
        rw [pn] at h2 ⊢
        intro j hj
        have:=h2 j hj
        rw [cE,Bool.or_eq_true] at this
        rw [cE,Bool.or_eq_true]
        exact this.imp id fun h=>bN.2 (hall j (bN.1 h))
     ·obtain ⟨f,hff,hfe⟩: ∃ f,f∈fs∧f∉ea:=by
       apply Classical.byContradiction
       intro hc
       exact hall fun f hf=>Classical.byContradiction fun hn=>hc ⟨f,hf,hn⟩
      exact ⟨f,rdy hL (hfl f (bN.1 (hfs f hff).1)) hfe⟩
    obtain ⟨i0,hi0⟩:=some_ready
    obtain ⟨n',rfl,_⟩:=step hi0 hn
    refine ⟨hJ,(fun h0=>by rw [h0] at hi0;cases hi0),fun i hi=> ?_⟩
    obtain ⟨n2,e2,hn2⟩:=step hi hn
    have e3:n2=n':=by omega
    subst e3
    obtain ⟨h1,h2,h3⟩:=only hsub hL ho i hi
    rcases h3 with h3 | h3
    ·exact wpOpIn_mono (fun a' w' h'=>Dn _ _ _ _ _ _ (h' _ hL.set hn2)) (hf i h3 h1)
    ·have:i=k:=by simpa using h3
     subst this
     have hall: ∀ f∈fs,f∈ea:=fun f hf'=>by
      obtain ⟨x,hx1,_,hx3⟩:=(tr hm he hL).1 hi
      obtain ⟨q1,q2⟩:=hfs f hf'
      unfold hasB at q2
      rw [hx1] at q2
      have:=pn.1 hx3 f q2
      rw [cE,flm f (bN.1 q1),Bool.false_or] at this
      exact bN.1 this
     refine wpOpIn_mono (fun a' w' h'=>ih _ _ _ _ _ _ _ _ (fun f hf=> ?_) (congr hL.set fun j=> ?_) hn2 hB h'.1 h'.2) (hx hall)
     ·rw [List.mem_filter] at hf ⊢
      exact ⟨hsub f hf.1,hf.2⟩
     ·rw [rB,cE,cE,rB,cE]
      have e:bO j ea=(bO j fs||bO j (ea.filter fun f=> !(bO f fs))):=by
       rw [Bool.eq_iff_iff,Bool.or_eq_true,bN,bN,bN,List.mem_filter]
       constructor
       ·intro h
        by_cases hj:j∈fs
        ·exact .inl hj
        ·refine .inr ⟨h,?_⟩
         rw [Bool.not_eq_true',Bool.eq_false_iff]
         exact fun hc=>hj (bN.1 hc)
       ·rintro (h | h)
        ·exact hall j h
        ·exact h.1
      rw [e]
      cases m'.testBit j <;> cases (i==j) <;> cases bO j fs <;> cases bO j (ea.filter fun f=> !(bO f fs)) <;> rfl
   intro nf
   induction nf with
   | zero=>
    intro n ea listed a w hsub hlen hL hn hJ h
    refine body n ea listed a w hsub hL hn hJ h fun i hi hie=> ?_
    have:i∈fl.filter fun f=> !(bO f ea):=List.mem_filter.2 ⟨hi,by
     rw [Bool.not_eq_true',Bool.eq_false_iff]
     exact fun hc=>hie (bN.1 hc)⟩
    rw [List.eq_nil_of_length_eq_zero (Nat.le_zero.1 hlen)] at this
    cases this
   | succ nf ihf=>
    intro n ea listed a w hsub hlen hL hn hJ h
    refine body n ea listed a w hsub hL hn hJ h.1 fun i hi hie=> ?_
    have hie':bO i ea=false:=by
     rw [Bool.eq_false_iff]
     exact fun hc=>hie (bN.1 hc)
    refine wpOpIn_mono (fun a' w' h' n' hL' hn'=>ihf n' (i::ea) _ a' w' (fun f hf=> ?_) ?_ hL' hn' h'.1 h'.2) (h.2 i hi hie')
    ·rcases List.mem_cons.1 hf with rfl | hf
     ·exact hi
     ·exact hsub f hf
    ·have:=filter_lt (p:=fun f=> !(bO f ea)) (q:=fun f=> !(bO f (i::ea))) (fun x hx=>by
      simp only [bO,Bool.not_or,Bool.and_eq_true] at hx
      exact hx.2) hi (by rw [hie'];rfl) (by simp [bO])
     omega
  exact main fl.length n ea listed a w hsub' (List.length_filter_le ..) hL hn hJ h
theorem zv {j:Nat}: ∀ (l1 l2:cM) (w:World),eC (l1++l2) w→eC (l1++(j,fun _=>True)::l2) w
 | [],_,_,h=>⟨trivial,h⟩
 | _::l1,l2,w,h=>⟨h.1,zv l1 l2 w h.2⟩
theorem K9 {Q:aI} {fl:List Nat} {pend pend':cM} {nx nx':List Nat→Act→World→Prop} (hp: ∀ w,eC pend w→eC pend' w) (hx: ∀ ea a w,nx ea a w→nx' ea a w): ∀ (n:Nat) (ea:List Nat) (a:Act) (w:World),wpE P ρ ops Q fl pend nx n ea a w→wpE P ρ ops Q fl pend' nx' n ea a w
 | 0,ea,a,w,h=>hx ea a w h
 | n+1,ea,a,w,h=>⟨hx ea a w h.1,fun f hf hm=>wpOpIn_mono (fun _ w' h'=>⟨hp w' h'.1,K9 hp hx n _ _ _ h'.2⟩) (h.2 f hf hm)⟩
theorem PB {Q:aI} {j:Nat}: ∀ (order:OT) (ea:List Nat) (l1 l2:cM) (a:Act) (w:World),wpD P ρ ops Q order ea (l1++l2) a w→wpD P ρ ops Q order ea (l1++(j,fun _=>True)::l2) a w:=by
 have still_app: ∀ (k:Nat) (l1 l2:cM),still .any ops k (l1++l2)=still .any ops k l1++still .any ops k l2:=fun k l1 l2=>List.filter_append ..
 intro order
 have loud: ∀ (k:Nat) (r:OT) (ea:List Nat) (l1 l2:cM) (a:Act) (w:World),(∀ (ea:List Nat) (l1 l2:cM) (a:Act) (w:World),wpD P ρ ops Q r ea (l1++l2) a w→wpD P ρ ops Q r ea (l1++(j,fun _=>True)::l2) a w)→
   wpOpIn (FW ρ) 0 P ops Q k (fun a' w'=>eC (still .any ops k (l1++l2)) w'∧wpD P ρ ops Q r ea (still .any ops k (l1++l2)) a' w') a w→
   wpOpIn (FW ρ) 0 P ops Q k (fun a' w'=>eC (still .any ops k (l1++(j,fun _=>True)::l2)) w'∧wpD P ρ ops Q r ea (still .any ops k (l1++(j,fun _=>True)::l2)) a' w') a w:=fun k r ea l1 l2 a w ih h=>by
  refine wpOpIn_mono (fun a' w' h'=> ?_) h
  rw [still_app] at h'
  rw [still_app]
  have e:still .any ops k ((j,fun _=>True)::l2)=(j,fun _=>True)::still .any ops k l2∨still .any ops k ((j,fun _=>True)::l2)=still .any ops k l2:=by
   unfold still
   rw [List.filter_cons]
   split
   ·exact .inl rfl
   ·exact .inr rfl
  rcases e with e | e
  ·rw [e]
   exact ⟨zv _ _ _ h'.1,ih _ _ _ _ _ h'.2⟩
  ·rw [e];exact h'
 induction order with
 | nil=>intro ea l1 l2 a w h;exact h
 | q k m r ih=>
  intro ea l1 l2 a w h
  simp only [wpD] at h ⊢
  split at h
  ·exact h.elim
  ·obtain ⟨v,J,hJ,hy,h⟩:=h
   exact ⟨v,J,hJ,hy,ih ea ((k,J)::l1) l2 _ _ h⟩
 | l k m r ih=>
  intro ea l1 l2 a w h
  simp only [wpD] at h ⊢
  split at h
  ·exact h.elim
  ·exact loud k r ea l1 l2 a w ih h
 | l2 m k₁ r₁ k₂ r₂ ih1 ih2=>
  intro ea l1 l2 a w h
  simp only [wpD] at h ⊢
  obtain ⟨h1,h2⟩:=h
  refine ⟨?_,?_⟩
  ·split at h1
   ·exact h1.elim
   ·exact loud k₁ r₁ ea l1 l2 a w ih1 h1
  ·split at h2
   ·exact h2.elim
   ·exact loud k₂ r₂ ea l1 l2 a w ih2 h2
 | f k m fl fs r ih=>
  intro ea l1 l2 a w h
  simp only [wpD] at h ⊢
  exact K9 (fun w hw=>zv _ _ _ hw) (fun ea a w hx hall=>loud k r _ l1 l2 a w ih (hx hall)) _ _ _ _ h
theorem QI {Q:aI} (c:List PanicEntry) (a:Act) (d:Option Tmp) (v:Value) (w:World) (h:QN Q (.panic c) (a.put d v) w):QN Q (.panic c) a w:=by
 unfold QN at*
 rwa [fD] at h
end
def WD (P:Program) (ρ:Option Nat) (ops:Array Oper) (Q:aI) (n:Nat) (D:List Deferred) (order:OT) (pend:cM) (E:Env) (w:World):Prop:=
 ∀ a,Fits n E a→a.defers=D→wpD P ρ ops (QN Q) order [] pend a w
section
variable {P : Program} {ρ : Option Nat} {Q : aI} {n : Nat} {D : List Deferred} {E : Env} {w : World}
theorem C5 {id:Nat} {ops:Array Oper} {a:Act} (h:(Code.region id ops true).wpIn (FW ρ) 0 P (QN Q) a w):(Code.region id ops true).wpIn (FW ρ) 0 P Q a w:=
 wpIn_mono h fun e a w hq=>by cases e <;> first | exact hq | exact hq a rfl
theorem nS {id:Nat} {l:List Oper} (masks:List Nat) (order:OT) (hm:P.follows .mixedOrders=true) (hB:IV l.toArray masks order=true)
  (h: ∀ w1,Ext w w1→WD P ρ l.toArray Q n D order [] E w1):WC P ρ (.region id l.toArray true) Q n D E w:=by
 simp only [IV,Bool.and_eq_true] at hB
 obtain ⟨⟨⟨⟨⟨hpl,hsel⟩,hma⟩,hed⟩,hda⟩,hwa⟩:=hB
 intro a hf hd
 refine C5 (wpIn_region_any hm ?_)
 have hpl': ∀ (j:Nat) (o:Oper),l.toArray[j]? =some o→eO o=true:=fun j o hj=>List.all_eq_true.1 hpl o (by simpa using Array.mem_of_getElem? hj)
 have hL:LM l.toArray.size (Array.replicate l.toArray.size false) (fQ 0 []):=⟨by simp,fun i hi=>by
  show _=Nat.testBit 0 i
  simp at hi
  simp [Array.getD,hi]⟩
 exact La _ _ _ _ _ (VZ (Bi _ _ hma) hed hda hsel QI hpl' order _ [] [] [] _ 0 a _ (fun _ h=>by cases h) hL (by rw [Array.toList_replicate];exact Jn) hwa trivial (h { w with drawn:=w.drawn+1 } ⟨rfl,rfl,rfl,Nat.le_refl _,fun _ _=>rfl⟩ a hf hd))
variable {ops : Array Oper} {rest : OT} {pend : cM} {k mk : Nat}
theorem O4 (h:At Q .normal n D E w):WD P ρ ops Q n D .nil pend E w:=fun a hf hd=>h a hf hd
theorem VL {o:Oper} {d:Tmp} {v:Value} (J:World→Prop) (hJ:J w) (hr: ∀ w,J w→Run P E true o w v) (hk:ops[k]? =some o) (hg:o.guard=none) (hd:o.dst=some d) (hn:Nat.blt d n=true)
  (h:WD P ρ ops Q n D rest ((k,J)::pend) ((d,true,v)::E) w):WD P ρ ops Q n D (.q k mk rest) pend E w:=fun a hf hD=>by
 simp only [wpD,hk]
 refine ⟨v,J,hJ,.inl ⟨by simp [Region.wanted,hg],fun w' hw'=>hr w' hw' n a hf rfl⟩,?_⟩
 rw [hd]
 exact h _ (hf.put hn) hD
theorem eU {o:Oper} {d:Tmp} {v:Value} (hr: ∀ w,Run P E true o w v) (hk:ops[k]? =some o) (hg:o.guard=none) (hd:o.dst=some d) (hn:Nat.blt d n=true)
  (h:WD P ρ ops Q n D rest pend ((d,true,v)::E) w):WD P ρ ops Q n D (.q k mk rest) pend E w:=
 VL (fun _=>True) trivial (fun w _=>hr w) hk hg hd hn (fun a hf hD=>PB rest [] [] pend a w (h a hf hD))
def QK (P:Program) (ρ:Option Nat) (ops:Array Oper) (Q:aI) (_n:Nat) (_D:List Deferred) (rest:OT) (pend:cM):aI:=fun e a w=>match e with
 | .normal=>eC pend w∧wpD P ρ ops (QN Q) rest [] pend a w
 | .panic c=>AtP Q c a.defers w
 | e=>Q e a w
theorem SK (hJ:eC pend w) (h:WD P ρ ops Q n D rest pend E w):At (QK P ρ ops Q n D rest pend) .normal n D E w:=fun a hf hd=>⟨hJ,h a hf hd⟩
theorem Le {o:Oper} {pend':cM} (hk:ops[k]? =some o) (hp:still .any ops k pend=pend') (h:WL P ρ ops (QK P ρ ops Q n D rest pend') n D [o] E w):
  WD P ρ ops Q n D (.l k mk rest) pend E w:=fun a hf hD=>by
 subst hp
 simp only [wpD,hk]
 have h1:=h a hf hD
 unfold wpOpIn
 simp only [hk]
 simp only [wpListIn] at h1
 split
 ·rename_i hw
  simp only [hw,if_true] at h1
  refine ⟨h1.1,?_⟩
  have h1:=h1.2
  generalize (o.semAt (FW ρ).round a.eval).run P w=r at*
  cases r with
  | ok n w'=>
   cases n <;> simp only [Oper.uponIn] at h1 ⊢ <;> exact h1
  | halt x w'=>cases x <;> simp only [Oper.uponIn] at h1 ⊢ <;> exact h1
 ·rename_i hw
  simp only [hw] at h1
  exact h1
end
/-! floats: new blocks that have come ahead of their place -/
def OT.ops:OT→List Nat
 | .nil=>[]
 | .q k _ r=>k::r.ops
 | .l k _ r=>k::r.ops
 | .l2 _ k₁ r₁ k₂ r₂=>k₁::k₂::(r₁.ops++r₂.ops)
 | .f k _ _ _ r=>k::r.ops
def OT.fls:OT→List Nat
 | .nil=>[]
 | .q _ _ r=>r.fls
 | .l _ _ r=>r.fls
 | .l2 _ _ r₁ _ r₂=>r₁.fls++r₂.fls
 | .f _ _ fl _ r=>fl++r.fls
def lg (ops:Array Oper) (j f:Nat):Bool:=match ops[j]?, ops[f]? with
 | some oj,some f=>(match oj.dst with
  | none=>true
  | some d=>(f.looksAt ops).all (fun t=> !(Nat.beq t d))&& !(Aa d f))
 | _,_=>false
theorem Nf {ops:Array Oper} {j f:Nat} {oj o:Oper} (h:lg ops j f=true) (hj:ops[j]? =some oj) (hf:ops[f]? =some o):(∀ d,oj.dst=some d→d∉o.looksAt ops)∧(∀ d,oj.dst=some d→o.dst≠some d):=by
 unfold lg at h
 rw [hj,hf] at h
 simp only at h
 constructor
 ·intro d hd hc
  rw [hd] at h
  simp only [Bool.and_eq_true,List.all_eq_true] at h
  have:=h.1 d hc
  simp at this
 ·intro d hd hc
  rw [hd] at h
  simp only [Bool.and_eq_true,Bool.not_eq_true',Aa,hc] at h
  simp at h
def uY (o:Oper) (b:Nat):Value:=match o.op with
 | .buildSlice _ len _=> .slice (some ⟨b,0,none⟩) len len
 | _=> .pointer (some ⟨b,0,none⟩)
abbrev Flt:=Nat×Nat×TypeId×List Value
def ng (P:Program) (ops:Array Oper) (a:Act) (x:Flt):Prop:= ∃ (o:Oper) (d:Tmp) (w0:World),ops[x.1]? =some o∧o.dst=some d∧(∀ cs b,o.op≠ .select cs b)∧x.2.1=w0.heap.size∧
 a.tmps.getD d undef=uY o x.2.1∧(execOp a.eval o).run P w0= .ok (.value (uY o x.2.1)) (w0.alloc (.cells x.2.2.2.toArray x.2.2.1))
section
variable {P : Program} {ρ : Option Nat} {Q : aI} {n : Nat} {D : List Deferred} {E : Env} {w : World} {ops : Array Oper}
theorem ng.put {a:Act} {x:Flt} {j:Nat} {oj:Oper} {v:Value} (h:ng P ops a x) (hj:ops[j]? =some oj) (hf:lg ops j x.1=true):ng P ops (a.put oj.dst v) x:=by
 obtain ⟨o,d,w0,h1,h2,h3,h4,h5,h6⟩:=h
 obtain ⟨f1,f2⟩:=Nf hf hj h1
 refine ⟨o,d,w0,h1,h2,h3,h4,?_,?_⟩
 ·rw [← h5]
  have:=Act.eval_put (a:=a) (dst:=oj.dst) (v:=v) (x:= .tmp d) (fun e he hc=>f2 e he (by cases hc;exact h2))
  exact this
 ·rw [execOp_put (ops:=ops) o h3 a oj.dst v f1]
  exact h6
theorem N4 {C:Act→Prop} {j:Nat} {oj:Oper} (hj:ops[j]? =some oj) (hC: ∀ a v,C a→C (a.put oj.dst v)) (hCd: ∀ (a:Act) d,C a→C { a with defers:=d::a.defers }) {K:Act→World→Prop} {a:Act}
  (hc:C a) (h:wpOpIn (FW ρ) 0 P ops Q j K a w):wpOpIn (FW ρ) 0 P ops Q j (fun a' w'=>C a'∧K a' w') a w:=by
 unfold wpOpIn at*
 simp only [hj] at*
 split
 ·rename_i hw
  simp only [hw,if_true] at h
  refine ⟨h.1,?_⟩
  have h:=h.2
  generalize (oj.semAt (FW ρ).round a.eval).run P w=r at*
  cases r with
  | ok n w'=>
   cases n <;> simp only [Oper.uponIn] at h ⊢
   case value u=>exact ⟨hC a u hc,h⟩
   case skip=>exact ⟨hC a _ hc,h⟩
   case defer d=>exact ⟨hC _ _ (hCd a d hc),h⟩
   case enter f args=>
    refine ⟨h.1,CallsIn.mono h.2 fun e w'' he=> ?_⟩
    cases e with
    | returned u=>exact ⟨hC a u hc,he⟩
    | panicked c=>exact he
    | outgrown=>exact he
   case row row args=>exact ⟨h.1,RowsIn.mono h.2 fun u w'' he=>⟨hC a u hc,he⟩⟩
   case round l f tmps assign body=>
    refine ⟨h.1,RoundIn.mono h.2 fun e w'' he=> ?_⟩
    cases e with
    | returned u=>exact ⟨hC a u hc,he⟩
    | panicked c=>exact he
    | outgrown=>exact he
  | halt x w'=>
   cases x <;> simp only [Oper.uponIn] at h ⊢
   case panic u=>exact h
 ·rename_i hw
  simp only [hw] at h
  exact ⟨h.1,hC a _ hc,h.2⟩
def WDE (P:Program) (ρ:Option Nat) (ops:Array Oper) (Q:aI) (n:Nat) (D:List Deferred) (order:OT) (EV:List Flt) (pend:cM) (E:Env) (w:World):Prop:=
 ∀ a,Fits n E a→a.defers=D→(∀ x∈EV,ng P ops a x)→wpD P ρ ops (QN Q) order (EV.map (·.1)) pend a w
theorem WDE.wd {order:OT} {pend:cM} (h:WDE P ρ ops Q n D order [] pend E w):WD P ρ ops Q n D order pend E w:=fun a hf hd=>h a hf hd fun _ hx=>by cases hx
theorem WDE.jw {order:OT} {EV:List Flt} {pend:cM} {E':Env} (h: ∀ a,Fits n E a→Fits n E' a) (hw:WDE P ρ ops Q n D order EV pend E' w):WDE P ρ ops Q n D order EV pend E w:=fun a hf hd hc=>hw a (h a hf) hd hc
theorem Te {EV:List Flt} {pend:cM} (h:At Q .normal n D E w):WDE P ρ ops Q n D .nil EV pend E w:=fun a hf hd _=>h a hf hd
theorem VC {EV:List Flt} {pend:cM} {mk k₁ k₂:Nat} {r₁ r₂:OT} (h1:WDE P ρ ops Q n D (.l k₁ mk r₁) EV pend E w) (h2:WDE P ρ ops Q n D (.l k₂ mk r₂) EV pend E w):WDE P ρ ops Q n D (.l2 mk k₁ r₁ k₂ r₂) EV pend E w:=fun a hf hD hc=>by
 have h1:=h1 a hf hD hc
 have h2:=h2 a hf hD hc
 simp only [wpD] at h1 h2 ⊢
 exact ⟨h1,h2⟩
def QKE (P:Program) (ρ:Option Nat) (ops:Array Oper) (Q:aI) (rest:OT) (EV:List Flt) (pend:cM):aI:=fun e a w=>match e with
 | .normal=>(∀ x∈EV,ng P ops a x)→eC pend w∧wpD P ρ ops (QN Q) rest (EV.map (·.1)) pend a w
 | .panic c=>AtP Q c a.defers w
 | e=>Q e a w
theorem Vl {rest:OT} {EV:List Flt} {pend:cM} (hJ:eC pend w) (h:WDE P ρ ops Q n D rest EV pend E w):At (QKE P ρ ops Q rest EV pend) .normal n D E w:=fun a hf hd hc=>⟨hJ,h a hf hd hc⟩
theorem Ih {rest:OT} {EV:List Flt} {pend:cM} {c:List PanicEntry} (h:AtP Q c D w):At (QKE P ρ ops Q rest EV pend) (.panic c) n D E w:=fun a _ hd=>by subst hd;exact h
theorem Qa {rest:OT} {EV:List Flt} {pend pend':cM} {k mk:Nat} {o:Oper} (hk:ops[k]? =some o) (hC: ∀ x∈EV,lg ops k x.1=true) (hp:still .any ops k pend=pend') (h:WL P ρ ops (QKE P ρ ops Q rest EV pend') n D [o] E w):
  WDE P ρ ops Q n D (.l k mk rest) EV pend E w:=fun a hf hD hc=>by
 subst hp
 simp only [wpD,hk]
 have h1:=h a hf hD
 have h2:wpOpIn (FW ρ) 0 P ops (QN Q) k (fun a' w'=>(∀ x∈EV,ng P ops a' x)→eC (still .any ops k pend) w'∧wpD P ρ ops (QN Q) rest (EV.map (·.1)) (still .any ops k pend) a' w') a w:=by
  unfold wpOpIn
  simp only [hk]
  simp only [wpListIn] at h1
  split
  ·rename_i hw
   simp only [hw,if_true] at h1
   refine ⟨h1.1,?_⟩
   have h1:=h1.2
   generalize (o.semAt (FW ρ).round a.eval).run P w=r at*
   cases r with
   | ok n w'=>cases n <;> simp only [Oper.uponIn] at h1 ⊢ <;> exact h1
   | halt x w'=>cases x <;> simp only [Oper.uponIn] at h1 ⊢ <;> exact h1
  ·rename_i hw
   simp only [hw] at h1
   exact h1
 exact wpOpIn_mono (fun a' w' h=>h.2 h.1) (N4 (C:=fun a=> ∀ x∈EV,ng P ops a x) hk (fun a v hc x hx=>(hc x hx).put hk (hC x hx)) (fun a d hc x hx=>hc x hx) hc h2)
end
end Go.Proofs.YtgcgmclghbebjaaGreat
namespace Go.Proofs.YtgcgmclghbebjaaGreat
section
variable {α : Type} {A : Rep α} {M : Nat → Prop} {w : World} {v : Value} {xs : List α} {i : Int} {x : α} {e : TypeId} {R : List Nat} {cs : List Value}
end
theorem SRd.V8 {α:Type} {A:Rep α} {M:Nat→Prop} {w:World} {g:Bool} {v:Value} {xs:List α} {i j:Int} (h:g=true→SRd A M w v xs) (hc:g=true→fX i j xs.length=true):
  ∃ p:SLV,(g=true→Hq v i j A.n (sl p))∧(g=true→SRd A M w (sl p) (bd xs i j)):=by
 cases g
 ·exact ⟨(none,0,0),(fun h=>by cases h),(fun h=>by cases h)⟩
 ·obtain ⟨v',h1,h2⟩:=SRd.cut (h rfl) (hc rfl)
  obtain ⟨p,rfl⟩:=h2.jQ
  exact ⟨p,fun _=>h1,fun _=>h2⟩
theorem SRd.VY {α:Type} {A:Rep α} {M:Nat→Prop} {w:World} {g:Bool} {v:Value} {xs:List α} {i j k:Int} (h:g=true→SRd A M w v xs) (hc:g=true→jj i j k xs.length=true):
  ∃ p:SLV,(g=true→Aw v i j k A.n (sl p))∧(g=true→SRd A M w (sl p) (bd xs i j)):=by
 cases g
 ·exact ⟨(none,0,0),(fun h=>by cases h),(fun h=>by cases h)⟩
 ·obtain ⟨v',h1,h2⟩:=SRd.Wh (h rfl) (hc rfl)
  obtain ⟨p,rfl⟩:=h2.jQ
  exact ⟨p,fun _=>h1,fun _=>h2⟩
section
variable {P : Program} {ρ : Option Nat} {Q : aI} {n : Nat} {D : List Deferred} {E : Env} {w : World} {ops : Array Oper} {rest : List Oper} {Γ : Ctx} {g : Bool}
variable {dst : Option Tmp} {d : Tmp} {ty : TypeId} {pos : String} {af : Array Edge} {gd : Option (Nat × Bool)}
def fk:TypeDesc→Bool
 | .interface _=>true
 | _=>false
theorem J8 {x:Operand} {v:Value} {t:TypeId} {dd:TypeDesc} (ht:P.underlying t=some dd) (hd:fk dd=false) (hx:Opd E g x v):Run P E g ⟨dst,.makeInterface t x,ty,pos,af,gd⟩ w (.iface t v):=
 fun n a hf hg=>by
  simp only [execOp,hx n a hf hg,Instr.makeInterface,Sem.run_bind,run_underlying ht,Result.andThen_ok]
  cases dd <;> first | rfl | (simp [fk] at hd)
theorem JG {x:Operand} {v:Value} {s t:TypeId} {dd:TypeDesc} (ht:P.underlying t=some dd) (hd:fk dd=false) (hx:Opd E g x (.iface t v)):Run P E g ⟨dst,.typeAssert x s t false,ty,pos,af,gd⟩ w v:=
 fun n a hf hg=>by
  simp only [execOp,hx n a hf hg,Instr.typeAssert,Sem.run_bind,run_underlying ht,Result.andThen_ok]
  cases dd <;> first | (dsimp only;rw [if_pos rfl];rfl) | (simp [fk] at hd)
end
end Go.Proofs.YtgcgmclghbebjaaGreat
namespace Go.Proofs.YtgcgmclghbebjaaGreat
def gl (b:Nat) (vs:List Value):Item where
 own:=[]
 P M w:= ¬ M b∧ ∃ t fr,w.heap[b]? =some (.cells vs.toArray t fr)
 lt _ b hb:=by cases hb
 bm {M M' w w'} h m _ _:=by
  obtain ⟨h1,t,fr,hb⟩:=h
  obtain ⟨h2,h3⟩:=m.2 _ (Array.getElem?_eq_some_iff.1 hb).1 h1
  exact ⟨h2,t,fr,h3.trans hb⟩
 ck:=true
 hp _:=rfl
section
variable {Γ : Ctx} {w : World} {α : Type} {A : Rep α} {i : Nat}
theorem Sat.gl0 (h:Sat Γ w) {b:Nat} {vs:List Value} (hi:Γ[i]? =some (gl b vs)): ¬ Γ.M b∧ ∃ t fr,w.heap[b]? =some (.cells vs.toArray t fr):=h.at_ hi
theorem Sat.gl (h:Sat Γ w) {b:Nat} {vs:List Value} (hi:Γ[i]? =some (gl b vs)): ¬ Γ.M b∧aM w ⟨b,0,none⟩ vs:=by
 obtain ⟨h1,t,fr,hb⟩:=h.gl0 hi
 exact ⟨h1,rfl,_,t,fr,hb,fun j u hu=>by simpa using hu⟩
theorem VX {M:Nat→Prop} {b:Nat} {vs:List Value} {xs:List α} (hM: ¬ M b) (h:aM w ⟨b,0,none⟩ vs) (hA:ARd A M w vs xs):SRd A M w (sl (some ⟨b,0,none⟩,xs.length,xs.length)) xs:=by
 obtain ⟨_,cs,t,fr,hb,hc⟩:=h
 have hl:=hA.1
 have hsz:vs.length≤cs.size:=by
  rcases Nat.eq_zero_or_pos vs.length with h0 | h0
  ·omega
  ·have:=hc (vs.length-1) _ (List.getElem?_eq_getElem (by omega))
   have:=(Array.getElem?_eq_some_iff.1 this).1
   omega
 refine .inr ⟨b,0,xs.length,cs,t,fr,rfl,hM,hb,Nat.le_refl _,by omega,?_⟩
 have e:(cs.toList.drop 0).take (xs.length*A.n)=vs:=by
  apply List.ext_getElem
  ·simp;omega
  ·intro j h1 h2
   have:=hc j _ (List.getElem?_eq_getElem h2)
   simp only [List.drop_zero,List.getElem_take,Array.getElem_toList]
   rw [Nat.zero_add] at this
   exact (Array.getElem?_eq_some_iff.1 this).2
 rw [e];exact hA
theorem Ui {β:Type} {xs:List β} {j:Int} {x:β} {n:Nat} (hx:idx xs j=some x) (hl:xs.length=n):inB j n=true:=by
 obtain ⟨h0,hi,_⟩:=rU hx
 exact jR.2 ⟨h0,by omega⟩
theorem H3 {M:Nat→Prop}: ∀ l:List Str,ARd RS M w (l.map S) l
 | []=>ARd.nil
 | x::l=>ARd.cons (A:=RS) (c:=[S x]) rfl (H3 l)
theorem Fs {M:Nat→Prop} {k:IntKind}: ∀ l:List Int,ARd (RI k) M w (l.map (Value.int k)) l
 | []=>ARd.nil
 | x::l=>ARd.cons (A:=RI k) (c:=[Value.int k x]) rfl (Fs l)
end
section
variable {P : Program} {ρ : Option Nat} {Q : aI} {n : Nat} {D : List Deferred} {E : Env} {w : World} {ops : Array Oper} {rest : List Oper} {Γ : Ctx} {g : Bool}
variable {dst : Option Tmp} {d : Tmp} {ty : TypeId} {pos : String} {af : Array Edge} {gd : Option (Nat × Bool)}
theorem ob {x y:Operand} {p:Addr} {i:Int} {k:IntKind} {m len bytes:Nat} {z:Value} {t e:TypeId} (ht:P.underlying t=some (.array len e)) (hti:TI P e m bytes z) (hx:Opd E g x (.pointer (some p))) (hy:Opd E g y (.int k i))
  (hi:g=true→inB i len=true):Run P E g ⟨dst,.indexAddr t x y,ty,pos,af,gd⟩ w (.pointer (some (p.add (i.toNat*m)))):=
 fun n' a hf hg=>by
  obtain ⟨i',hii,hs,_,_⟩:=hti.out
  obtain ⟨h0,h1⟩:=jR.1 (hi hg)
  simp [execOp,hx n' a hf hg,hy n' a hf hg,Instr.indexAt,asIntOf,run_underlying ht,Instr.sureAddr,h0,h1,sizeOf,typeInfo,hii,hs]
theorem Run_arrAt {x y:Operand} {b off:Nat} {j:Nat} {i:Int} {k:IntKind} {m len bytes:Nat} {z:Value} {t e:TypeId} (ht:P.underlying t=some (.array len e)) (hti:TI P e m bytes z) (hx:Opd E g x (.pointer (some ⟨b,off,none⟩))) (hy:Opd E g y (.int k i))
  (hj:i=(j:Int)) (hi:Nat.blt j len=true):Run P E g ⟨dst,.indexAddr t x y,ty,pos,af,gd⟩ w (.pointer (some ⟨b,off+j*m,none⟩)):=
 fun n' a hf hg=>by
  have hlt:j<len:=by simpa using hi
  have hin:inB i len=true:=jR.2 ⟨by omega,by omega⟩
  have h:=ob (P:=P) (dst:=dst) (ty:=ty) (pos:=pos) (af:=af) (gd:=gd) (w:=w) (g:=g) (E:=E) (x:=x) (y:=y) (i:=i) ht hti hx hy (fun _=>hin) n' a hf hg
  subst hj
  simp only [Int.toNat_natCast] at h
  have e1:(⟨b,off,none⟩:Addr).add (j*m)=⟨b,off+j*m,none⟩:=by
   unfold Addr.add;split <;> simp_all
  rw [e1] at h
  exact h
theorem Mz {x:Operand} {p:Addr} {len:Nat} {m bytes:Nat} {z:Value} {t e:TypeId} (ht:P.underlying t=some (.array len e)) (hti:TI P e m bytes z) (hpos:Nat.blt 0 len=true) (hx:Opd E g x (.pointer (some p))):
  Run P E g ⟨dst,.slice t x none none none,ty,pos,af,gd⟩ w (.slice (some p) len len):=
 fun n' a hf hg=>by
  obtain ⟨i',hii,hs,_,_⟩:=hti.out
  have h0:0<len:=by simpa using hpos
  simp [execOp,hx n' a hf hg,Instr.sliceAt,run_underlying ht,Instr.sureAddr,Instr.sliceBounds,sizeOf,typeInfo,hii,Addr.add]
theorem J3 {α:Type} {A:Rep α} {M:Nat→Prop} {p:SLV} {xs:List α} (h:SRd A M w (sl p) xs):(p=(none,0,0)∧xs=[])∨mQ (sl p)=false:=by
 rcases h with ⟨⟨a0,h⟩,rfl⟩ | ⟨b,off,cap,cs,e,fr,h,_⟩
 ·cases a0 with
  | none=>
   obtain ⟨a,l,c⟩:=p
   simp only [sl,Value.slice.injEq] at h
   exact .inl ⟨by rw [h.1,h.2.1,h.2.2],rfl⟩
  | some a0=>rw [h];exact .inr rfl
 ·rw [h];exact .inr rfl
theorem JR {α:Type} {A:Rep α} {e:TypeId} {M:Nat→Prop} {p:SLV} {xs:List α} {R:List Nat} (h:Own A e M w (sl p) xs R):(mQ (sl p)=true∧xs=[])∨mQ (sl p)=false:=by
 cases hn:mQ (sl p)
 ·exact .inr rfl
 ·refine .inl ⟨rfl,?_⟩
  obtain ⟨a,l,c⟩:=p
  rcases h with ⟨_,cells,⟨_,h⟩,_⟩ | ⟨_,h,_⟩
  ·rcases h with ⟨_,h0⟩ | ⟨g,cap,cur,hv,_⟩
   ·exact List.eq_nil_of_length_eq_zero h0
   ·rw [hv] at hn;cases hn
  ·exact h
end
/-! guarded operations that change the world -/
section
variable {P : Program} {ρ : Option Nat} {Q : aI} {n : Nat} {D : List Deferred} {E : Env} {w : World} {ops : Array Oper} {rest : List Oper} {Γ : Ctx} {g : Bool}
variable {d : Tmp} {ty : TypeId} {pos : String} {af : Array Edge}
def RunWG (P:Program) (E:Env) (g:Bool) (o:Oper) (w:World) (v:Value) (w':World):Prop:=
 ∀ n a,Fits n E a→g=true→(execOp a.eval o).run P w= .ok (.value v) w'
theorem sat_addG0 {α:Type} {A:Rep α} {vs:List Value} {x:α} (hs:Sat Γ w) (hg:g=false):Sat (Se g A vs x::Γ) w:=hs.add rfl (fun h=>by rw [hg] at h;cases h)
end
end Go.Proofs.YtgcgmclghbebjaaGreat
namespace Go.Proofs.YtgcgmclghbebjaaGreat
structure sw (P:Program) (kt:TypeId) {κ:Type} [BEq κ] (ke:κ→Value):Prop where
 ut: ∃ d,P.underlying kt=some d∧ ∀ a b,Instr.sameNow d (ke a) (ke b)=some (a==b)
 bits: ∀ a b,(a==b)=true→a=b∧Instr.sameBits 10000 (ke b) (ke a)=true
 check: ∀ (em:Bool) (a:κ) (w:World),(Instr.checkKey em 10000 kt (ke a)).run P w= .ok () w
theorem sw.int {P:Program} {kt:TypeId} {k:IntKind} (h:P.underlying kt=some (.int k)):sw P kt (Value.int k) where
 ut:=⟨_,h,fun a b=>by simp [Instr.sameNow]⟩
 bits a b h:=by
  have:a=b:=by simpa using h
  subst this
  exact ⟨rfl,by simp [Instr.sameBits]⟩
 check em a w:=by
  show (Instr.checkKey em (9999+1) kt _).run P w=_
  unfold Instr.checkKey
  simp [run_underlying h]
theorem SJ (a b:Str):((⟨a.toArray⟩:ByteArray)==(⟨b.toArray⟩:ByteArray))=(a==b):=by
 rw [Bool.eq_iff_iff,MapKept.bytes_beq,beq_iff_eq]
 constructor
 ·intro h
  have:=congrArg ByteArray.toList h
  rwa [wO,wO] at this
 ·intro h;rw [h]
theorem sw.str {P:Program} {kt:TypeId} (h:P.underlying kt=some .string):sw P kt S where
 ut:=⟨_,h,fun a b=>by simp only [Instr.sameNow,S,SJ]⟩
 bits a b h:=by
  have:a=b:=by simpa using h
  subst this
  exact ⟨rfl,by simp only [Instr.sameBits,S,SJ,h]⟩
 check em a w:=by
  show (Instr.checkKey em (9999+1) kt _).run P w=_
  unfold Instr.checkKey
  simp [run_underlying h,S]
def kS {κ ν:Type} [BEq κ] (l:List (κ×ν)) (k:κ):Option ν:=match l with
 | []=>none
 | p::l=>bif k==p.1 then some p.2 else kS l k
def kI {κ ν:Type} [BEq κ] (l:List (κ×ν)) (k:κ) (v:ν):List (κ×ν):=match l with
 | []=>[(k,v)]
 | p::l=>bif k==p.1 then (k,v)::l else p::kI l k v
section
variable {κ ν : Type} [BEq κ] {ke : κ → Value} {vi : ν → Value}
def kvs (ke:κ→Value) (vi:ν→Value) (es:List MapEntry) (l:List (κ×ν)):Prop:=es.map (fun e=>(e.key,e.val))=l.map fun p=>(ke p.1,vi p.2)
def gU (ke:κ→Value) (vi:ν→Value) (w:World) (v:Value) (d:Option (List (κ×ν))):Prop:=
 (v= .map none∧d=none)∨ ∃ b es clock l,v= .map (some b)∧d=some l∧w.heap[b]? =some (.map es clock)∧kvs ke vi es.toList l
def xk:Value→List Nat
 | .map (some b)=>[b]
 | _=>[]
omit [BEq κ] in
theorem gU.nil {w:World}:gU ke vi w (.map none) none:= .inl ⟨rfl,rfl⟩
omit [BEq κ] in
theorem gU.lt {w:World} {v:Value} {d:Option (List (κ×ν))} (h:gU ke vi w v d): ∀ b∈xk v,b<w.heap.size:=fun b hb=>by
 rcases h with ⟨rfl,_⟩ | ⟨b',es,clock,l,rfl,_,hh,_⟩
 ·cases hb
 ·simp [xk] at hb;subst hb;exact (Array.getElem?_eq_some_iff.1 hh).1
omit [BEq κ] in
theorem gU.bm {w w':World} {v:Value} {d:Option (List (κ×ν))} (h:gU ke vi w v d) (k: ∀ b∈xk v,w'.heap[b]? =w.heap[b]?):gU ke vi w' v d:=by
 rcases h with h | ⟨b,es,clock,l,rfl,hd,hh,hk⟩
 ·exact .inl h
 ·exact .inr ⟨b,es,clock,l,rfl,hd,by rw [k b (by simp [xk])];exact hh,hk⟩
omit [BEq κ] in
theorem gU.ext {w w':World} {v:Value} {d:Option (List (κ×ν))} (h:gU ke vi w v d) (x:Ext w w'):gU ke vi w' v d:=h.bm fun b hb=>x.block b (h.lt b hb)
theorem uL {d:TypeDesc} (hn: ∀ a b:κ,Instr.sameNow d (ke a) (ke b)=some (a==b)) (k:κ): ∀ (es:List MapEntry) (l:List (κ×ν)) (i:Nat),kvs ke vi es l→
  (kS l k=none∧(l.any fun p=>k==p.1)=false∧Instr.findNow d (ke k) es i=some none)∨
  ∃ j v,kS l k=some v∧Instr.findNow d (ke k) es i=some (some (i+j,vi v))∧j<es.length∧(∃ p,l[j]? =some p∧(k==p.1)=true∧ ∀ q,kI l k q=l.set j (k,q))
 | [],[],i,_=> .inl ⟨rfl,rfl,rfl⟩
 | [],_::_,_,h=>by simp [kvs] at h
 | _::_,[],_,h=>by simp [kvs] at h
 | e::es,p::l,i,h=>by
  simp only [kvs,List.map_cons,List.cons.injEq,Prod.mk.injEq] at h
  obtain ⟨⟨h1,h2⟩,h3⟩:=h
  cases hk:(k==p.1)
  ·rcases uL hn k es l (i+1) h3 with ⟨a,b,c⟩ | ⟨j,v,a,b,c,q,hq,hq1,hq2⟩
   ·exact .inl ⟨by simp [kS,hk,a],by simp [hk,b],by simp [Instr.findNow,h1,hn,hk,c]⟩
   ·refine .inr ⟨j+1,v,by simp [kS,hk,a],?_,by simpa using c,q,by simpa using hq,hq1,fun u=>by simp [kI,hk,hq2]⟩
    simp only [Instr.findNow,h1,hn,hk,b]
    congr 3;omega
  ·exact .inr ⟨0,p.2,by simp [kS,hk],by simp [Instr.findNow,h1,hn,hk,h2],by simp,p,by simp,hk,fun u=>by simp [kI,hk]⟩
theorem Ow {l:List (κ×ν)} {k:κ} {v:ν} (h:(l.any fun p=>k==p.1)=false):kI l k v=l++[(k,v)]:=by
 induction l with
 | nil=>rfl
 | cons p l ih=>
  simp only [List.any_cons,Bool.or_eq_false_iff] at h
  simp [kI,h.1,ih h.2]
end
def omap {κ ν:Type} (ke:κ→Value) (vi:ν→Value) (v:Value) (d:Option (List (κ×ν))):Item where
 own:=xk v
 P _ w:=gU ke vi w v d
 lt h:=h.lt
 bm h _ k _:=h.bm k
 ck:=false
 hp h:=by cases h
section
variable {κ ν : Type} {ke : κ → Value} {vi : ν → Value} {Γ : Ctx} {w : World} {i : Nat}
theorem Sat.omap (h:Sat Γ w) {v:Value} {d:Option (List (κ×ν))} (hi:Γ[i]? =some (Go.Proofs.YtgcgmclghbebjaaGreat.omap ke vi v d)):gU ke vi w v d:=h.at_ hi
theorem gU.isNone {v:Option Nat} {d:Option (List (κ×ν))} (h:gU ke vi w (.map v) d):v.isNone=d.isNone:=by
 rcases h with ⟨h1,rfl⟩ | ⟨b,es,clock,l,h1,rfl,_⟩ <;> cases h1 <;> rfl
end
section
variable {κ ν : Type} [BEq κ] {ke : κ → Value} {vi : ν → Value}
variable {P : Program} {E : Env} {w : World} {g : Bool}
variable {dst : Option Tmp} {ty : TypeId} {pos : String} {af : Array Edge} {gd : Option (Nat × Bool)}
def dL (d:Option (List (κ×ν))) (k:κ) (z:ν):ν:=((d.getD []) |> fun l=>kS l k).getD z
def Ee (d:Option (List (κ×ν))) (k:κ):Bool:=(kS (d.getD []) k).isSome
theorem Cy {kt et t:TypeId} (hk:sw P kt ke) (ht:P.underlying t=some (.map kt et)) {z:ν} (hz:(zeroValue et).run P w= .ok (vi z) w) {v:Value} {d:Option (List (κ×ν))} (h:gU ke vi w v d) (k:κ) (ok:Bool):
  (Instr.lookup t v (ke k) ok).run P w= .ok (bif ok then .tuple #[vi (dL d k z),.bool (Ee d k)] else vi (dL d k z)) w:=by
 obtain ⟨de,hde,hn⟩:=hk.ut
 rcases h with ⟨rfl,rfl⟩ | ⟨b,es,clock,l,rfl,rfl,hh,hkv⟩
 ·have:Instr.findNow de (ke k) [] 0=some none:=rfl
  cases ok <;> simp [Instr.lookup,run_underlying ht,hk.check,Instr.findKey,run_underlying hde,this,hz,dL,Ee,kS,Result.andThen]
 ·rcases uL hn k es.toList l 0 hkv with ⟨a,_,c⟩ | ⟨j,u,a,c,_⟩
  ·cases ok <;> simp [Instr.lookup,run_underlying ht,MapKept.run_getObj_map hh,hk.check,Instr.findKey,run_underlying hde,c,hz,dL,Ee,a,Result.andThen]
  ·cases ok <;> simp [Instr.lookup,run_underlying ht,MapKept.run_getObj_map hh,hk.check,Instr.findKey,run_underlying hde,c,dL,Ee,a,Result.andThen]
theorem L8 {x y:Operand} {kt et t:TypeId} (hk:sw P kt ke) (ht:P.underlying t=some (.map kt et)) {z:ν} (hz:(zeroValue et).run P w= .ok (vi z) w) {v:Value} {d:Option (List (κ×ν))} {k:κ} (hx:Opd E g x v) (hy:Opd E g y (ke k)) (h:g=true→gU ke vi w v d):
  Run P E g ⟨dst,.lookup t x y false,ty,pos,af,gd⟩ w (vi (dL d k z)):=fun n a hf hg=>by
 simp [execOp,hx n a hf hg,hy n a hf hg,Cy hk ht hz (h hg) k false]
theorem H2 {x y:Operand} {kt et t:TypeId} (hk:sw P kt ke) (ht:P.underlying t=some (.map kt et)) {z:ν} (hz:(zeroValue et).run P w= .ok (vi z) w) {v:Value} {d:Option (List (κ×ν))} {k:κ} (hx:Opd E g x v) (hy:Opd E g y (ke k)) (h:g=true→gU ke vi w v d):
  Run P E g ⟨dst,.lookup t x y true,ty,pos,af,gd⟩ w (.tuple #[vi (dL d k z),.bool (Ee d k)]):=fun n a hf hg=>by
 simp [execOp,hx n a hf hg,hy n a hf hg,Cy hk ht hz (h hg) k true]
end
section
variable {κ ν : Type} {ke : κ → Value} {vi : ν → Value}
variable {P : Program} {ρ : Option Nat} {Q : aI} {n : Nat} {D : List Deferred} {E : Env} {w : World} {ops : Array Oper} {rest : List Oper} {Γ : Ctx} {i : Nat}
variable {d : Tmp} {ty : TypeId} {pos : String} {af : Array Edge}
variable [BEq κ]
omit [BEq κ] in
theorem Uf {es:List MapEntry} {l:List (κ×ν)} (h:kvs ke vi es l) {j:Nat} (f:MapEntry→MapEntry) {k:κ} {u:ν} (hf: ∀ e,es[j]? =some e→((f e).key,(f e).val)=(ke k,vi u)):kvs ke vi (es.modify j f) (l.set j (k,u)):=by
 unfold kvs at*
 have hl:es.length=l.length:=by simpa using congrArg List.length h
 apply List.ext_getElem?
 intro i
 have hi:(es.map fun e=>(e.key,e.val))[i]? =(l.map fun p=>(ke p.1,vi p.2))[i]? :=by rw [h]
 rw [List.getElem?_map,List.getElem?_map] at hi ⊢
 rw [List.getElem?_modify,List.getElem?_set]
 by_cases hij:j=i
 ·subst hij
  by_cases hlt:j<es.length
  ·have h2:j<l.length:=by omega
   have h3:=hf _ (List.getElem?_eq_getElem hlt)
   simp [List.getElem?_eq_getElem hlt,h2,Prod.mk.injEq] at h3 ⊢
   exact h3
  ·rw [List.getElem?_eq_none (by omega)]
   simp;omega
 ·simp only [hij,if_false]
  simpa using hi
theorem ET {x y z:Operand} {kt et t:TypeId} {v:Option Nat} {l:List (κ×ν)} {k:κ} {u:ν} (hk:sw P kt ke) (ht:P.underlying t=some (.map kt et)) (hx:Opd E true x (.map v)) (hy:Opd E true y (ke k)) (hz:Opd E true z (vi u)) (hm:gU ke vi w (.map v) (some l)):
  ∃ w',yQ P E ⟨none,.mapUpdate t x y z,ty,pos,af,none⟩ w w'∧Chg (xk (.map v)) w w'∧w'.heap.size=w.heap.size∧gU ke vi w' (.map v) (some (kI l k u)):=by
 obtain ⟨de,hde,hn⟩:=hk.ut
 rcases hm with ⟨h1,h2⟩ | ⟨b,es,clock,l',h1,h2,hh,hkv⟩
 ·cases h2
 cases h1;cases h2
 have hsz:=(Array.getElem?_eq_some_iff.1 hh).1
 have fin: ∀ (es':Array MapEntry) (clock':Nat),kvs ke vi es'.toList (kI l k u)→yQ P E ⟨none,.mapUpdate t x y z,ty,pos,af,none⟩ w { w with heap:=w.heap.setIfInBounds b (.map es' clock') }→
   ∃ w',yQ P E ⟨none,.mapUpdate t x y z,ty,pos,af,none⟩ w w'∧Chg (xk (.map (some b))) w w'∧w'.heap.size=w.heap.size∧gU ke vi w' (.map (some b)) (some (kI l k u)):=fun es' clock' hkv' hrun=>by
  refine ⟨_,hrun,⟨rfl,rfl,rfl,by simp,fun c _ hcb=> ?_⟩,by simp,.inr ⟨b,es',clock',_,rfl,rfl,?_,hkv'⟩⟩
  ·exact Array.getElem?_setIfInBounds_ne (fun e=>hcb (by simp [xk,e]))
  ·simp [hsz]
 rcases uL hn k es.toList l 0 hkv with ⟨_,a2,c⟩ | ⟨j,u0,_,c,hj,p,hp,hp1,hp2⟩
 ·refine fin (es.push { key:=ke k,val:=vi u,born:=clock }) (clock+1) ?_ ?_
  ·rw [Ow a2]
   unfold kvs at*
   simp [hkv]
  ·intro n a hf
   simp [execOp,hx n a hf rfl,hy n a hf rfl,hz n a hf rfl,Instr.mapUpdate,run_underlying ht,MapKept.run_getObj_map hh,hk.check,Instr.findKey,run_underlying hde,c,MapKept.run_setObj_map _ hh,Result.andThen]
 ·obtain ⟨rfl,hb2⟩:=hk.bits k p.1 hp1
  have hej: ∃ e,es.toList[j]? =some e∧e.key=ke p.1:=by
   have h3:(es.toList.map fun e=>(e.key,e.val))[j]? =(l.map fun p=>(ke p.1,vi p.2))[j]? :=by rw [hkv]
   rw [List.getElem?_map,List.getElem?_map,hp,List.getElem?_eq_getElem hj] at h3
   simp only [Option.map_some,Option.some.injEq,Prod.mk.injEq] at h3
   exact ⟨_,List.getElem?_eq_getElem hj,h3.1⟩
  obtain ⟨e,he,hek⟩:=hej
  have he':es[j]? =some e:=by simpa using he
  refine fin (es.modify j fun e=>{ e with key:=ke p.1,val:=vi u }) clock ?_ ?_
  ·rw [hp2,Array.toList_modify]
   exact Uf hkv _ (fun e _=>rfl)
  ·have hbits:Instr.sameBits 10000 e.key (ke p.1)=true:=by rw [hek];exact hb2
   intro n a hf
   simp [execOp,hx n a hf rfl,hy n a hf rfl,hz n a hf rfl,Instr.mapUpdate,run_underlying ht,MapKept.run_getObj_map hh,hk.check,Instr.findKey,run_underlying hde,c,MapKept.run_setObj_map _ hh,Result.andThen,he',Instr.keyThatStays,hbits]
end
end Go.Proofs.YtgcgmclghbebjaaGreat
