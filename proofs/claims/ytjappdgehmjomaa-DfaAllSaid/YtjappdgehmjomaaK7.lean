/-
  Own framework, part 7: regions that draw their order.
-/
import Derived.Test.YtjappdgehmjomaaK6
namespace Go.Proofs.Ytjappdgehmjomaa

/-- at a panic, whatever the temporaries -/
def AtP (Q : Post) (c : List PanicEntry) (D : List Deferred) (w : World) : Prop := ∀ a, a.defers = D → Q (.panic c) a w
def QN (Q : Post) : Post := fun e a w => match e with | .panic c => AtP Q c a.defers w | e => Q e a w
theorem AtP_then {Q : Post} {K : Act → World → Prop} {c : List PanicEntry} {D : List Deferred} {w : World} (h : AtP Q c D w) : AtP (Exit.then K Q) c D w := h
theorem AtP_blk {Q : Post} {i : Nat} {c : List PanicEntry} {D : List Deferred} {w : World} (h : AtP Q c D w) : AtP (Exit.inBlock i Q) c D w := h
theorem AtP_jmp {Q : Post} {l : Nat} {K : Act → World → Prop} {c : List PanicEntry} {D : List Deferred} {w : World} (h : AtP Q c D w) : AtP (Exit.jump l K Q) c D w := h
theorem AtP_pan {P : Program} {fn : Func} {S : Value → World → Prop} {Sp : List PanicEntry → World → Prop} {c : List PanicEntry} {w : World} (hS : Sp c w) : AtP (BP P fn S Sp) c [] w := fun a hd => by
  show LeavesInM _ _ _ _ _ _ a.defers _ _
  rw [hd]
  exact hS
theorem AtP.at {Q : Post} {c : List PanicEntry} {D : List Deferred} {w : World} {n : Nat} {E : Env} (h : AtP Q c D w) : At Q (.panic c) n D E w := fun a _ hd => h a hd
theorem put_defers' (a : Act) (d : Option Tmp) (v : Value) : (a.put d v).defers = a.defers := by cases d <;> rfl

section
variable {P : Program} {ρ : Option Nat} {ops : Array Oper} {md : Region.Mode}

/-- the operation yields v, whatever the world of J -/
def YJ (P : Program) (ops : Array Oper) (J : World → Prop) (o : Oper) (v : Value) (a : Act) : Prop :=
  (Region.wanted o (yielded ops a.tmps) = true ∧ ∀ w, J w → (execOp a.eval o).run P w = .ok (.value v) w) ∨
  (Region.wanted o (yielded ops a.tmps) = false ∧ v = undef)

theorem YJ.wpOp {J : World → Prop} {i : Nat} {o : Oper} {v : Value} {a : Act} {Q : Post} (hi : ops[i]? = some o) (hp : plainO o = true) (hy : YJ P ops J o v a)
    {K : Act → World → Prop} {w : World} (hJ : J w) (h : K (a.put o.dst v) w) : wpOpIn (FW ρ) 0 P ops Q i K a w := by
  unfold Go.wpOpIn
  simp only [hi]
  rcases hy with ⟨hw, hv⟩ | ⟨hw, rfl⟩
  · simp only [hw, if_true]; exact wpIn_of hp (by rw [hv w hJ]; exact h)
  · simp only [hw, Bool.false_eq_true, if_false]; exact ⟨fun _ _ => trivial, h⟩
theorem YJ.of_same {J : World → Prop} {o : Oper} {v : Value} {a a' : Act} (hy : YJ P ops J o v a) (he : execOp a'.eval o = execOp a.eval o)
    (hw : Region.wanted o (yielded ops a'.tmps) = Region.wanted o (yielded ops a.tmps)) : YJ P ops J o v a' := by
  unfold YJ at *
  rw [he, hw]
  exact hy

theorem wpOp_putJ {J : World → Prop} {j : Nat} {oi oj : Oper} {v : Value} {Q : Post} (hj : ops[j]? = some oj) (hpj : plainO oj = true) (hap : oi.apart ops oj = true)
    (hsi : ∀ cs b, oi.op ≠ .select cs b) (hsj : ∀ cs b, oj.op ≠ .select cs b) (hQ : ∀ c a w, Q (.panic c) (a.put oi.dst v) w → Q (.panic c) a w) {K : Act → World → Prop} {a : Act} {w : World}
    (hy : YJ P ops J oi v a) (h : wpOpIn (FW ρ) 0 P ops Q j K (a.put oi.dst v) w) :
    wpOpIn (FW ρ) 0 P ops Q j (fun a' w' => YJ P ops J oi v a' ∧ K (a'.put oi.dst v) w') a w := by
  obtain ⟨h1, h2, h3⟩ := Oper.apart_spec hap
  have keep : ∀ (a : Act), YJ P ops J oi v a → ∀ u, YJ P ops J oi v (a.put oj.dst u) := fun a hy u =>
    hy.of_same (execOp_put oi hsi a oj.dst u h3) (wanted_put oi a oj.dst u h3)
  have keepD : ∀ d, YJ P ops J oi v { a with defers := d :: a.defers } := fun d => hy.of_same rfl rfl
  unfold wpOpIn at *
  simp only [hj] at *
  rw [wanted_put oj a oi.dst v h1] at h
  split
  · rename_i hw
    simp only [hw, if_true] at h
    refine wpIn_of hpj ?_
    have h := h.2
    rw [show (FW ρ).round = ρ from rfl, plainO_sem hpj, execOp_put oj hsj a oi.dst v h1] at h
    generalize (execOp a.eval oj).run P w = r at *
    cases r with
    | ok n w' =>
      cases n <;> simp only [Oper.uponIn] at h ⊢
      case value u => exact ⟨keep a hy u, by rw [← Act.put_comm a v u h2]; exact h⟩
      case skip => exact ⟨keep a hy _, by rw [← Act.put_comm a v undef h2]; exact h⟩
      case defer d =>
        refine ⟨keep _ (keepD d) _, ?_⟩
        rw [← Act.put_comm _ v undef h2, ← Act.put_defers]
        exact h
      case enter f args =>
        refine ⟨h.1, CallsIn.mono h.2 fun e w'' he => ?_⟩
        cases e with
        | returned u => exact ⟨keep a hy u, by rw [← Act.put_comm a v u h2]; exact he⟩
        | panicked c => exact hQ _ _ _ he
        | outgrown => exact he
      case row row args => exact ⟨h.1, RowsIn.mono h.2 fun u w'' he => ⟨keep a hy u, by rw [← Act.put_comm a v u h2]; exact he⟩⟩
      case round l f tmps assign body =>
        refine ⟨h.1, RoundIn.mono h.2 fun e w'' he => ?_⟩
        cases e with
        | returned u => exact ⟨keep a hy u, by rw [← Act.put_comm a v u h2]; exact he⟩
        | panicked c => exact hQ _ _ _ he
        | outgrown => exact he
    | halt x w' =>
      cases x <;> simp only [Oper.uponIn] at h ⊢
      case panic u => exact hQ _ _ _ h
  · rename_i hw
    simp only [hw] at h
    exact ⟨fun _ _ => trivial, keep a hy _, by rw [← Act.put_comm a v undef h2]; exact h.2⟩

/-- does op k wait for op i? -/
def waits (md : Region.Mode) (ops : Array Oper) (k i : Nat) : Bool := match ops[k]? with
  | some o => o.after.any fun e => Region.binds md e && e.on == i
  | none => false

abbrev Pend := List (Nat × (World → Prop))
def allJ : Pend → World → Prop
  | [], _ => True
  | p :: l, w => p.2 w ∧ allJ l w
def still (md : Region.Mode) (ops : Array Oper) (k : Nat) (l : Pend) : Pend := l.filter fun p => !waits md ops k p.1

theorem allJ_nil {w : World} : allJ [] w := trivial
theorem allJ_cons {p : Nat × (World → Prop)} {l : Pend} {w : World} (h : p.2 w) (t : allJ l w) : allJ (p :: l) w := ⟨h, t⟩
theorem allJ_filter {f : Nat × (World → Prop) → Bool} {w : World} : ∀ {l : Pend}, allJ l w → allJ (l.filter f) w
  | [], _ => trivial
  | p :: l, h => by
    rw [List.filter_cons]
    split
    · exact ⟨h.1, allJ_filter h.2⟩
    · exact allJ_filter h.2

/-- whatever order is drawn, promises are kept -/
def wpP (P : Program) (ρ : Option Nat) (md : Region.Mode) (ops : Array Oper) (Q : Post) : Nat → Pend → Array Bool → Act → World → Prop
  | 0, pend, listed, a, w => allJ pend w ∧ Region.ready md ops listed = [] ∧ Q .normal a w
  | fuel + 1, pend, listed, a, w => allJ pend w ∧ (Region.ready md ops listed = [] → Q .normal a w) ∧
    ∀ i ∈ Region.ready md ops listed, wpOpIn (FW ρ) 0 P ops Q i (wpP P ρ md ops Q fuel (still md ops i pend) (listed.setIfInBounds i true)) a w

theorem wpP_drop {Q : Post} (p : Nat × (World → Prop)) : ∀ (fuel : Nat) (pend : Pend) (listed : Array Bool) (a : Act) (w : World), wpP P ρ md ops Q fuel (p :: pend) listed a w → wpP P ρ md ops Q fuel pend listed a w
  | 0, _, _, _, _, h => ⟨h.1.2, h.2⟩
  | fuel + 1, pend, listed, a, w, h => ⟨h.1.2, h.2.1, fun i hi => wpOpIn_mono (fun a' w' h' => by
      unfold still at h'
      rw [List.filter_cons] at h'
      split at h'
      · exact wpP_drop p fuel _ _ _ _ h'
      · exact h') (h.2.2 i hi)⟩
theorem wpP_any {Q : Post} : ∀ (fuel : Nat) (pend : Pend) (listed : Array Bool) (a : Act) (w : World), wpP P ρ md ops Q fuel pend listed a w → wpAnyIn (FW ρ) 0 P md ops Q fuel listed a w
  | 0, _, _, _, _, h => h.2
  | fuel + 1, _, _, _, _, h => ⟨h.2.1, fun i hi => wpOpIn_mono (fun _a' _w' h' => wpP_any fuel _ _ _ _ h') (h.2.2 i hi)⟩

theorem waits_false {k i : Nat} {o : Oper} (hk : ops[k]? = some o) (h : ∀ e ∈ o.after, Region.binds md e = true → e.on ≠ i) : waits md ops k i = false := by
  unfold waits
  simp only [hk]
  rw [Bool.eq_false_iff]
  intro ht
  obtain ⟨e, he, hb⟩ := Array.any_eq_true'.1 ht
  simp only [Bool.and_eq_true, beq_iff_eq] at hb
  exact h e he hb.1 hb.2

theorem wpP_first {Q : Post} {J : World → Prop} {i : Nat} {oi : Oper} {v : Value} (hi : ops[i]? = some oi) (hsel : ∀ (j : Nat) (o : Oper) cs b, ops[j]? = some o → o.op ≠ .select cs b)
    (hQ : ∀ c (a : Act) d v w, Q (.panic c) (a.put d v) w → Q (.panic c) a w) (hpl : ∀ (j : Nat) (o : Oper), ops[j]? = some o → plainO o = true) :
    ∀ (fuel : Nat) (pend : Pend) (listed : Array Bool) (a : Act) (w : World),
      (∀ j oj, ops[j]? = some oj → j ≠ i → listed.getD j true = false → (∀ e ∈ oj.after, Region.binds md e = true → e.on ≠ i) → oi.apart ops oj = true) →
      i ∈ Region.ready md ops listed → YJ P ops J oi v a →
      wpP P ρ md ops Q fuel ((i, J) :: pend) (listed.setIfInBounds i true) (a.put oi.dst v) w → wpP P ρ md ops Q (fuel + 1) pend listed a w := by
  intro fuel
  induction fuel with
  | zero =>
    intro pend listed a w _ hr hy H
    refine ⟨H.1.2, fun h => (by rw [h] at hr; cases hr), fun j hj => ?_⟩
    by_cases hji : j = i
    · subst hji; exact hy.wpOp hi (hpl _ _ hi) H.1.1 ⟨allJ_filter H.1.2, H.2⟩
    · have := ready_mono hj hji
      rw [H.2.1] at this
      cases this
  | succ fuel ih =>
    intro pend listed a w hfree hr hy H
    refine ⟨H.1.2, fun h => (by rw [h] at hr; cases hr), fun j hj => ?_⟩
    by_cases hji : j = i
    · subst hji
      refine hy.wpOp hi (hpl _ _ hi) H.1.1 ?_
      have H' := wpP_drop _ _ _ _ _ _ H
      -- fewer promises
      have key : ∀ (fuel : Nat) (pend : Pend) (f : Nat × (World → Prop) → Bool) (listed : Array Bool) (a : Act) (w : World), wpP P ρ md ops Q fuel pend listed a w → wpP P ρ md ops Q fuel (pend.filter f) listed a w := by
        intro fuel
        induction fuel with
        | zero => intro pend f listed a w h; exact ⟨allJ_filter h.1, h.2⟩
        | succ fuel ih2 =>
          intro pend f listed a w h
          refine ⟨allJ_filter h.1, h.2.1, fun i hi => wpOpIn_mono (fun a' w' h' => ?_) (h.2.2 i hi)⟩
          have : still md ops i (pend.filter f) = (still md ops i pend).filter f := by
            unfold still; rw [List.filter_filter, List.filter_filter]; congr 1; funext p; exact Bool.and_comm ..
          rw [this]
          exact ih2 _ f _ _ _ h'
      exact key _ _ _ _ _ _ H'
    · have h1 := H.2.2 j (ready_mono hj hji)
      obtain ⟨hjun, oj, hoj, hall⟩ := mem_ready.1 hj
      have hnot : ∀ e ∈ oj.after, Region.binds md e = true → e.on ≠ i := fun e he hb heq => by
        have h1 := hall e he hb
        have h0 := (mem_ready.1 hr).1
        rw [heq] at h1
        rcases Nat.lt_or_ge i listed.size with h' | h'
        · simp [h'] at h0 h1; rw [h0] at h1; cases h1
        · simp [Array.getElem?_eq_none h'] at h1
      have h2 := wpOp_putJ hoj (hpl _ _ hoj) (hfree j oj hoj hji hjun hnot) (fun cs b => hsel i oi cs b hi) (fun cs b => hsel j oj cs b hoj) (fun c a w => hQ c a _ _ w) hy h1
      have hfree' : ∀ k ok, ops[k]? = some ok → k ≠ i → (listed.setIfInBounds j true).getD k true = false →
          (∀ e ∈ ok.after, Region.binds md e = true → e.on ≠ i) → oi.apart ops ok = true := fun k ok hk hki hun hno => by
        refine hfree k ok hk hki ?_ hno
        by_cases hjk : j = k
        · subst hjk; exact hjun
        · rw [getD_set_ne true hjk] at hun; exact hun
      refine wpOpIn_mono (fun a' w' h3 => ih _ (listed.setIfInBounds j true) a' w' hfree' (ready_mono hr (Ne.symm hji)) h3.1 ?_) h2
      rw [Array.setIfInBounds_comm _ _ hji]
      have e : still md ops j ((i, J) :: pend) = (i, J) :: still md ops j pend := by
        unfold still; rw [List.filter_cons, waits_false hoj hnot]; rfl
      rw [e] at h3
      exact h3.2

/-- the orders that the walk takes: quiet operations (q) as they come; an operation that changes the world where it is the only one that is ready (l), or one of two (l2); m: the operations that have been, a bit each -/
inductive OT where
  | nil
  | q (k m : Nat) (r : OT)
  | l (k m : Nat) (r : OT)
  | l2 (m : Nat) (k₁ : Nat) (r₁ : OT) (k₂ : Nat) (r₂ : OT)
def OT.length : OT → Nat
  | .nil => 0
  | .q _ _ r => r.length + 1
  | .l _ _ r => r.length + 1
  | .l2 _ _ r _ _ => r.length + 1

/-- the operations that an operation waits for, a bit each -/
def amask : List Edge → Nat
  | [] => 0
  | e :: l => bif Region.binds .any e then Nat.lor (Nat.shiftLeft 1 e.on) (amask l) else amask l
theorem amask_bit : ∀ (l : List Edge) (i : Nat), (amask l).testBit i = l.any (fun e => Region.binds .any e && e.on == i)
  | [], i => by simp [amask]
  | e :: l, i => by
    simp only [amask, List.any_cons]
    cases h : Region.binds .any e
    · simp [amask_bit l i]
    · have h1 : (Nat.lor (Nat.shiftLeft 1 e.on) (amask l)).testBit i = ((1 <<< e.on) ||| amask l).testBit i := rfl
      rw [cond_true, h1, Nat.testBit_or, amask_bit l i, Nat.testBit_shiftLeft]
      simp only [Bool.true_and]
      congr 1
      by_cases hi : e.on = i
      · subst hi; simp
      · have h2 : (e.on == i) = false := by simpa using hi
        rw [h2]
        by_cases h3 : e.on ≤ i
        · obtain ⟨n, hn⟩ : ∃ n, i - e.on = n + 1 := ⟨i - e.on - 1, by omega⟩
          rw [hn]; simp [Nat.testBit_succ]
        · simp [h3]
def rdyB (a m : Nat) : Bool := Nat.beq (Nat.land a m) a
theorem rdyB_iff {a m : Nat} : rdyB a m = true ↔ ∀ i, a.testBit i = true → m.testBit i = true := by
  unfold rdyB
  constructor
  · intro h i hi
    have h1 : a &&& m = a := Nat.eq_of_beq_eq_true h
    have h2 : (a &&& m).testBit i = true := by rw [h1]; exact hi
    rw [Nat.testBit_and] at h2
    simp only [Bool.and_eq_true] at h2
    exact h2.2
  · intro h
    have h1 : a &&& m = a := by
      apply Nat.eq_of_testBit_eq
      intro i
      rw [Nat.testBit_and]
      cases hi : a.testBit i
      · rfl
      · rw [h i hi]; rfl
    show Nat.beq (a &&& m) a = true
    rw [h1]; simp
/-- nobody is ready but those of ks -/
def onlyB : List Nat → Nat → Nat → List Nat → Bool
  | [], _, _, _ => true
  | a :: as, j, m, ks => (Nat.testBit m j || !(rdyB a m) || ks.any (Nat.beq j)) && onlyB as (j + 1) m ks
theorem onlyB_spec : ∀ (l : List Nat) (j0 m : Nat) (ks : List Nat), onlyB l j0 m ks = true → ∀ j a, l[j]? = some a → m.testBit (j0 + j) = false → rdyB a m = true → (j0 + j) ∈ ks
  | [], _, _, _, _, j, a, h, _, _ => by simp at h
  | a0 :: as, j0, m, ks, hB, j, a, h, h1, h2 => by
    simp only [onlyB, Bool.and_eq_true, Bool.or_eq_true, Bool.not_eq_true', List.any_eq_true] at hB
    cases j with
    | zero =>
      simp only [List.getElem?_cons_zero, Option.some.injEq] at h
      subst h
      rcases hB.1 with (h3 | h3) | ⟨x, hx, h3⟩
      · rw [Nat.add_zero] at h1; rw [h1] at h3; cases h3
      · rw [h2] at h3; cases h3
      · have := Nat.eq_of_beq_eq_true h3; rw [Nat.add_zero, this]; exact hx
    | succ j =>
      simp only [List.getElem?_cons_succ] at h
      have := onlyB_spec as (j0 + 1) m ks hB.2 j a h (by rw [← h1]; congr 1; omega) h2
      have e : j0 + 1 + j = j0 + (j + 1) := by omega
      rwa [e] at this
def rdyAt (masks : List Nat) (k m : Nat) : Bool := match masks[k]? with
  | some a => !(Nat.testBit m k) && rdyB a m
  | none => false
def bit (m k : Nat) : Nat := Nat.lor m (Nat.shiftLeft 1 k)
theorem bit_bit (m k i : Nat) : (bit m k).testBit i = (m.testBit i || k == i) := by
  have h1 : (bit m k).testBit i = (m ||| (1 <<< k)).testBit i := rfl
  rw [h1, Nat.testBit_or, Nat.testBit_shiftLeft]
  congr 1
  by_cases hi : k = i
  · subst hi; simp
  · have h2 : (k == i) = false := by simpa using hi
    rw [h2]
    by_cases h3 : k ≤ i
    · obtain ⟨n, hn⟩ : ∃ n, i - k = n + 1 := ⟨i - k - 1, by omega⟩
      rw [hn]; simp [Nat.testBit_succ]
    · simp [h3]
def walkB (masks : List Nat) : OT → Nat → Bool
  | .nil, m => onlyB masks 0 m []
  | .q k m' r, m => Nat.beq m' m && rdyAt masks k m' && walkB masks r (bit m' k)
  | .l k m' r, m => Nat.beq m' m && rdyAt masks k m' && onlyB masks 0 m' [k] && walkB masks r (bit m' k)
  | .l2 m' k₁ r₁ k₂ r₂, m => Nat.beq m' m && rdyAt masks k₁ m' && rdyAt masks k₂ m' && onlyB masks 0 m' [k₁, k₂] && Nat.beq r₁.length r₂.length && walkB masks r₁ (bit m' k₁) && walkB masks r₂ (bit m' k₂)

/-- the listed ones are the mask's -/
def LM (n : Nat) (listed : Array Bool) (m : Nat) : Prop := listed.size = n ∧ ∀ i, i < n → listed.getD i true = m.testBit i
theorem LM.set {n k m : Nat} {listed : Array Bool} (h : LM n listed m) : LM n (listed.setIfInBounds k true) (bit m k) := by
  refine ⟨by simp [h.1], fun i hi => ?_⟩
  rw [bit_bit]
  by_cases e : k = i
  · subst e
    simp [Array.getD_eq_getD_getElem?, h.1, hi]
  · have h1 : (k == i) = false := by simpa using e
    have h2 := h.2 i hi
    rw [h1, Bool.or_false, ← h2]
    simp [Array.getD_eq_getD_getElem?, e]
theorem LM.getD {n m i : Nat} {listed : Array Bool} (h : LM n listed m) (b : Bool) (hi : i < n) : listed.getD i b = m.testBit i := by
  rw [← h.2 i hi]
  have : i < listed.size := by rw [h.1]; exact hi
  simp [Array.getD, this]
def masksB (ops : List Oper) (masks : List Nat) : Bool := match ops, masks with
  | [], [] => true
  | o :: ops, a :: as => Nat.beq (amask o.after.toList) a && masksB ops as
  | _, _ => false
theorem masksB_spec : ∀ (ops : List Oper) (masks : List Nat), masksB ops masks = true → masks = ops.map fun o => amask o.after.toList
  | [], [], _ => rfl
  | o :: ops, a :: as, h => by
    simp only [masksB, Bool.and_eq_true] at h
    rw [List.map_cons, ← Nat.eq_of_beq_eq_true h.1, ← masksB_spec ops as h.2]
  | [], _ :: _, h => by cases h
  | _ :: _, [], h => by cases h
/-- edges are of operations that are there -/
def edgesB (n : Nat) (ops : List Oper) : Bool := ops.all fun o => o.after.toList.all fun e => !Region.binds .any e || Nat.blt e.on n
section
variable {ops : Array Oper} {masks : List Nat}
theorem ready_iff (hm : masks = ops.toList.map fun o => amask o.after.toList) (he : edgesB ops.size ops.toList = true) {listed : Array Bool} {m j : Nat} (hL : LM ops.size listed m) :
    j ∈ Region.ready .any ops listed ↔ ∃ a, masks[j]? = some a ∧ m.testBit j = false ∧ rdyB a m = true := by
  rw [mem_ready]
  have hedge : ∀ {o : Oper} {e : Edge}, o ∈ ops.toList → e ∈ o.after → Region.binds .any e = true → e.on < ops.size := fun {o e} ho hin hb => by
    have h1 := List.all_eq_true.1 he o ho
    have h2 := List.all_eq_true.1 h1 e (by simpa using hin)
    rw [hb] at h2
    simpa using h2
  constructor
  · rintro ⟨h1, oj, hoj, h2⟩
    have hlt : j < ops.size := (Array.getElem?_eq_some_iff.1 hoj).1
    refine ⟨amask oj.after.toList, by rw [hm, List.getElem?_map]; simp [hoj], by rw [← hL.2 j hlt]; exact h1, ?_⟩
    rw [rdyB_iff]
    intro i hi
    rw [amask_bit, List.any_eq_true] at hi
    obtain ⟨e, hin, hb⟩ := hi
    simp only [Bool.and_eq_true, beq_iff_eq] at hb
    have hin' : e ∈ oj.after := by simpa using hin
    have hmem : oj ∈ ops.toList := by simpa using Array.mem_of_getElem? hoj
    have := h2 e hin' hb.1
    rw [hL.getD false (hedge hmem hin' hb.1), hb.2] at this
    exact this
  · rintro ⟨a, ha, h1, h2⟩
    rw [hm, List.getElem?_map] at ha
    cases ho : ops.toList[j]? with
    | none => rw [ho] at ha; cases ha
    | some oj =>
      rw [ho] at ha
      simp only [Option.map_some, Option.some.injEq] at ha
      have hoj : ops[j]? = some oj := by simpa using ho
      have hlt : j < ops.size := (Array.getElem?_eq_some_iff.1 hoj).1
      refine ⟨by rw [hL.2 j hlt]; exact h1, oj, hoj, fun e hin hb => ?_⟩
      have hmem : oj ∈ ops.toList := List.mem_of_getElem? ho
      rw [hL.getD false (hedge hmem hin hb)]
      rw [rdyB_iff] at h2
      refine h2 _ ?_
      rw [← ha, amask_bit, List.any_eq_true]
      exact ⟨e, by simpa using hin, by simp [hb]⟩
end
/-- who writes a temporary that another looks at is waited for; no temporary is written twice -/
def dstIs (t : Tmp) (o : Oper) : Bool := match o.dst with
  | some d => Nat.beq d t
  | none => false
def whoB (t : Tmp) (j a : Nat) : List Oper → List Nat → Nat → Bool
  | [], _, _ => true
  | o :: l, ms, i => (!(dstIs t o) || Nat.beq i j || Nat.testBit a i || (match ms with | m :: _ => Nat.testBit m j | [] => false)) && whoB t j a l ms.tail (i + 1)
def twiceB (t : Tmp) (j : Nat) : List Oper → Nat → Bool
  | [], _ => true
  | o :: l, i => (!(dstIs t o) || Nat.beq i j) && twiceB t j l (i + 1)
def dataB (ops : Array Oper) (all : List Oper) (mall : List Nat) : List Oper → List Nat → Nat → Bool
  | [], _, _ => true
  | o :: l, a :: as, j => (o.looksAt ops).all (fun t => whoB t j a all mall 0) && (match o.dst with | some d => twiceB d j all 0 | none => true) && dataB ops all mall l as (j + 1)
  | _ :: _, [], _ => false
theorem whoB_spec {t : Tmp} {j a : Nat} : ∀ (l : List Oper) (ms : List Nat) (i0 : Nat), whoB t j a l ms i0 = true → ∀ i o, l[i]? = some o → o.dst = some t → i0 + i ≠ j → a.testBit (i0 + i) = true ∨ ∃ m, ms[i]? = some m ∧ m.testBit j = true
  | [], _, _, _, i, o, h, _, _ => by simp at h
  | o0 :: l, ms, i0, hB, i, o, h, hd, hne => by
    simp only [whoB, Bool.and_eq_true, Bool.or_eq_true, Bool.not_eq_true'] at hB
    cases i with
    | zero =>
      simp only [List.getElem?_cons_zero, Option.some.injEq] at h
      subst h
      rcases hB.1 with ((h1 | h1) | h1) | h1
      · simp [dstIs, hd] at h1
      · exact absurd (Nat.eq_of_beq_eq_true h1) hne
      · exact .inl h1
      · cases ms with
        | nil => cases h1
        | cons m ms => exact .inr ⟨m, rfl, h1⟩
    | succ i =>
      simp only [List.getElem?_cons_succ] at h
      have e : i0 + 1 + i = i0 + (i + 1) := by omega
      have := whoB_spec l ms.tail (i0 + 1) hB.2 i o h hd (by rw [e]; exact hne)
      rw [e] at this
      rcases this with h1 | ⟨m, h1, h2⟩
      · exact .inl h1
      · refine .inr ⟨m, ?_, h2⟩
        cases ms with
        | nil => simp at h1
        | cons m0 ms => simpa using h1
theorem twiceB_spec {t : Tmp} {j : Nat} : ∀ (l : List Oper) (i0 : Nat), twiceB t j l i0 = true → ∀ i o, l[i]? = some o → o.dst = some t → i0 + i = j
  | [], _, _, i, o, h, _ => by simp at h
  | o0 :: l, i0, hB, i, o, h, hd => by
    simp only [twiceB, Bool.and_eq_true, Bool.or_eq_true, Bool.not_eq_true'] at hB
    cases i with
    | zero =>
      simp only [List.getElem?_cons_zero, Option.some.injEq] at h
      subst h
      rcases hB.1 with h1 | h1
      · simp [dstIs, hd] at h1
      · exact Nat.eq_of_beq_eq_true h1
    | succ i =>
      simp only [List.getElem?_cons_succ] at h
      have := twiceB_spec l (i0 + 1) hB.2 i o h hd
      omega
theorem dataB_spec {ops : Array Oper} {all : List Oper} {mall : List Nat} : ∀ (l : List Oper) (as : List Nat) (j0 : Nat), dataB ops all mall l as j0 = true → ∀ j o a, l[j]? = some o → as[j]? = some a →
    (∀ t ∈ o.looksAt ops, whoB t (j0 + j) a all mall 0 = true) ∧ (∀ d, o.dst = some d → twiceB d (j0 + j) all 0 = true)
  | [], _, _, _, j, o, a, h, _ => by simp at h
  | o0 :: l, [], _, h, _, _, _, _, _ => by cases h
  | o0 :: l, a0 :: as, j0, hB, j, o, a, h, ha => by
    simp only [dataB, Bool.and_eq_true, List.all_eq_true] at hB
    cases j with
    | zero =>
      simp only [List.getElem?_cons_zero, Option.some.injEq] at h ha
      subst h; subst ha
      refine ⟨fun t ht => hB.1.1 t ht, fun d hd => ?_⟩
      have := hB.1.2
      rw [hd] at this
      exact this
    | succ j =>
      simp only [List.getElem?_cons_succ] at h ha
      have e : j0 + 1 + j = j0 + (j + 1) := by omega
      have := dataB_spec l as (j0 + 1) hB.2 j o a h ha
      rwa [e] at this
theorem apart_of {ops : Array Oper} {masks : List Nat} (hm : masks = ops.toList.map fun o => amask o.after.toList) (hD : dataB ops ops.toList masks ops.toList masks 0 = true) {i j : Nat} {oi oj : Oper} (hi : ops[i]? = some oi) (hj : ops[j]? = some oj) (hne : j ≠ i)
    (h1 : (amask oj.after.toList).testBit i = false) (h2 : (amask oi.after.toList).testBit j = false) : oi.apart ops oj = true := by
  have hi' : ops.toList[i]? = some oi := by simpa using hi
  have hj' : ops.toList[j]? = some oj := by simpa using hj
  have mi : masks[i]? = some (amask oi.after.toList) := by rw [hm, List.getElem?_map, hi']; rfl
  have mj : masks[j]? = some (amask oj.after.toList) := by rw [hm, List.getElem?_map, hj']; rfl
  obtain ⟨si, ti⟩ := dataB_spec _ _ 0 hD i oi _ hi' mi
  obtain ⟨sj, tj⟩ := dataB_spec _ _ 0 hD j oj _ hj' mj
  simp only [Nat.zero_add] at si ti sj tj
  unfold Oper.apart
  simp only [Bool.and_eq_true]
  constructor
  · cases hd : oi.dst with
    | none => rfl
    | some d =>
      simp only [Bool.and_eq_true, Bool.not_eq_true', bne_iff_ne]
      refine ⟨?_, ?_⟩
      · rw [Bool.eq_false_iff]
        intro hc
        rcases whoB_spec _ _ 0 (sj d (by simpa using hc)) i oi hi' hd (by omega) with h | ⟨m, h, h'⟩
        · rw [Nat.zero_add, h1] at h; cases h
        · rw [mi] at h; cases h; rw [h2] at h'; cases h'
      · intro hc
        have := twiceB_spec _ 0 (tj d hc) i oi hi' hd
        omega
  · cases hd : oj.dst with
    | none => rfl
    | some d =>
      simp only [Bool.not_eq_true']
      rw [Bool.eq_false_iff]
      intro hc
      rcases whoB_spec _ _ 0 (si d (by simpa using hc)) j oj hj' hd (by omega) with h | ⟨m, h, h'⟩
      · rw [Nat.zero_add, h2] at h; cases h
      · rw [mj] at h; cases h; rw [h1] at h'; cases h'

def orderB (ops : Array Oper) (masks : List Nat) (order : OT) : Bool :=
  ops.toList.all plainO && Region.noSelect ops && Nat.beq order.length ops.size && masksB ops.toList masks && edgesB ops.size ops.toList && dataB ops ops.toList masks ops.toList masks 0 && walkB masks order 0

/-- the walk, in that order -/
def wpD (P : Program) (ρ : Option Nat) (ops : Array Oper) (Q : Post) : OT → Pend → Act → World → Prop
  | .nil, _, a, w => Q .normal a w
  | .q k _ r, pend, a, w => match ops[k]? with
    | none => False
    | some o => ∃ v J, J w ∧ YJ P ops J o v a ∧ wpD P ρ ops Q r ((k, J) :: pend) (a.put o.dst v) w
  | .l k _ r, pend, a, w => match ops[k]? with
    | none => False
    | some _ => wpOpIn (FW ρ) 0 P ops Q k (fun a' w' => allJ (still .any ops k pend) w' ∧ wpD P ρ ops Q r (still .any ops k pend) a' w') a w
  | .l2 _ k₁ r₁ k₂ r₂, pend, a, w => (match ops[k₁]? with
    | none => False
    | some _ => wpOpIn (FW ρ) 0 P ops Q k₁ (fun a' w' => allJ (still .any ops k₁ pend) w' ∧ wpD P ρ ops Q r₁ (still .any ops k₁ pend) a' w') a w) ∧
    (match ops[k₂]? with
    | none => False
    | some _ => wpOpIn (FW ρ) 0 P ops Q k₂ (fun a' w' => allJ (still .any ops k₂ pend) w' ∧ wpD P ρ ops Q r₂ (still .any ops k₂ pend) a' w') a w)

theorem wpD_P {Q : Post} {masks : List Nat} (hm : masks = ops.toList.map fun o => amask o.after.toList) (he : edgesB ops.size ops.toList = true) (hD : dataB ops ops.toList masks ops.toList masks 0 = true)
    (hs : Region.noSelect ops = true) (hQ : ∀ c (a : Act) d v w, Q (.panic c) (a.put d v) w → Q (.panic c) a w) (hpl : ∀ (j : Nat) (o : Oper), ops[j]? = some o → plainO o = true) : ∀ (order : OT) (pend : Pend) (listed : Array Bool) (m : Nat) (a : Act) (w : World),
    LM ops.size listed m → walkB masks order m = true → allJ pend w → wpD P ρ ops Q order pend a w → wpP P ρ .any ops Q order.length pend listed a w := by
  have rdy : ∀ {k m : Nat} {listed : Array Bool}, LM ops.size listed m → rdyAt masks k m = true → k ∈ Region.ready .any ops listed := fun {k m listed} hL h => by
    rw [ready_iff hm he hL]
    unfold rdyAt at h
    cases ha : masks[k]? with
    | none => rw [ha] at h; cases h
    | some a =>
      rw [ha] at h
      simp only [Bool.and_eq_true, Bool.not_eq_true'] at h
      exact ⟨a, rfl, h.1, h.2⟩
  have only : ∀ {m : Nat} {ks : List Nat} {listed : Array Bool}, LM ops.size listed m → onlyB masks 0 m ks = true → ∀ i ∈ Region.ready .any ops listed, i ∈ ks := fun {m ks listed} hL h i hi => by
    obtain ⟨a, ha, h1, h2⟩ := (ready_iff hm he hL).1 hi
    have := onlyB_spec masks 0 m ks h i a ha (by rw [Nat.zero_add]; exact h1) h2
    rwa [Nat.zero_add] at this
  intro order
  induction order with
  | nil =>
    intro pend listed m a w hL hB hJ h
    refine ⟨hJ, ?_, h⟩
    cases hr : Region.ready .any ops listed with
    | nil => rfl
    | cons x xs => exact absurd (only hL hB x (by rw [hr]; exact List.mem_cons_self ..)) (by simp)
  | q k m' rest ih =>
    intro pend listed m a w hL hB hJ h
    simp only [walkB, Bool.and_eq_true] at hB
    obtain ⟨⟨hm', hk⟩, hB⟩ := hB
    have := Nat.eq_of_beq_eq_true hm'; subst this
    simp only [wpD] at h
    split at h
    · exact h.elim
    · rename_i o ho
      obtain ⟨v, J, hJw, hy, h⟩ := h
      have hk' := rdy hL hk
      refine wpP_first ho (Region.noSelect_spec hs) hQ hpl rest.length pend listed a w (fun j oj hj hne hun hno => ?_) hk' hy (ih _ _ _ _ _ hL.set hB ⟨hJw, hJ⟩ h)
      refine apart_of hm hD ho hj hne ?_ ?_
      · rw [amask_bit, Bool.eq_false_iff]
        intro hc
        obtain ⟨e, hin, hb⟩ := List.any_eq_true.1 hc
        simp only [Bool.and_eq_true, beq_iff_eq] at hb
        exact hno e (by simpa using hin) hb.1 hb.2
      · rw [amask_bit, Bool.eq_false_iff]
        intro hc
        obtain ⟨e, hin, hb⟩ := List.any_eq_true.1 hc
        simp only [Bool.and_eq_true, beq_iff_eq] at hb
        obtain ⟨_, o', ho', hall⟩ := mem_ready.1 hk'
        rw [ho] at ho'; cases ho'
        have h3 := hall e (by simpa using hin) hb.1
        have hlt : j < ops.size := (Array.getElem?_eq_some_iff.1 hj).1
        rw [hb.2, hL.getD false hlt, ← hL.2 j hlt, hun] at h3
        cases h3
  | l k m' rest ih =>
    intro pend listed m a w hL hB hJ h
    simp only [walkB, Bool.and_eq_true] at hB
    obtain ⟨⟨⟨hm', hk⟩, ho⟩, hB⟩ := hB
    have := Nat.eq_of_beq_eq_true hm'; subst this
    simp only [wpD] at h
    split at h
    · exact h.elim
    · refine ⟨hJ, (fun h0 => by have := rdy hL hk; rw [h0] at this; cases this), fun i hi => ?_⟩
      have := only hL ho i hi
      rw [List.mem_singleton] at this
      subst this
      exact wpOpIn_mono (fun a' w' h' => ih _ _ _ _ _ hL.set hB h'.1 h'.2) h
  | l2 m' k₁ r₁ k₂ r₂ ih1 ih2 =>
    intro pend listed m a w hL hB hJ h
    simp only [walkB, Bool.and_eq_true] at hB
    obtain ⟨⟨⟨⟨⟨⟨hm', hk1⟩, hk2⟩, ho⟩, hlen⟩, hB1⟩, hB2⟩ := hB
    have := Nat.eq_of_beq_eq_true hm'; subst this
    have hlen' := Nat.eq_of_beq_eq_true hlen
    simp only [wpD] at h
    obtain ⟨h1, h2⟩ := h
    refine ⟨hJ, (fun h0 => by have := rdy hL hk1; rw [h0] at this; cases this), fun i hi => ?_⟩
    have := only hL ho i hi
    rw [List.mem_cons, List.mem_singleton] at this
    rcases this with rfl | rfl
    · split at h1
      · exact h1.elim
      · exact wpOpIn_mono (fun a' w' h' => ih1 _ _ _ _ _ hL.set hB1 h'.1 h'.2) h1
    · split at h2
      · exact h2.elim
      · refine wpOpIn_mono (fun a' w' h' => ?_) h2
        have := ih2 _ _ _ _ _ hL.set hB2 h'.1 h'.2
        rwa [← hlen'] at this

/-- a promise that always holds need not be noted -/
theorem allJ_true {j : Nat} : ∀ (l1 l2 : Pend) (w : World), allJ (l1 ++ l2) w → allJ (l1 ++ (j, fun _ => True) :: l2) w
  | [], _, _, h => ⟨trivial, h⟩
  | _ :: l1, l2, w, h => ⟨h.1, allJ_true l1 l2 w h.2⟩
theorem wpD_true {Q : Post} {j : Nat} : ∀ (order : OT) (l1 l2 : Pend) (a : Act) (w : World), wpD P ρ ops Q order (l1 ++ l2) a w → wpD P ρ ops Q order (l1 ++ (j, fun _ => True) :: l2) a w := by
  have still_app : ∀ (k : Nat) (l1 l2 : Pend), still .any ops k (l1 ++ l2) = still .any ops k l1 ++ still .any ops k l2 := fun k l1 l2 => List.filter_append ..
  intro order
  induction order with
  | nil => intro l1 l2 a w h; exact h
  | q k m r ih =>
    intro l1 l2 a w h
    simp only [wpD] at h ⊢
    split at h
    · exact h.elim
    · obtain ⟨v, J, hJ, hy, h⟩ := h
      exact ⟨v, J, hJ, hy, ih ((k, J) :: l1) l2 _ _ h⟩
  | l k m r ih =>
    intro l1 l2 a w h
    simp only [wpD] at h ⊢
    split at h
    · exact h.elim
    · refine wpOpIn_mono (fun a' w' h' => ?_) h
      rw [still_app] at h'
      rw [still_app]
      unfold still
      rw [List.filter_cons]
      split
      · exact ⟨allJ_true _ _ _ h'.1, ih _ _ _ _ h'.2⟩
      · exact h'
  | l2 m k₁ r₁ k₂ r₂ ih1 ih2 =>
    intro l1 l2 a w h
    simp only [wpD] at h ⊢
    obtain ⟨h1, h2⟩ := h
    refine ⟨?_, ?_⟩
    · split at h1
      · exact h1.elim
      · refine wpOpIn_mono (fun a' w' h' => ?_) h1
        rw [still_app] at h'
        rw [still_app]
        unfold still
        rw [List.filter_cons]
        split
        · exact ⟨allJ_true _ _ _ h'.1, ih1 _ _ _ _ h'.2⟩
        · exact h'
    · split at h2
      · exact h2.elim
      · refine wpOpIn_mono (fun a' w' h' => ?_) h2
        rw [still_app] at h'
        rw [still_app]
        unfold still
        rw [List.filter_cons]
        split
        · exact ⟨allJ_true _ _ _ h'.1, ih2 _ _ _ _ h'.2⟩
        · exact h'

theorem QN_panic {Q : Post} (c : List PanicEntry) (a : Act) (d : Option Tmp) (v : Value) (w : World) (h : QN Q (.panic c) (a.put d v) w) : QN Q (.panic c) a w := by
  unfold QN at *
  rwa [put_defers'] at h
end

def WD (P : Program) (ρ : Option Nat) (ops : Array Oper) (Q : Post) (n : Nat) (D : List Deferred) (order : OT) (pend : Pend) (E : Env) (w : World) : Prop :=
  ∀ a, Fits n E a → a.defers = D → wpD P ρ ops (QN Q) order pend a w

section
variable {P : Program} {ρ : Option Nat} {Q : Post} {n : Nat} {D : List Deferred} {E : Env} {w : World}

theorem wp_panic_weaken {id : Nat} {ops : Array Oper} {a : Act} (h : (Code.region id ops true).wpIn (FW ρ) 0 P (QN Q) a w) : (Code.region id ops true).wpIn (FW ρ) 0 P Q a w :=
  wpIn_mono h fun e a w hq => by cases e <;> first | exact hq | exact hq a rfl

theorem WC_region_mixed {id : Nat} {l : List Oper} (masks : List Nat) (order : OT) (hm : P.follows .mixedOrders = true) (hB : orderB l.toArray masks order = true)
    (h : ∀ w1, Ext w w1 → WD P ρ l.toArray Q n D order [] E w1) : WC P ρ (.region id l.toArray true) Q n D E w := by
  simp only [orderB, Bool.and_eq_true] at hB
  obtain ⟨⟨⟨⟨⟨⟨hpl, hsel⟩, hlen⟩, hma⟩, hed⟩, hda⟩, hwa⟩ := hB
  have hlen' := Nat.eq_of_beq_eq_true hlen
  intro a hf hd
  refine wp_panic_weaken (wpIn_region_any hm ?_)
  have hpl' : ∀ (j : Nat) (o : Oper), l.toArray[j]? = some o → plainO o = true := fun j o hj => List.all_eq_true.1 hpl o (by simpa using Array.mem_of_getElem? hj)
  rw [← hlen']
  have hL : LM l.toArray.size (Array.replicate order.length false) 0 := ⟨by simp [hlen'], fun i hi => by
    have : i < order.length := by rw [hlen']; exact hi
    simp [Array.getD, this]⟩
  exact wpP_any _ _ _ _ _ (wpD_P (masksB_spec _ _ hma) hed hda hsel QN_panic hpl' order [] _ 0 a _ hL hwa trivial (h { w with drawn := w.drawn + 1 } ⟨rfl, rfl, rfl, Nat.le_refl _, fun _ _ => rfl⟩ a hf hd))

variable {ops : Array Oper} {rest : OT} {pend : Pend} {k mk : Nat}

theorem QN_normal {a : Act} (h : Q .normal a w) : QN Q .normal a w := h
theorem WD_nil (h : At Q .normal n D E w) : WD P ρ ops Q n D .nil pend E w := fun a hf hd => h a hf hd

theorem WD_op {o : Oper} {d : Tmp} {v : Value} (J : World → Prop) (hJ : J w) (hr : ∀ w, J w → Run P E true o w v) (hk : ops[k]? = some o) (hg : o.guard = none) (hd : o.dst = some d) (hn : Nat.blt d n = true)
    (h : WD P ρ ops Q n D rest ((k, J) :: pend) ((d, true, v) :: E) w) : WD P ρ ops Q n D (.q k mk rest) pend E w := fun a hf hD => by
  simp only [wpD, hk]
  refine ⟨v, J, hJ, .inl ⟨by simp [Region.wanted, hg], fun w' hw' => hr w' hw' n a hf rfl⟩, ?_⟩
  rw [hd]
  exact h _ (hf.put hn) hD
/-- an operation that does not look at the world -/
theorem WD_pure {o : Oper} {d : Tmp} {v : Value} (hr : ∀ w, Run P E true o w v) (hk : ops[k]? = some o) (hg : o.guard = none) (hd : o.dst = some d) (hn : Nat.blt d n = true)
    (h : WD P ρ ops Q n D rest pend ((d, true, v) :: E) w) : WD P ρ ops Q n D (.q k mk rest) pend E w :=
  WD_op (fun _ => True) trivial (fun w _ => hr w) hk hg hd hn (fun a hf hD => wpD_true rest [] pend a w (h a hf hD))
theorem WD_opG {o : Oper} {d : Tmp} {v : Value} {j : Nat} {pol : Bool} {rj : Tmp} {gj bj : Bool} {g : Bool} (J : World → Prop) (hJ : J w) (hgd : o.guard = some (j, pol)) (hj : (ops[j]?).bind (·.dst) = some rj)
    (hl : look E rj = some (gj, .bool bj)) (hnj : Nat.blt rj n = true) (hG : (gj && (bj == pol)) = g)
    (hr : ∀ w, J w → Run P E g o w v) (hk : ops[k]? = some o) (hd : o.dst = some d) (hn : Nat.blt d n = true)
    (h : WD P ρ ops Q n D rest ((k, J) :: pend) ((d, g, v) :: E) w) : WD P ρ ops Q n D (.q k mk rest) pend E w := fun a hf hD => by
  simp only [wpD, hk]
  have hw := wanted_of hgd hj hl hf hnj
  rw [hG] at hw
  cases g
  · refine ⟨undef, J, hJ, .inr ⟨hw, rfl⟩, ?_⟩
    rw [hd]
    exact h _ (hf.put (g := false) (v := v) hn) hD
  · refine ⟨v, J, hJ, .inl ⟨hw, fun w' hw' => hr w' hw' n a hf rfl⟩, ?_⟩
    rw [hd]
    exact h _ (hf.put hn) hD

theorem WD_pureG {o : Oper} {d : Tmp} {v : Value} {j : Nat} {pol : Bool} {rj : Tmp} {gj bj : Bool} {g : Bool} (hgd : o.guard = some (j, pol)) (hj : (ops[j]?).bind (·.dst) = some rj)
    (hl : look E rj = some (gj, .bool bj)) (hnj : Nat.blt rj n = true) (hG : (gj && (bj == pol)) = g)
    (hr : ∀ w, Run P E g o w v) (hk : ops[k]? = some o) (hd : o.dst = some d) (hn : Nat.blt d n = true)
    (h : WD P ρ ops Q n D rest pend ((d, g, v) :: E) w) : WD P ρ ops Q n D (.q k mk rest) pend E w :=
  WD_opG (fun _ => True) trivial hgd hj hl hnj hG (fun w _ => hr w) hk hd hn (fun a hf hD => wpD_true rest [] pend a w (h a hf hD))

/-- an operation that changes the world, walked as in a list of one -/
def QK (P : Program) (ρ : Option Nat) (ops : Array Oper) (Q : Post) (_n : Nat) (_D : List Deferred) (rest : OT) (pend : Pend) : Post := fun e a w => match e with
  | .normal => allJ pend w ∧ wpD P ρ ops (QN Q) rest pend a w
  | .panic c => AtP Q c a.defers w
  | e => Q e a w
theorem At_QK (hJ : allJ pend w) (h : WD P ρ ops Q n D rest pend E w) : At (QK P ρ ops Q n D rest pend) .normal n D E w := fun a hf hd => ⟨hJ, h a hf hd⟩
theorem At_QK_panic {c : List PanicEntry} (h : AtP Q c D w) : At (QK P ρ ops Q n D rest pend) (.panic c) n D E w := fun a _ hd => by subst hd; exact h
theorem WD_loud {o : Oper} {pend' : Pend} (hk : ops[k]? = some o) (hp : still .any ops k pend = pend') (h : WL P ρ ops (QK P ρ ops Q n D rest pend') n D [o] E w) :
    WD P ρ ops Q n D (.l k mk rest) pend E w := fun a hf hD => by
  subst hp
  simp only [wpD, hk]
  have h1 := h a hf hD
  unfold wpOpIn
  simp only [hk]
  simp only [wpListIn] at h1
  split
  · rename_i hw
    simp only [hw, if_true] at h1
    refine ⟨h1.1, ?_⟩
    have h1 := h1.2
    generalize (o.semAt (FW ρ).round a.eval).run P w = r at *
    cases r with
    | ok n w' =>
      cases n <;> simp only [Oper.uponIn] at h1 ⊢ <;> exact h1
    | halt x w' => cases x <;> simp only [Oper.uponIn] at h1 ⊢ <;> exact h1
  · rename_i hw
    simp only [hw] at h1
    exact h1
theorem WD_loud2 {k₁ k₂ : Nat} {r₁ r₂ : OT} (h1 : WD P ρ ops Q n D (.l k₁ mk r₁) pend E w) (h2 : WD P ρ ops Q n D (.l k₂ mk r₂) pend E w) : WD P ρ ops Q n D (.l2 mk k₁ r₁ k₂ r₂) pend E w := fun a hf hD => by
  have h1 := h1 a hf hD
  have h2 := h2 a hf hD
  simp only [wpD] at h1 h2 ⊢
  exact ⟨h1, h2⟩
end
end Go.Proofs.Ytjappdgehmjomaa
