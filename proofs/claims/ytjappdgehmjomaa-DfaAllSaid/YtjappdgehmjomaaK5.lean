/-
  Own framework, part 5: what a call knows of memory: a row of things, each with the blocks that it owns.
-/
import Derived.Test.YtjappdgehmjomaaK4
namespace Go.Proofs.Ytjappdgehmjomaa

structure SameEnv (w w' : World) : Prop where
  os : w'.os = w.os
  tape : w'.tape = w.tape
  output : w'.output = w.output
theorem SameEnv.refl (w : World) : SameEnv w w := ⟨rfl, rfl, rfl⟩
theorem SameEnv.trans {a b c : World} (h : SameEnv a b) (k : SameEnv b c) : SameEnv a c := ⟨k.os.trans h.os, k.tape.trans h.tape, k.output.trans h.output⟩
theorem Chg.env {C : List Nat} {w w' : World} (h : Chg C w w') : SameEnv w w' := ⟨h.os, h.tape, h.output⟩

/-- a thing of memory -/
structure Item where
  own : List Nat
  P : (Nat → Prop) → World → Prop
  lt : ∀ {M w}, P M w → ∀ b ∈ own, b < w.heap.size
  keep : ∀ {M M' w w'}, P M w → Mv M w M' w' → (∀ b ∈ own, w'.heap[b]? = w.heap[b]?) → SameEnv w w' → P M' w'
  pers : Bool
  hp : pers = true → own = []

abbrev Ctx := List Item
def Ctx.M (Γ : Ctx) (b : Nat) : Prop := ∃ it, it ∈ Γ ∧ b ∈ it.own

structure Sat (Γ : Ctx) (w : World) : Prop where
  all : ∀ it, it ∈ Γ → it.P Γ.M w
  sep : ∀ (i j : Nat) (it jt : Item), Γ[i]? = some it → Γ[j]? = some jt → i ≠ j → ∀ b, b ∈ it.own → b ∉ jt.own

section
variable {Γ : Ctx} {w w' : World} {it new : Item} {i : Nat}

theorem Sat.nil : Sat [] w := ⟨fun _ h => (by cases h), fun i j it jt h => (by simp at h)⟩
theorem Sat.at_ (h : Sat Γ w) (hi : Γ[i]? = some it) : it.P Γ.M w := h.all it (List.mem_of_getElem? hi)
theorem Ctx.mem_M (hi : Γ[i]? = some it) {b : Nat} (hb : b ∈ it.own) : Γ.M b := ⟨it, List.mem_of_getElem? hi, hb⟩
theorem Sat.lt (h : Sat Γ w) {b : Nat} (hb : Γ.M b) : b < w.heap.size := by
  obtain ⟨it, hi, hb⟩ := hb
  exact it.lt (h.all it hi) b hb

theorem Ctx.M_cons {b : Nat} : Ctx.M (new :: Γ) b ↔ b ∈ new.own ∨ Γ.M b := by
  constructor
  · rintro ⟨it, hi, hb⟩
    rcases List.mem_cons.1 hi with rfl | hi
    · exact .inl hb
    · exact .inr ⟨it, hi, hb⟩
  · rintro (hb | ⟨it, hi, hb⟩)
    · exact ⟨new, List.mem_cons_self .., hb⟩
    · exact ⟨it, List.mem_cons_of_mem _ hi, hb⟩

/-- only blocks that nobody knows change, or come -/
theorem Sat.ext (h : Sat Γ w) (x : Ext w w') : Sat Γ w' :=
  ⟨fun it hi => it.keep (h.all it hi) (x.mv _) (fun b hb => x.block b (h.lt ⟨it, hi, hb⟩)) ⟨x.os, x.tape, x.output⟩, h.sep⟩

/-- item i is exchanged -/
theorem Sat.upd (h : Sat Γ w) (hi : Γ[i]? = some it) (hC : Chg it.own w w') (hR : ∀ b ∈ new.own, b < w'.heap.size ∧ (b ∈ it.own ∨ w.heap.size ≤ b))
    (hP : ∀ M', Mv Γ.M w M' w' → (∀ b ∈ it.own, b ∉ new.own → ¬ M' b) → new.P M' w') : Sat (Γ.set i new) w' := by
  have hlt : i < Γ.length := (List.getElem?_eq_some_iff.1 hi).1
  have hsep : ∀ {j jt}, Γ[j]? = some jt → j ≠ i → ∀ b ∈ new.own, b ∉ jt.own := fun {j jt} hj hne b hb hb' => by
    rcases (hR b hb).2 with h1 | h1
    · exact h.sep j i jt it hj hi hne b hb' h1
    · have := h.lt (Ctx.mem_M hj hb'); omega
  have hmem : ∀ {jt}, jt ∈ Γ.set i new → jt = new ∨ ∃ j, j ≠ i ∧ Γ[j]? = some jt := fun {jt} hj => by
    obtain ⟨j, hj⟩ := List.mem_iff_getElem?.1 hj
    rw [List.getElem?_set] at hj
    split at hj
    · rename_i e; subst e
      simp only [Option.some.injEq] at hj
      exact .inl hj.symm
    · rename_i e; exact .inr ⟨j, fun e' => e e'.symm, hj⟩
  have mv : Mv Γ.M w (Ctx.M (Γ.set i new)) w' := by
    refine ⟨hC.size, fun b hb hn => ⟨?_, hC.block b hb (fun hc => hn (Ctx.mem_M hi hc))⟩⟩
    rintro ⟨jt, hj, hbj⟩
    rcases hmem hj with rfl | ⟨j, _, hj⟩
    · rcases (hR b hbj).2 with h1 | h1
      · exact hn (Ctx.mem_M hi h1)
      · omega
    · exact hn (Ctx.mem_M hj hbj)
  refine ⟨fun jt hj => ?_, fun j k jt kt hj hk hjk b hb hb' => ?_⟩
  · rcases hmem hj with rfl | ⟨j, hne, hj⟩
    · refine hP _ mv (fun b hb hbn => ?_)
      rintro ⟨kt, hk, hbk⟩
      rcases hmem hk with rfl | ⟨k, hne, hk⟩
      · exact hbn hbk
      · exact h.sep k i kt it hk hi hne b hbk hb
    · exact jt.keep (h.at_ hj) mv (fun b hb => hC.block b (h.lt (Ctx.mem_M hj hb)) (fun hc => h.sep j i jt it hj hi hne b hb hc)) hC.env
  · rw [List.getElem?_set] at hj hk
    split at hj <;> split at hk
    · omega
    · rename_i e1 e2; subst e1
      simp only [Option.some.injEq] at hj
      subst hj
      exact hsep hk (fun e => e2 e.symm) b hb hb'
    · rename_i e1 e2; subst e2
      simp only [Option.some.injEq] at hk
      subst hk
      exact hsep hj (fun e => e1 e.symm) b hb' hb
    · exact h.sep j k jt kt hj hk hjk b hb hb'

/-- a new item -/
theorem Sat.push (h : Sat Γ w) (x : Ext w w') (hR : ∀ b ∈ new.own, b < w'.heap.size ∧ w.heap.size ≤ b) (hP : ∀ M', Mv Γ.M w M' w' → new.P M' w') : Sat (new :: Γ) w' := by
  have mv : Mv Γ.M w (Ctx.M (new :: Γ)) w' := by
    refine ⟨x.size, fun b hb hn => ⟨?_, x.block b hb⟩⟩
    rw [Ctx.M_cons]
    rintro (h1 | h1)
    · have := (hR b h1).2; omega
    · exact hn h1
  refine ⟨fun jt hj => ?_, fun j k jt kt hj hk hjk b hb hb' => ?_⟩
  · rcases List.mem_cons.1 hj with rfl | hj
    · exact hP _ mv
    · exact jt.keep (h.all jt hj) mv (fun b hb => x.block b (h.lt ⟨jt, hj, hb⟩)) ⟨x.os, x.tape, x.output⟩
  · cases j with
    | zero =>
      simp only [List.getElem?_cons_zero, Option.some.injEq] at hj
      subst hj
      cases k with
      | zero => exact hjk rfl
      | succ k =>
        simp only [List.getElem?_cons_succ] at hk
        have := (hR b hb).2
        have := h.lt (Ctx.mem_M hk hb'); omega
    | succ j =>
      simp only [List.getElem?_cons_succ] at hj
      cases k with
      | zero =>
        simp only [List.getElem?_cons_zero, Option.some.injEq] at hk
        subst hk
        have := (hR b hb').2
        have := h.lt (Ctx.mem_M hj hb); omega
      | succ k =>
        simp only [List.getElem?_cons_succ] at hk
        exact h.sep j k jt kt hj hk (by omega) b hb hb'

/-- a fact more -/
theorem Sat.add (h : Sat Γ w) (hp : new.own = []) (hP : new.P Γ.M w) : Sat (new :: Γ) w := by
  refine h.push (Ext.refl w) (fun b hb => absurd (hp ▸ hb : b ∈ ([] : List Nat)) List.not_mem_nil) (fun M' m => new.keep hP m (fun b _ => rfl) (SameEnv.refl w))

/-! the row is laid anew: what is told may be told twice; what owns blocks stands once; what stands behind the first k stays -/
theorem Sat.map {Γ' : Ctx} (h : Sat Γ w) (f : Nat → Nat) (h1 : ∀ (j : Nat) (jt : Item), Γ'[j]? = some jt → Γ[f j]? = some jt) (h2 : ∀ (j k : Nat) (jt : Item), j ≠ k → f j = f k → Γ'[j]? = some jt → (Γ'[k]?).isSome = true → jt.pers = true) : Sat Γ' w := by
  have mv : Mv Γ.M w (Ctx.M Γ') w := Mv.weaken w fun b hb => by
    obtain ⟨it, hi, hb⟩ := hb
    obtain ⟨k, hk⟩ := List.mem_iff_getElem?.1 hi
    exact Ctx.mem_M (h1 k it hk) hb
  refine ⟨fun jt hj => ?_, fun j k jt kt hj hk hjk b hb hb' => ?_⟩
  · obtain ⟨k, hk⟩ := List.mem_iff_getElem?.1 hj
    exact jt.keep (h.at_ (h1 k jt hk)) mv (fun _ _ => rfl) (SameEnv.refl w)
  · by_cases e : f j = f k
    · have hp := h2 j k jt hjk e hj (by rw [hk]; rfl)
      rw [jt.hp hp] at hb; cases hb
    · exact h.sep (f j) (f k) jt kt (h1 j jt hj) (h1 k kt hk) e b hb hb'

def reB (Γ : Ctx) (k : Nat) : List Nat → Bool
  | [] => true
  | i :: is => Nat.blt i k && (match Γ[i]? with
      | none => false
      | some it => it.pers || !(is.contains i)) && reB Γ k is
def Ctx.re (Γ : Ctx) (k : Nat) : List Nat → Ctx
  | [] => Γ.drop k
  | i :: is => match Γ[i]? with
      | none => []
      | some it => it :: Γ.re k is
def reF (k : Nat) : List Nat → Nat → Nat
  | [], j => k + j
  | i :: _, 0 => i
  | _ :: is, j + 1 => reF k is j

theorem re_spec {k : Nat} : ∀ (is : List Nat), reB Γ k is = true → ∀ (j : Nat) (jt : Item), (Γ.re k is)[j]? = some jt → Γ[reF k is j]? = some jt
  | [], _, j, jt, h => by simpa [Ctx.re, reF] using h
  | i :: is, hB, j, jt, h => by
    simp only [reB, Bool.and_eq_true] at hB
    simp only [Ctx.re] at h
    cases hi : Γ[i]? with
    | none => simp [hi] at hB
    | some it =>
      simp only [hi] at h
      cases j with
      | zero => simp only [List.getElem?_cons_zero, Option.some.injEq] at h; subst h; exact hi
      | succ j => simp only [List.getElem?_cons_succ] at h; exact re_spec is hB.2 j jt h
theorem reF_mem (k : Nat) : ∀ (is : List Nat) (j : Nat), (reF k is j ∈ is ∧ j < is.length) ∨ (k ≤ reF k is j ∧ reF k is j = k + (j - is.length) ∧ is.length ≤ j)
  | [], j => .inr ⟨by simp [reF], by simp [reF], by simp⟩
  | i :: is, 0 => .inl ⟨by simp [reF], by simp⟩
  | i :: is, j + 1 => by
    rcases reF_mem k is j with ⟨h, h'⟩ | ⟨h1, h2, h3⟩
    · exact .inl ⟨by simp [reF, h], by simpa using h'⟩
    · exact .inr ⟨by simpa [reF] using h1, by simp only [reF, List.length_cons]; omega, by simpa using h3⟩
theorem reB_lt {k : Nat} : ∀ (is : List Nat), reB Γ k is = true → ∀ i ∈ is, i < k
  | [], _, i, h => by cases h
  | i0 :: is, hB, i, h => by
    simp only [reB, Bool.and_eq_true] at hB
    rcases List.mem_cons.1 h with rfl | h
    · simpa using hB.1.1
    · exact reB_lt is hB.2 i h
theorem re_once {k : Nat} : ∀ (is : List Nat), reB Γ k is = true → ∀ (j j' : Nat) (it : Item), j < j' → reF k is j = reF k is j' → Γ[reF k is j]? = some it → it.pers = true
  | [], _, j, j', it, hlt, e, _ => by simp [reF] at e; omega
  | i :: is, hB, j, j', it, hlt, e, hi => by
    have hB0 := hB
    simp only [reB, Bool.and_eq_true] at hB
    cases j' with
    | zero => omega
    | succ j' =>
      cases j with
      | zero =>
        simp only [reF] at e hi
        simp only [hi, Bool.or_eq_true] at hB
        rcases hB.1.2 with h | h
        · exact h
        · have hlt' : i < k := by simpa using hB.1.1
          rcases reF_mem k is j' with ⟨h1, _⟩ | ⟨h1, _⟩
          · rw [← e] at h1
            have : is.contains i = true := by simpa using h1
            rw [this] at h; cases h
          · omega
      | succ j => exact re_once is hB.2 j j' it (by omega) (by simpa [reF] using e) (by simpa [reF] using hi)

theorem Sat.re (h : Sat Γ w) (k : Nat) (is : List Nat) (hB : reB Γ k is = true) : Sat (Γ.re k is) w :=
  h.map (reF k is) (re_spec is hB) fun j j' jt hne e hj hj' => by
    rcases Nat.lt_or_gt_of_ne hne with hlt | hlt
    · exact re_once is hB j j' jt hlt e (re_spec is hB j jt hj)
    · obtain ⟨kt, hk⟩ := Option.isSome_iff_exists.1 hj'
      have h1 := re_spec is hB j jt hj
      have h2 := re_spec is hB j' kt hk
      rw [e, h2] at h1
      cases h1
      exact re_once is hB j' j jt hlt e.symm h2
/-- a guarded step -/
theorem Sat.ofG {w' : World} {g : Bool} (h1 : g = true → Sat Γ w') (h0 : g = false → w' = w) (h : Sat Γ w) : Sat Γ w' := by
  cases g
  · rw [h0 rfl]; exact h
  · exact h1 rfl
end

/-! ### the kinds of things -/

/-- cells that read as x -/
def imm {α : Type} (A : Rep α) (vs : List Value) (x : α) : Item where
  own := []
  P M w := A.rd M w vs x
  lt _ b hb := by cases hb
  keep h m _ _ := A.mv h m
  pers := true
  hp _ := rfl
/-- where g holds -/
def immG {α : Type} (g : Bool) (A : Rep α) (vs : List Value) (x : α) : Item where
  own := []
  P M w := g = true → A.rd M w vs x
  lt _ b hb := by cases hb
  keep h m _ _ := fun hg => A.mv (h hg) m
  pers := true
  hp _ := rfl
/-- a block of cells -/
def box (b : Nat) (e : TypeId) (vs : List Value) : Item where
  own := [b]
  P _ w := BoxAt w b e vs
  lt h c hc := by
    have : c = b := by simpa using hc
    subst this; exact h.lt
  keep h _ k _ := BoxAt.keep h (k b (by simp))
  pers := false
  hp h := by cases h
/-- a slice of the call's own -/
def osl {α : Type} (A : Rep α) (e : TypeId) (v : Value) (xs : List α) (R : List Nat) : Item where
  own := R
  P M w := Own A e M w v xs R
  lt h := h.lt
  keep h m k _ := h.keep k m
  pers := false
  hp h := by cases h
/-- an iterator over a string -/
def IterAt (w : World) (b : Nat) (l : Str) (pos : Nat) : Prop := w.heap[b]? = some (.stringIter ⟨l.toArray⟩ pos)
def iter (b : Nat) (l : Str) (pos : Nat) : Item where
  own := [b]
  P _ w := IterAt w b l pos
  lt h c hc := by
    have : c = b := by simpa using hc
    subst this; exact (Array.getElem?_eq_some_iff.1 h).1
  keep h _ k _ := (k b (by simp)).trans h
  pers := false
  hp h := by cases h
/-- the cells of an element of a slice that is read -/
def elem (g : Bool) (p : Addr) (vs : List Value) : Item where
  own := []
  P M w := g = true → ¬ M p.block ∧ CellsAt w p vs
  lt _ b hb := by cases hb
  keep {M M' w w'} h m _ _ := fun hg => by
    obtain ⟨h1, hs, cs, t, fr, hb, hc⟩ := h hg
    obtain ⟨h2, h3⟩ := m.2 _ (Array.getElem?_eq_some_iff.1 hb).1 h1
    exact ⟨h2, hs, cs, t, fr, h3.trans hb, hc⟩
  pers := true
  hp _ := rfl
/-- all that lay in w0, but for M, lies as it lay -/
def kept (w0 : World) (M0 : Nat → Prop) : Item where
  own := []
  P M w := SameEnv w0 w ∧ w0.heap.size ≤ w.heap.size ∧ ∀ b, b < w0.heap.size → ¬ M0 b → ¬ M b ∧ w.heap[b]? = w0.heap[b]?
  lt _ b hb := by cases hb
  keep h m _ e := ⟨h.1.trans e, Nat.le_trans h.2.1 m.1, fun b hb hn => by
    obtain ⟨h1, h2⟩ := h.2.2 b hb hn
    obtain ⟨h3, h4⟩ := m.2 b (Nat.lt_of_lt_of_le hb h.2.1) h1
    exact ⟨h3, h4.trans h2⟩⟩
  pers := true
  hp _ := rfl

section
variable {Γ : Ctx} {w w' : World} {α : Type} {A : Rep α} {i : Nat}

theorem Sat.imm (h : Sat Γ w) {vs : List Value} {x : α} (hi : Γ[i]? = some (imm A vs x)) : A.rd Γ.M w vs x := h.at_ hi
theorem Sat.immG (h : Sat Γ w) {g : Bool} {vs : List Value} {x : α} (hi : Γ[i]? = some (immG g A vs x)) : g = true → A.rd Γ.M w vs x := h.at_ hi
theorem srd_of {M : Nat → Prop} {v : Value} {xs : List α} (h : (RSl A).rd M w [v] xs) : SRd A M w v xs := by
  obtain ⟨u, hu, h⟩ := h
  have : v = sl u := by simpa using hu
  rw [this]; exact h
theorem Sat.sl (h : Sat Γ w) {v : Value} {xs : List α} (hi : Γ[i]? = some (Go.Proofs.Ytjappdgehmjomaa.imm (RSl A) [v] xs)) : SRd A Γ.M w v xs := srd_of (h.imm hi)
theorem Sat.slG (h : Sat Γ w) {g : Bool} {v : Value} {xs : List α} (hi : Γ[i]? = some (Go.Proofs.Ytjappdgehmjomaa.immG g (RSl A) [v] xs)) : g = true → SRd A Γ.M w v xs := fun hg => srd_of (h.immG hi hg)
theorem Sat.box (h : Sat Γ w) {b : Nat} {e : TypeId} {vs : List Value} (hi : Γ[i]? = some (box b e vs)) : BoxAt w b e vs := h.at_ hi
theorem Sat.own (h : Sat Γ w) {e : TypeId} {v : Value} {xs : List α} {R : List Nat} (hi : Γ[i]? = some (osl A e v xs R)) : Own A e Γ.M w v xs R := h.at_ hi
theorem Sat.iter (h : Sat Γ w) {b : Nat} {l : Str} {pos : Nat} (hi : Γ[i]? = some (iter b l pos)) : IterAt w b l pos := h.at_ hi
theorem Sat.elem (h : Sat Γ w) {g : Bool} {p : Addr} {vs : List Value} (hi : Γ[i]? = some (elem g p vs)) : g = true → CellsAt w p vs := fun hg => (h.at_ hi hg).2
theorem Sat.kept (h : Sat Γ w) {w0 : World} {M0 : Nat → Prop} (hi : Γ[i]? = some (kept w0 M0)) : SameEnv w0 w ∧ w0.heap.size ≤ w.heap.size ∧ ∀ b, b < w0.heap.size → ¬ M0 b → ¬ Γ.M b ∧ w.heap[b]? = w0.heap[b]? := h.at_ hi

theorem Sat.addI (h : Sat Γ w) {vs : List Value} {x : α} (hx : A.rd Γ.M w vs x) : Sat (Go.Proofs.Ytjappdgehmjomaa.imm A vs x :: Γ) w := h.add rfl hx
theorem Sat.addG (h : Sat Γ w) {g : Bool} {vs : List Value} {x : α} (hx : g = true → A.rd Γ.M w vs x) : Sat (Go.Proofs.Ytjappdgehmjomaa.immG g A vs x :: Γ) w := h.add rfl hx
theorem Sat.addS (h : Sat Γ w) {v : Value} {xs : List α} (hx : SRd A Γ.M w v xs) : Sat (Go.Proofs.Ytjappdgehmjomaa.imm (RSl A) [v] xs :: Γ) w := h.add rfl hx.rsl
theorem Sat.addSG (h : Sat Γ w) {g : Bool} {v : Value} {xs : List α} (hx : g = true → SRd A Γ.M w v xs) : Sat (Go.Proofs.Ytjappdgehmjomaa.immG g (RSl A) [v] xs :: Γ) w := h.add rfl (fun hg => (hx hg).rsl)
theorem Sat.addE (h : Sat Γ w) {g : Bool} {p : Addr} {vs : List Value} (hx : g = true → ¬ Γ.M p.block ∧ CellsAt w p vs) : Sat (Go.Proofs.Ytjappdgehmjomaa.elem g p vs :: Γ) w := h.add rfl hx
/-- an own nil slice -/
theorem Sat.addNil (h : Sat Γ w) (A : Rep α) (e : TypeId) : Sat (osl A e (.slice none 0 0) [] [] :: Γ) w := h.add rfl Own.nil
theorem Sat.addNilI (h : Sat Γ w) (A : Rep α) : Sat (Go.Proofs.Ytjappdgehmjomaa.imm (RSl A) [.slice none 0 0] [] :: Γ) w := h.add rfl SRd.nil.rsl

/-- an own slice is given up: it reads as any -/
theorem Sat.freeze (h : Sat Γ w) {e : TypeId} {v : Value} {xs : List α} {R : List Nat} (hi : Γ[i]? = some (osl A e v xs R)) : Sat (Γ.set i (Go.Proofs.Ytjappdgehmjomaa.imm (RSl A) [v] xs)) w :=
  h.upd hi ((Ext.refl w).chg _) (fun b hb => by cases hb) (fun M' m hn => ((h.own hi).freeze (fun b hb => hn b hb (fun hb => by cases hb)) m).rsl)
/-- the blocks of one thing are no other's -/
theorem Sat.only (h : Sat Γ w) {it jt : Item} {j : Nat} (hi : Γ[i]? = some it) (hj : Γ[j]? = some jt) (hne : Nat.beq i j = false) : ∀ b ∈ it.own, b ∉ jt.own :=
  fun b hb => h.sep i j it jt hi hj (fun e => by subst e; simp at hne) b hb
end

/-! facts more, all at once -/
def allP (M : Nat → Prop) (w : World) : List Item → Prop
  | [] => True
  | it :: l => it.P M w ∧ allP M w l
theorem addL_M {Γ : Ctx} {b : Nat} : ∀ (new : List Item), new.all (·.pers) = true → Ctx.M (new ++ Γ) b → Γ.M b
  | [], _, h => h
  | it :: l, hp, h => by
    simp only [List.all_cons, Bool.and_eq_true] at hp
    rcases Ctx.M_cons.1 h with h | h
    · rw [it.hp hp.1] at h; cases h
    · exact addL_M l hp.2 h
theorem Sat.addL {Γ : Ctx} {w : World} (h : Sat Γ w) : ∀ (new : List Item), new.all (·.pers) = true → allP Γ.M w new → Sat (new ++ Γ) w
  | [], _, _ => h
  | it :: l, hp, hP => by
    have hp' := hp
    simp only [List.all_cons, Bool.and_eq_true] at hp
    have h' := h.addL l hp.2 hP.2
    exact h'.add (it.hp hp.1) (it.keep hP.1 (Mv.weaken w fun b hb => addL_M l hp.2 hb) (fun _ _ => rfl) (SameEnv.refl w))

/-! the row is spelled out -/
theorem Sat.n1 {a0 : Item} {Γ Δ : Ctx} {w : World} (h : Sat Δ w) (e : Δ = a0 :: Γ) : Sat (a0 :: Γ) w := e ▸ h
theorem Sat.n2 {a0 a1 : Item} {Γ Δ : Ctx} {w : World} (h : Sat Δ w) (e : Δ = a0 :: a1 :: Γ) : Sat (a0 :: a1 :: Γ) w := e ▸ h
theorem Sat.n3 {a0 a1 a2 : Item} {Γ Δ : Ctx} {w : World} (h : Sat Δ w) (e : Δ = a0 :: a1 :: a2 :: Γ) : Sat (a0 :: a1 :: a2 :: Γ) w := e ▸ h
theorem Sat.n4 {a0 a1 a2 a3 : Item} {Γ Δ : Ctx} {w : World} (h : Sat Δ w) (e : Δ = a0 :: a1 :: a2 :: a3 :: Γ) : Sat (a0 :: a1 :: a2 :: a3 :: Γ) w := e ▸ h
theorem Sat.n5 {a0 a1 a2 a3 a4 : Item} {Γ Δ : Ctx} {w : World} (h : Sat Δ w) (e : Δ = a0 :: a1 :: a2 :: a3 :: a4 :: Γ) : Sat (a0 :: a1 :: a2 :: a3 :: a4 :: Γ) w := e ▸ h
theorem Sat.n6 {a0 a1 a2 a3 a4 a5 : Item} {Γ Δ : Ctx} {w : World} (h : Sat Δ w) (e : Δ = a0 :: a1 :: a2 :: a3 :: a4 :: a5 :: Γ) : Sat (a0 :: a1 :: a2 :: a3 :: a4 :: a5 :: Γ) w := e ▸ h
theorem Sat.n7 {a0 a1 a2 a3 a4 a5 a6 : Item} {Γ Δ : Ctx} {w : World} (h : Sat Δ w) (e : Δ = a0 :: a1 :: a2 :: a3 :: a4 :: a5 :: a6 :: Γ) : Sat (a0 :: a1 :: a2 :: a3 :: a4 :: a5 :: a6 :: Γ) w := e ▸ h
theorem Sat.n8 {a0 a1 a2 a3 a4 a5 a6 a7 : Item} {Γ Δ : Ctx} {w : World} (h : Sat Δ w) (e : Δ = a0 :: a1 :: a2 :: a3 :: a4 :: a5 :: a6 :: a7 :: Γ) : Sat (a0 :: a1 :: a2 :: a3 :: a4 :: a5 :: a6 :: a7 :: Γ) w := e ▸ h
theorem Sat.n9 {a0 a1 a2 a3 a4 a5 a6 a7 a8 : Item} {Γ Δ : Ctx} {w : World} (h : Sat Δ w) (e : Δ = a0 :: a1 :: a2 :: a3 :: a4 :: a5 :: a6 :: a7 :: a8 :: Γ) : Sat (a0 :: a1 :: a2 :: a3 :: a4 :: a5 :: a6 :: a7 :: a8 :: Γ) w := e ▸ h
theorem Sat.n10 {a0 a1 a2 a3 a4 a5 a6 a7 a8 a9 : Item} {Γ Δ : Ctx} {w : World} (h : Sat Δ w) (e : Δ = a0 :: a1 :: a2 :: a3 :: a4 :: a5 :: a6 :: a7 :: a8 :: a9 :: Γ) : Sat (a0 :: a1 :: a2 :: a3 :: a4 :: a5 :: a6 :: a7 :: a8 :: a9 :: Γ) w := e ▸ h
theorem Sat.n11 {a0 a1 a2 a3 a4 a5 a6 a7 a8 a9 a10 : Item} {Γ Δ : Ctx} {w : World} (h : Sat Δ w) (e : Δ = a0 :: a1 :: a2 :: a3 :: a4 :: a5 :: a6 :: a7 :: a8 :: a9 :: a10 :: Γ) : Sat (a0 :: a1 :: a2 :: a3 :: a4 :: a5 :: a6 :: a7 :: a8 :: a9 :: a10 :: Γ) w := e ▸ h
theorem Sat.n12 {a0 a1 a2 a3 a4 a5 a6 a7 a8 a9 a10 a11 : Item} {Γ Δ : Ctx} {w : World} (h : Sat Δ w) (e : Δ = a0 :: a1 :: a2 :: a3 :: a4 :: a5 :: a6 :: a7 :: a8 :: a9 :: a10 :: a11 :: Γ) : Sat (a0 :: a1 :: a2 :: a3 :: a4 :: a5 :: a6 :: a7 :: a8 :: a9 :: a10 :: a11 :: Γ) w := e ▸ h
theorem Sat.n13 {a0 a1 a2 a3 a4 a5 a6 a7 a8 a9 a10 a11 a12 : Item} {Γ Δ : Ctx} {w : World} (h : Sat Δ w) (e : Δ = a0 :: a1 :: a2 :: a3 :: a4 :: a5 :: a6 :: a7 :: a8 :: a9 :: a10 :: a11 :: a12 :: Γ) : Sat (a0 :: a1 :: a2 :: a3 :: a4 :: a5 :: a6 :: a7 :: a8 :: a9 :: a10 :: a11 :: a12 :: Γ) w := e ▸ h
theorem Sat.n14 {a0 a1 a2 a3 a4 a5 a6 a7 a8 a9 a10 a11 a12 a13 : Item} {Γ Δ : Ctx} {w : World} (h : Sat Δ w) (e : Δ = a0 :: a1 :: a2 :: a3 :: a4 :: a5 :: a6 :: a7 :: a8 :: a9 :: a10 :: a11 :: a12 :: a13 :: Γ) : Sat (a0 :: a1 :: a2 :: a3 :: a4 :: a5 :: a6 :: a7 :: a8 :: a9 :: a10 :: a11 :: a12 :: a13 :: Γ) w := e ▸ h
theorem Sat.n15 {a0 a1 a2 a3 a4 a5 a6 a7 a8 a9 a10 a11 a12 a13 a14 : Item} {Γ Δ : Ctx} {w : World} (h : Sat Δ w) (e : Δ = a0 :: a1 :: a2 :: a3 :: a4 :: a5 :: a6 :: a7 :: a8 :: a9 :: a10 :: a11 :: a12 :: a13 :: a14 :: Γ) : Sat (a0 :: a1 :: a2 :: a3 :: a4 :: a5 :: a6 :: a7 :: a8 :: a9 :: a10 :: a11 :: a12 :: a13 :: a14 :: Γ) w := e ▸ h
theorem Sat.n16 {a0 a1 a2 a3 a4 a5 a6 a7 a8 a9 a10 a11 a12 a13 a14 a15 : Item} {Γ Δ : Ctx} {w : World} (h : Sat Δ w) (e : Δ = a0 :: a1 :: a2 :: a3 :: a4 :: a5 :: a6 :: a7 :: a8 :: a9 :: a10 :: a11 :: a12 :: a13 :: a14 :: a15 :: Γ) : Sat (a0 :: a1 :: a2 :: a3 :: a4 :: a5 :: a6 :: a7 :: a8 :: a9 :: a10 :: a11 :: a12 :: a13 :: a14 :: a15 :: Γ) w := e ▸ h
theorem Sat.n17 {a0 a1 a2 a3 a4 a5 a6 a7 a8 a9 a10 a11 a12 a13 a14 a15 a16 : Item} {Γ Δ : Ctx} {w : World} (h : Sat Δ w) (e : Δ = a0 :: a1 :: a2 :: a3 :: a4 :: a5 :: a6 :: a7 :: a8 :: a9 :: a10 :: a11 :: a12 :: a13 :: a14 :: a15 :: a16 :: Γ) : Sat (a0 :: a1 :: a2 :: a3 :: a4 :: a5 :: a6 :: a7 :: a8 :: a9 :: a10 :: a11 :: a12 :: a13 :: a14 :: a15 :: a16 :: Γ) w := e ▸ h
theorem Sat.n18 {a0 a1 a2 a3 a4 a5 a6 a7 a8 a9 a10 a11 a12 a13 a14 a15 a16 a17 : Item} {Γ Δ : Ctx} {w : World} (h : Sat Δ w) (e : Δ = a0 :: a1 :: a2 :: a3 :: a4 :: a5 :: a6 :: a7 :: a8 :: a9 :: a10 :: a11 :: a12 :: a13 :: a14 :: a15 :: a16 :: a17 :: Γ) : Sat (a0 :: a1 :: a2 :: a3 :: a4 :: a5 :: a6 :: a7 :: a8 :: a9 :: a10 :: a11 :: a12 :: a13 :: a14 :: a15 :: a16 :: a17 :: Γ) w := e ▸ h
theorem Sat.n19 {a0 a1 a2 a3 a4 a5 a6 a7 a8 a9 a10 a11 a12 a13 a14 a15 a16 a17 a18 : Item} {Γ Δ : Ctx} {w : World} (h : Sat Δ w) (e : Δ = a0 :: a1 :: a2 :: a3 :: a4 :: a5 :: a6 :: a7 :: a8 :: a9 :: a10 :: a11 :: a12 :: a13 :: a14 :: a15 :: a16 :: a17 :: a18 :: Γ) : Sat (a0 :: a1 :: a2 :: a3 :: a4 :: a5 :: a6 :: a7 :: a8 :: a9 :: a10 :: a11 :: a12 :: a13 :: a14 :: a15 :: a16 :: a17 :: a18 :: Γ) w := e ▸ h
theorem Sat.n20 {a0 a1 a2 a3 a4 a5 a6 a7 a8 a9 a10 a11 a12 a13 a14 a15 a16 a17 a18 a19 : Item} {Γ Δ : Ctx} {w : World} (h : Sat Δ w) (e : Δ = a0 :: a1 :: a2 :: a3 :: a4 :: a5 :: a6 :: a7 :: a8 :: a9 :: a10 :: a11 :: a12 :: a13 :: a14 :: a15 :: a16 :: a17 :: a18 :: a19 :: Γ) : Sat (a0 :: a1 :: a2 :: a3 :: a4 :: a5 :: a6 :: a7 :: a8 :: a9 :: a10 :: a11 :: a12 :: a13 :: a14 :: a15 :: a16 :: a17 :: a18 :: a19 :: Γ) w := e ▸ h
theorem Sat.n21 {a0 a1 a2 a3 a4 a5 a6 a7 a8 a9 a10 a11 a12 a13 a14 a15 a16 a17 a18 a19 a20 : Item} {Γ Δ : Ctx} {w : World} (h : Sat Δ w) (e : Δ = a0 :: a1 :: a2 :: a3 :: a4 :: a5 :: a6 :: a7 :: a8 :: a9 :: a10 :: a11 :: a12 :: a13 :: a14 :: a15 :: a16 :: a17 :: a18 :: a19 :: a20 :: Γ) : Sat (a0 :: a1 :: a2 :: a3 :: a4 :: a5 :: a6 :: a7 :: a8 :: a9 :: a10 :: a11 :: a12 :: a13 :: a14 :: a15 :: a16 :: a17 :: a18 :: a19 :: a20 :: Γ) w := e ▸ h
theorem Sat.n22 {a0 a1 a2 a3 a4 a5 a6 a7 a8 a9 a10 a11 a12 a13 a14 a15 a16 a17 a18 a19 a20 a21 : Item} {Γ Δ : Ctx} {w : World} (h : Sat Δ w) (e : Δ = a0 :: a1 :: a2 :: a3 :: a4 :: a5 :: a6 :: a7 :: a8 :: a9 :: a10 :: a11 :: a12 :: a13 :: a14 :: a15 :: a16 :: a17 :: a18 :: a19 :: a20 :: a21 :: Γ) : Sat (a0 :: a1 :: a2 :: a3 :: a4 :: a5 :: a6 :: a7 :: a8 :: a9 :: a10 :: a11 :: a12 :: a13 :: a14 :: a15 :: a16 :: a17 :: a18 :: a19 :: a20 :: a21 :: Γ) w := e ▸ h
theorem Sat.n23 {a0 a1 a2 a3 a4 a5 a6 a7 a8 a9 a10 a11 a12 a13 a14 a15 a16 a17 a18 a19 a20 a21 a22 : Item} {Γ Δ : Ctx} {w : World} (h : Sat Δ w) (e : Δ = a0 :: a1 :: a2 :: a3 :: a4 :: a5 :: a6 :: a7 :: a8 :: a9 :: a10 :: a11 :: a12 :: a13 :: a14 :: a15 :: a16 :: a17 :: a18 :: a19 :: a20 :: a21 :: a22 :: Γ) : Sat (a0 :: a1 :: a2 :: a3 :: a4 :: a5 :: a6 :: a7 :: a8 :: a9 :: a10 :: a11 :: a12 :: a13 :: a14 :: a15 :: a16 :: a17 :: a18 :: a19 :: a20 :: a21 :: a22 :: Γ) w := e ▸ h
theorem Sat.n24 {a0 a1 a2 a3 a4 a5 a6 a7 a8 a9 a10 a11 a12 a13 a14 a15 a16 a17 a18 a19 a20 a21 a22 a23 : Item} {Γ Δ : Ctx} {w : World} (h : Sat Δ w) (e : Δ = a0 :: a1 :: a2 :: a3 :: a4 :: a5 :: a6 :: a7 :: a8 :: a9 :: a10 :: a11 :: a12 :: a13 :: a14 :: a15 :: a16 :: a17 :: a18 :: a19 :: a20 :: a21 :: a22 :: a23 :: Γ) : Sat (a0 :: a1 :: a2 :: a3 :: a4 :: a5 :: a6 :: a7 :: a8 :: a9 :: a10 :: a11 :: a12 :: a13 :: a14 :: a15 :: a16 :: a17 :: a18 :: a19 :: a20 :: a21 :: a22 :: a23 :: Γ) w := e ▸ h
theorem Sat.n25 {a0 a1 a2 a3 a4 a5 a6 a7 a8 a9 a10 a11 a12 a13 a14 a15 a16 a17 a18 a19 a20 a21 a22 a23 a24 : Item} {Γ Δ : Ctx} {w : World} (h : Sat Δ w) (e : Δ = a0 :: a1 :: a2 :: a3 :: a4 :: a5 :: a6 :: a7 :: a8 :: a9 :: a10 :: a11 :: a12 :: a13 :: a14 :: a15 :: a16 :: a17 :: a18 :: a19 :: a20 :: a21 :: a22 :: a23 :: a24 :: Γ) : Sat (a0 :: a1 :: a2 :: a3 :: a4 :: a5 :: a6 :: a7 :: a8 :: a9 :: a10 :: a11 :: a12 :: a13 :: a14 :: a15 :: a16 :: a17 :: a18 :: a19 :: a20 :: a21 :: a22 :: a23 :: a24 :: Γ) w := e ▸ h
theorem Sat.n26 {a0 a1 a2 a3 a4 a5 a6 a7 a8 a9 a10 a11 a12 a13 a14 a15 a16 a17 a18 a19 a20 a21 a22 a23 a24 a25 : Item} {Γ Δ : Ctx} {w : World} (h : Sat Δ w) (e : Δ = a0 :: a1 :: a2 :: a3 :: a4 :: a5 :: a6 :: a7 :: a8 :: a9 :: a10 :: a11 :: a12 :: a13 :: a14 :: a15 :: a16 :: a17 :: a18 :: a19 :: a20 :: a21 :: a22 :: a23 :: a24 :: a25 :: Γ) : Sat (a0 :: a1 :: a2 :: a3 :: a4 :: a5 :: a6 :: a7 :: a8 :: a9 :: a10 :: a11 :: a12 :: a13 :: a14 :: a15 :: a16 :: a17 :: a18 :: a19 :: a20 :: a21 :: a22 :: a23 :: a24 :: a25 :: Γ) w := e ▸ h
theorem Sat.n27 {a0 a1 a2 a3 a4 a5 a6 a7 a8 a9 a10 a11 a12 a13 a14 a15 a16 a17 a18 a19 a20 a21 a22 a23 a24 a25 a26 : Item} {Γ Δ : Ctx} {w : World} (h : Sat Δ w) (e : Δ = a0 :: a1 :: a2 :: a3 :: a4 :: a5 :: a6 :: a7 :: a8 :: a9 :: a10 :: a11 :: a12 :: a13 :: a14 :: a15 :: a16 :: a17 :: a18 :: a19 :: a20 :: a21 :: a22 :: a23 :: a24 :: a25 :: a26 :: Γ) : Sat (a0 :: a1 :: a2 :: a3 :: a4 :: a5 :: a6 :: a7 :: a8 :: a9 :: a10 :: a11 :: a12 :: a13 :: a14 :: a15 :: a16 :: a17 :: a18 :: a19 :: a20 :: a21 :: a22 :: a23 :: a24 :: a25 :: a26 :: Γ) w := e ▸ h
theorem Sat.n28 {a0 a1 a2 a3 a4 a5 a6 a7 a8 a9 a10 a11 a12 a13 a14 a15 a16 a17 a18 a19 a20 a21 a22 a23 a24 a25 a26 a27 : Item} {Γ Δ : Ctx} {w : World} (h : Sat Δ w) (e : Δ = a0 :: a1 :: a2 :: a3 :: a4 :: a5 :: a6 :: a7 :: a8 :: a9 :: a10 :: a11 :: a12 :: a13 :: a14 :: a15 :: a16 :: a17 :: a18 :: a19 :: a20 :: a21 :: a22 :: a23 :: a24 :: a25 :: a26 :: a27 :: Γ) : Sat (a0 :: a1 :: a2 :: a3 :: a4 :: a5 :: a6 :: a7 :: a8 :: a9 :: a10 :: a11 :: a12 :: a13 :: a14 :: a15 :: a16 :: a17 :: a18 :: a19 :: a20 :: a21 :: a22 :: a23 :: a24 :: a25 :: a26 :: a27 :: Γ) w := e ▸ h
theorem Sat.n29 {a0 a1 a2 a3 a4 a5 a6 a7 a8 a9 a10 a11 a12 a13 a14 a15 a16 a17 a18 a19 a20 a21 a22 a23 a24 a25 a26 a27 a28 : Item} {Γ Δ : Ctx} {w : World} (h : Sat Δ w) (e : Δ = a0 :: a1 :: a2 :: a3 :: a4 :: a5 :: a6 :: a7 :: a8 :: a9 :: a10 :: a11 :: a12 :: a13 :: a14 :: a15 :: a16 :: a17 :: a18 :: a19 :: a20 :: a21 :: a22 :: a23 :: a24 :: a25 :: a26 :: a27 :: a28 :: Γ) : Sat (a0 :: a1 :: a2 :: a3 :: a4 :: a5 :: a6 :: a7 :: a8 :: a9 :: a10 :: a11 :: a12 :: a13 :: a14 :: a15 :: a16 :: a17 :: a18 :: a19 :: a20 :: a21 :: a22 :: a23 :: a24 :: a25 :: a26 :: a27 :: a28 :: Γ) w := e ▸ h
theorem Sat.n30 {a0 a1 a2 a3 a4 a5 a6 a7 a8 a9 a10 a11 a12 a13 a14 a15 a16 a17 a18 a19 a20 a21 a22 a23 a24 a25 a26 a27 a28 a29 : Item} {Γ Δ : Ctx} {w : World} (h : Sat Δ w) (e : Δ = a0 :: a1 :: a2 :: a3 :: a4 :: a5 :: a6 :: a7 :: a8 :: a9 :: a10 :: a11 :: a12 :: a13 :: a14 :: a15 :: a16 :: a17 :: a18 :: a19 :: a20 :: a21 :: a22 :: a23 :: a24 :: a25 :: a26 :: a27 :: a28 :: a29 :: Γ) : Sat (a0 :: a1 :: a2 :: a3 :: a4 :: a5 :: a6 :: a7 :: a8 :: a9 :: a10 :: a11 :: a12 :: a13 :: a14 :: a15 :: a16 :: a17 :: a18 :: a19 :: a20 :: a21 :: a22 :: a23 :: a24 :: a25 :: a26 :: a27 :: a28 :: a29 :: Γ) w := e ▸ h
theorem Sat.n31 {a0 a1 a2 a3 a4 a5 a6 a7 a8 a9 a10 a11 a12 a13 a14 a15 a16 a17 a18 a19 a20 a21 a22 a23 a24 a25 a26 a27 a28 a29 a30 : Item} {Γ Δ : Ctx} {w : World} (h : Sat Δ w) (e : Δ = a0 :: a1 :: a2 :: a3 :: a4 :: a5 :: a6 :: a7 :: a8 :: a9 :: a10 :: a11 :: a12 :: a13 :: a14 :: a15 :: a16 :: a17 :: a18 :: a19 :: a20 :: a21 :: a22 :: a23 :: a24 :: a25 :: a26 :: a27 :: a28 :: a29 :: a30 :: Γ) : Sat (a0 :: a1 :: a2 :: a3 :: a4 :: a5 :: a6 :: a7 :: a8 :: a9 :: a10 :: a11 :: a12 :: a13 :: a14 :: a15 :: a16 :: a17 :: a18 :: a19 :: a20 :: a21 :: a22 :: a23 :: a24 :: a25 :: a26 :: a27 :: a28 :: a29 :: a30 :: Γ) w := e ▸ h
theorem Sat.n32 {a0 a1 a2 a3 a4 a5 a6 a7 a8 a9 a10 a11 a12 a13 a14 a15 a16 a17 a18 a19 a20 a21 a22 a23 a24 a25 a26 a27 a28 a29 a30 a31 : Item} {Γ Δ : Ctx} {w : World} (h : Sat Δ w) (e : Δ = a0 :: a1 :: a2 :: a3 :: a4 :: a5 :: a6 :: a7 :: a8 :: a9 :: a10 :: a11 :: a12 :: a13 :: a14 :: a15 :: a16 :: a17 :: a18 :: a19 :: a20 :: a21 :: a22 :: a23 :: a24 :: a25 :: a26 :: a27 :: a28 :: a29 :: a30 :: a31 :: Γ) : Sat (a0 :: a1 :: a2 :: a3 :: a4 :: a5 :: a6 :: a7 :: a8 :: a9 :: a10 :: a11 :: a12 :: a13 :: a14 :: a15 :: a16 :: a17 :: a18 :: a19 :: a20 :: a21 :: a22 :: a23 :: a24 :: a25 :: a26 :: a27 :: a28 :: a29 :: a30 :: a31 :: Γ) w := e ▸ h
theorem Sat.n33 {a0 a1 a2 a3 a4 a5 a6 a7 a8 a9 a10 a11 a12 a13 a14 a15 a16 a17 a18 a19 a20 a21 a22 a23 a24 a25 a26 a27 a28 a29 a30 a31 a32 : Item} {Γ Δ : Ctx} {w : World} (h : Sat Δ w) (e : Δ = a0 :: a1 :: a2 :: a3 :: a4 :: a5 :: a6 :: a7 :: a8 :: a9 :: a10 :: a11 :: a12 :: a13 :: a14 :: a15 :: a16 :: a17 :: a18 :: a19 :: a20 :: a21 :: a22 :: a23 :: a24 :: a25 :: a26 :: a27 :: a28 :: a29 :: a30 :: a31 :: a32 :: Γ) : Sat (a0 :: a1 :: a2 :: a3 :: a4 :: a5 :: a6 :: a7 :: a8 :: a9 :: a10 :: a11 :: a12 :: a13 :: a14 :: a15 :: a16 :: a17 :: a18 :: a19 :: a20 :: a21 :: a22 :: a23 :: a24 :: a25 :: a26 :: a27 :: a28 :: a29 :: a30 :: a31 :: a32 :: Γ) w := e ▸ h
theorem Sat.n34 {a0 a1 a2 a3 a4 a5 a6 a7 a8 a9 a10 a11 a12 a13 a14 a15 a16 a17 a18 a19 a20 a21 a22 a23 a24 a25 a26 a27 a28 a29 a30 a31 a32 a33 : Item} {Γ Δ : Ctx} {w : World} (h : Sat Δ w) (e : Δ = a0 :: a1 :: a2 :: a3 :: a4 :: a5 :: a6 :: a7 :: a8 :: a9 :: a10 :: a11 :: a12 :: a13 :: a14 :: a15 :: a16 :: a17 :: a18 :: a19 :: a20 :: a21 :: a22 :: a23 :: a24 :: a25 :: a26 :: a27 :: a28 :: a29 :: a30 :: a31 :: a32 :: a33 :: Γ) : Sat (a0 :: a1 :: a2 :: a3 :: a4 :: a5 :: a6 :: a7 :: a8 :: a9 :: a10 :: a11 :: a12 :: a13 :: a14 :: a15 :: a16 :: a17 :: a18 :: a19 :: a20 :: a21 :: a22 :: a23 :: a24 :: a25 :: a26 :: a27 :: a28 :: a29 :: a30 :: a31 :: a32 :: a33 :: Γ) w := e ▸ h
theorem Sat.n35 {a0 a1 a2 a3 a4 a5 a6 a7 a8 a9 a10 a11 a12 a13 a14 a15 a16 a17 a18 a19 a20 a21 a22 a23 a24 a25 a26 a27 a28 a29 a30 a31 a32 a33 a34 : Item} {Γ Δ : Ctx} {w : World} (h : Sat Δ w) (e : Δ = a0 :: a1 :: a2 :: a3 :: a4 :: a5 :: a6 :: a7 :: a8 :: a9 :: a10 :: a11 :: a12 :: a13 :: a14 :: a15 :: a16 :: a17 :: a18 :: a19 :: a20 :: a21 :: a22 :: a23 :: a24 :: a25 :: a26 :: a27 :: a28 :: a29 :: a30 :: a31 :: a32 :: a33 :: a34 :: Γ) : Sat (a0 :: a1 :: a2 :: a3 :: a4 :: a5 :: a6 :: a7 :: a8 :: a9 :: a10 :: a11 :: a12 :: a13 :: a14 :: a15 :: a16 :: a17 :: a18 :: a19 :: a20 :: a21 :: a22 :: a23 :: a24 :: a25 :: a26 :: a27 :: a28 :: a29 :: a30 :: a31 :: a32 :: a33 :: a34 :: Γ) w := e ▸ h
theorem Sat.n36 {a0 a1 a2 a3 a4 a5 a6 a7 a8 a9 a10 a11 a12 a13 a14 a15 a16 a17 a18 a19 a20 a21 a22 a23 a24 a25 a26 a27 a28 a29 a30 a31 a32 a33 a34 a35 : Item} {Γ Δ : Ctx} {w : World} (h : Sat Δ w) (e : Δ = a0 :: a1 :: a2 :: a3 :: a4 :: a5 :: a6 :: a7 :: a8 :: a9 :: a10 :: a11 :: a12 :: a13 :: a14 :: a15 :: a16 :: a17 :: a18 :: a19 :: a20 :: a21 :: a22 :: a23 :: a24 :: a25 :: a26 :: a27 :: a28 :: a29 :: a30 :: a31 :: a32 :: a33 :: a34 :: a35 :: Γ) : Sat (a0 :: a1 :: a2 :: a3 :: a4 :: a5 :: a6 :: a7 :: a8 :: a9 :: a10 :: a11 :: a12 :: a13 :: a14 :: a15 :: a16 :: a17 :: a18 :: a19 :: a20 :: a21 :: a22 :: a23 :: a24 :: a25 :: a26 :: a27 :: a28 :: a29 :: a30 :: a31 :: a32 :: a33 :: a34 :: a35 :: Γ) w := e ▸ h
theorem Sat.n37 {a0 a1 a2 a3 a4 a5 a6 a7 a8 a9 a10 a11 a12 a13 a14 a15 a16 a17 a18 a19 a20 a21 a22 a23 a24 a25 a26 a27 a28 a29 a30 a31 a32 a33 a34 a35 a36 : Item} {Γ Δ : Ctx} {w : World} (h : Sat Δ w) (e : Δ = a0 :: a1 :: a2 :: a3 :: a4 :: a5 :: a6 :: a7 :: a8 :: a9 :: a10 :: a11 :: a12 :: a13 :: a14 :: a15 :: a16 :: a17 :: a18 :: a19 :: a20 :: a21 :: a22 :: a23 :: a24 :: a25 :: a26 :: a27 :: a28 :: a29 :: a30 :: a31 :: a32 :: a33 :: a34 :: a35 :: a36 :: Γ) : Sat (a0 :: a1 :: a2 :: a3 :: a4 :: a5 :: a6 :: a7 :: a8 :: a9 :: a10 :: a11 :: a12 :: a13 :: a14 :: a15 :: a16 :: a17 :: a18 :: a19 :: a20 :: a21 :: a22 :: a23 :: a24 :: a25 :: a26 :: a27 :: a28 :: a29 :: a30 :: a31 :: a32 :: a33 :: a34 :: a35 :: a36 :: Γ) w := e ▸ h
theorem Sat.n38 {a0 a1 a2 a3 a4 a5 a6 a7 a8 a9 a10 a11 a12 a13 a14 a15 a16 a17 a18 a19 a20 a21 a22 a23 a24 a25 a26 a27 a28 a29 a30 a31 a32 a33 a34 a35 a36 a37 : Item} {Γ Δ : Ctx} {w : World} (h : Sat Δ w) (e : Δ = a0 :: a1 :: a2 :: a3 :: a4 :: a5 :: a6 :: a7 :: a8 :: a9 :: a10 :: a11 :: a12 :: a13 :: a14 :: a15 :: a16 :: a17 :: a18 :: a19 :: a20 :: a21 :: a22 :: a23 :: a24 :: a25 :: a26 :: a27 :: a28 :: a29 :: a30 :: a31 :: a32 :: a33 :: a34 :: a35 :: a36 :: a37 :: Γ) : Sat (a0 :: a1 :: a2 :: a3 :: a4 :: a5 :: a6 :: a7 :: a8 :: a9 :: a10 :: a11 :: a12 :: a13 :: a14 :: a15 :: a16 :: a17 :: a18 :: a19 :: a20 :: a21 :: a22 :: a23 :: a24 :: a25 :: a26 :: a27 :: a28 :: a29 :: a30 :: a31 :: a32 :: a33 :: a34 :: a35 :: a36 :: a37 :: Γ) w := e ▸ h
theorem Sat.n39 {a0 a1 a2 a3 a4 a5 a6 a7 a8 a9 a10 a11 a12 a13 a14 a15 a16 a17 a18 a19 a20 a21 a22 a23 a24 a25 a26 a27 a28 a29 a30 a31 a32 a33 a34 a35 a36 a37 a38 : Item} {Γ Δ : Ctx} {w : World} (h : Sat Δ w) (e : Δ = a0 :: a1 :: a2 :: a3 :: a4 :: a5 :: a6 :: a7 :: a8 :: a9 :: a10 :: a11 :: a12 :: a13 :: a14 :: a15 :: a16 :: a17 :: a18 :: a19 :: a20 :: a21 :: a22 :: a23 :: a24 :: a25 :: a26 :: a27 :: a28 :: a29 :: a30 :: a31 :: a32 :: a33 :: a34 :: a35 :: a36 :: a37 :: a38 :: Γ) : Sat (a0 :: a1 :: a2 :: a3 :: a4 :: a5 :: a6 :: a7 :: a8 :: a9 :: a10 :: a11 :: a12 :: a13 :: a14 :: a15 :: a16 :: a17 :: a18 :: a19 :: a20 :: a21 :: a22 :: a23 :: a24 :: a25 :: a26 :: a27 :: a28 :: a29 :: a30 :: a31 :: a32 :: a33 :: a34 :: a35 :: a36 :: a37 :: a38 :: Γ) w := e ▸ h
theorem Sat.n40 {a0 a1 a2 a3 a4 a5 a6 a7 a8 a9 a10 a11 a12 a13 a14 a15 a16 a17 a18 a19 a20 a21 a22 a23 a24 a25 a26 a27 a28 a29 a30 a31 a32 a33 a34 a35 a36 a37 a38 a39 : Item} {Γ Δ : Ctx} {w : World} (h : Sat Δ w) (e : Δ = a0 :: a1 :: a2 :: a3 :: a4 :: a5 :: a6 :: a7 :: a8 :: a9 :: a10 :: a11 :: a12 :: a13 :: a14 :: a15 :: a16 :: a17 :: a18 :: a19 :: a20 :: a21 :: a22 :: a23 :: a24 :: a25 :: a26 :: a27 :: a28 :: a29 :: a30 :: a31 :: a32 :: a33 :: a34 :: a35 :: a36 :: a37 :: a38 :: a39 :: Γ) : Sat (a0 :: a1 :: a2 :: a3 :: a4 :: a5 :: a6 :: a7 :: a8 :: a9 :: a10 :: a11 :: a12 :: a13 :: a14 :: a15 :: a16 :: a17 :: a18 :: a19 :: a20 :: a21 :: a22 :: a23 :: a24 :: a25 :: a26 :: a27 :: a28 :: a29 :: a30 :: a31 :: a32 :: a33 :: a34 :: a35 :: a36 :: a37 :: a38 :: a39 :: Γ) w := e ▸ h
theorem Sat.n41 {a0 a1 a2 a3 a4 a5 a6 a7 a8 a9 a10 a11 a12 a13 a14 a15 a16 a17 a18 a19 a20 a21 a22 a23 a24 a25 a26 a27 a28 a29 a30 a31 a32 a33 a34 a35 a36 a37 a38 a39 a40 : Item} {Γ Δ : Ctx} {w : World} (h : Sat Δ w) (e : Δ = a0 :: a1 :: a2 :: a3 :: a4 :: a5 :: a6 :: a7 :: a8 :: a9 :: a10 :: a11 :: a12 :: a13 :: a14 :: a15 :: a16 :: a17 :: a18 :: a19 :: a20 :: a21 :: a22 :: a23 :: a24 :: a25 :: a26 :: a27 :: a28 :: a29 :: a30 :: a31 :: a32 :: a33 :: a34 :: a35 :: a36 :: a37 :: a38 :: a39 :: a40 :: Γ) : Sat (a0 :: a1 :: a2 :: a3 :: a4 :: a5 :: a6 :: a7 :: a8 :: a9 :: a10 :: a11 :: a12 :: a13 :: a14 :: a15 :: a16 :: a17 :: a18 :: a19 :: a20 :: a21 :: a22 :: a23 :: a24 :: a25 :: a26 :: a27 :: a28 :: a29 :: a30 :: a31 :: a32 :: a33 :: a34 :: a35 :: a36 :: a37 :: a38 :: a39 :: a40 :: Γ) w := e ▸ h
theorem Sat.n42 {a0 a1 a2 a3 a4 a5 a6 a7 a8 a9 a10 a11 a12 a13 a14 a15 a16 a17 a18 a19 a20 a21 a22 a23 a24 a25 a26 a27 a28 a29 a30 a31 a32 a33 a34 a35 a36 a37 a38 a39 a40 a41 : Item} {Γ Δ : Ctx} {w : World} (h : Sat Δ w) (e : Δ = a0 :: a1 :: a2 :: a3 :: a4 :: a5 :: a6 :: a7 :: a8 :: a9 :: a10 :: a11 :: a12 :: a13 :: a14 :: a15 :: a16 :: a17 :: a18 :: a19 :: a20 :: a21 :: a22 :: a23 :: a24 :: a25 :: a26 :: a27 :: a28 :: a29 :: a30 :: a31 :: a32 :: a33 :: a34 :: a35 :: a36 :: a37 :: a38 :: a39 :: a40 :: a41 :: Γ) : Sat (a0 :: a1 :: a2 :: a3 :: a4 :: a5 :: a6 :: a7 :: a8 :: a9 :: a10 :: a11 :: a12 :: a13 :: a14 :: a15 :: a16 :: a17 :: a18 :: a19 :: a20 :: a21 :: a22 :: a23 :: a24 :: a25 :: a26 :: a27 :: a28 :: a29 :: a30 :: a31 :: a32 :: a33 :: a34 :: a35 :: a36 :: a37 :: a38 :: a39 :: a40 :: a41 :: Γ) w := e ▸ h
theorem Sat.n43 {a0 a1 a2 a3 a4 a5 a6 a7 a8 a9 a10 a11 a12 a13 a14 a15 a16 a17 a18 a19 a20 a21 a22 a23 a24 a25 a26 a27 a28 a29 a30 a31 a32 a33 a34 a35 a36 a37 a38 a39 a40 a41 a42 : Item} {Γ Δ : Ctx} {w : World} (h : Sat Δ w) (e : Δ = a0 :: a1 :: a2 :: a3 :: a4 :: a5 :: a6 :: a7 :: a8 :: a9 :: a10 :: a11 :: a12 :: a13 :: a14 :: a15 :: a16 :: a17 :: a18 :: a19 :: a20 :: a21 :: a22 :: a23 :: a24 :: a25 :: a26 :: a27 :: a28 :: a29 :: a30 :: a31 :: a32 :: a33 :: a34 :: a35 :: a36 :: a37 :: a38 :: a39 :: a40 :: a41 :: a42 :: Γ) : Sat (a0 :: a1 :: a2 :: a3 :: a4 :: a5 :: a6 :: a7 :: a8 :: a9 :: a10 :: a11 :: a12 :: a13 :: a14 :: a15 :: a16 :: a17 :: a18 :: a19 :: a20 :: a21 :: a22 :: a23 :: a24 :: a25 :: a26 :: a27 :: a28 :: a29 :: a30 :: a31 :: a32 :: a33 :: a34 :: a35 :: a36 :: a37 :: a38 :: a39 :: a40 :: a41 :: a42 :: Γ) w := e ▸ h
theorem Sat.n44 {a0 a1 a2 a3 a4 a5 a6 a7 a8 a9 a10 a11 a12 a13 a14 a15 a16 a17 a18 a19 a20 a21 a22 a23 a24 a25 a26 a27 a28 a29 a30 a31 a32 a33 a34 a35 a36 a37 a38 a39 a40 a41 a42 a43 : Item} {Γ Δ : Ctx} {w : World} (h : Sat Δ w) (e : Δ = a0 :: a1 :: a2 :: a3 :: a4 :: a5 :: a6 :: a7 :: a8 :: a9 :: a10 :: a11 :: a12 :: a13 :: a14 :: a15 :: a16 :: a17 :: a18 :: a19 :: a20 :: a21 :: a22 :: a23 :: a24 :: a25 :: a26 :: a27 :: a28 :: a29 :: a30 :: a31 :: a32 :: a33 :: a34 :: a35 :: a36 :: a37 :: a38 :: a39 :: a40 :: a41 :: a42 :: a43 :: Γ) : Sat (a0 :: a1 :: a2 :: a3 :: a4 :: a5 :: a6 :: a7 :: a8 :: a9 :: a10 :: a11 :: a12 :: a13 :: a14 :: a15 :: a16 :: a17 :: a18 :: a19 :: a20 :: a21 :: a22 :: a23 :: a24 :: a25 :: a26 :: a27 :: a28 :: a29 :: a30 :: a31 :: a32 :: a33 :: a34 :: a35 :: a36 :: a37 :: a38 :: a39 :: a40 :: a41 :: a42 :: a43 :: Γ) w := e ▸ h
theorem Sat.n45 {a0 a1 a2 a3 a4 a5 a6 a7 a8 a9 a10 a11 a12 a13 a14 a15 a16 a17 a18 a19 a20 a21 a22 a23 a24 a25 a26 a27 a28 a29 a30 a31 a32 a33 a34 a35 a36 a37 a38 a39 a40 a41 a42 a43 a44 : Item} {Γ Δ : Ctx} {w : World} (h : Sat Δ w) (e : Δ = a0 :: a1 :: a2 :: a3 :: a4 :: a5 :: a6 :: a7 :: a8 :: a9 :: a10 :: a11 :: a12 :: a13 :: a14 :: a15 :: a16 :: a17 :: a18 :: a19 :: a20 :: a21 :: a22 :: a23 :: a24 :: a25 :: a26 :: a27 :: a28 :: a29 :: a30 :: a31 :: a32 :: a33 :: a34 :: a35 :: a36 :: a37 :: a38 :: a39 :: a40 :: a41 :: a42 :: a43 :: a44 :: Γ) : Sat (a0 :: a1 :: a2 :: a3 :: a4 :: a5 :: a6 :: a7 :: a8 :: a9 :: a10 :: a11 :: a12 :: a13 :: a14 :: a15 :: a16 :: a17 :: a18 :: a19 :: a20 :: a21 :: a22 :: a23 :: a24 :: a25 :: a26 :: a27 :: a28 :: a29 :: a30 :: a31 :: a32 :: a33 :: a34 :: a35 :: a36 :: a37 :: a38 :: a39 :: a40 :: a41 :: a42 :: a43 :: a44 :: Γ) w := e ▸ h
theorem Sat.n46 {a0 a1 a2 a3 a4 a5 a6 a7 a8 a9 a10 a11 a12 a13 a14 a15 a16 a17 a18 a19 a20 a21 a22 a23 a24 a25 a26 a27 a28 a29 a30 a31 a32 a33 a34 a35 a36 a37 a38 a39 a40 a41 a42 a43 a44 a45 : Item} {Γ Δ : Ctx} {w : World} (h : Sat Δ w) (e : Δ = a0 :: a1 :: a2 :: a3 :: a4 :: a5 :: a6 :: a7 :: a8 :: a9 :: a10 :: a11 :: a12 :: a13 :: a14 :: a15 :: a16 :: a17 :: a18 :: a19 :: a20 :: a21 :: a22 :: a23 :: a24 :: a25 :: a26 :: a27 :: a28 :: a29 :: a30 :: a31 :: a32 :: a33 :: a34 :: a35 :: a36 :: a37 :: a38 :: a39 :: a40 :: a41 :: a42 :: a43 :: a44 :: a45 :: Γ) : Sat (a0 :: a1 :: a2 :: a3 :: a4 :: a5 :: a6 :: a7 :: a8 :: a9 :: a10 :: a11 :: a12 :: a13 :: a14 :: a15 :: a16 :: a17 :: a18 :: a19 :: a20 :: a21 :: a22 :: a23 :: a24 :: a25 :: a26 :: a27 :: a28 :: a29 :: a30 :: a31 :: a32 :: a33 :: a34 :: a35 :: a36 :: a37 :: a38 :: a39 :: a40 :: a41 :: a42 :: a43 :: a44 :: a45 :: Γ) w := e ▸ h
theorem Sat.n47 {a0 a1 a2 a3 a4 a5 a6 a7 a8 a9 a10 a11 a12 a13 a14 a15 a16 a17 a18 a19 a20 a21 a22 a23 a24 a25 a26 a27 a28 a29 a30 a31 a32 a33 a34 a35 a36 a37 a38 a39 a40 a41 a42 a43 a44 a45 a46 : Item} {Γ Δ : Ctx} {w : World} (h : Sat Δ w) (e : Δ = a0 :: a1 :: a2 :: a3 :: a4 :: a5 :: a6 :: a7 :: a8 :: a9 :: a10 :: a11 :: a12 :: a13 :: a14 :: a15 :: a16 :: a17 :: a18 :: a19 :: a20 :: a21 :: a22 :: a23 :: a24 :: a25 :: a26 :: a27 :: a28 :: a29 :: a30 :: a31 :: a32 :: a33 :: a34 :: a35 :: a36 :: a37 :: a38 :: a39 :: a40 :: a41 :: a42 :: a43 :: a44 :: a45 :: a46 :: Γ) : Sat (a0 :: a1 :: a2 :: a3 :: a4 :: a5 :: a6 :: a7 :: a8 :: a9 :: a10 :: a11 :: a12 :: a13 :: a14 :: a15 :: a16 :: a17 :: a18 :: a19 :: a20 :: a21 :: a22 :: a23 :: a24 :: a25 :: a26 :: a27 :: a28 :: a29 :: a30 :: a31 :: a32 :: a33 :: a34 :: a35 :: a36 :: a37 :: a38 :: a39 :: a40 :: a41 :: a42 :: a43 :: a44 :: a45 :: a46 :: Γ) w := e ▸ h
theorem Sat.n48 {a0 a1 a2 a3 a4 a5 a6 a7 a8 a9 a10 a11 a12 a13 a14 a15 a16 a17 a18 a19 a20 a21 a22 a23 a24 a25 a26 a27 a28 a29 a30 a31 a32 a33 a34 a35 a36 a37 a38 a39 a40 a41 a42 a43 a44 a45 a46 a47 : Item} {Γ Δ : Ctx} {w : World} (h : Sat Δ w) (e : Δ = a0 :: a1 :: a2 :: a3 :: a4 :: a5 :: a6 :: a7 :: a8 :: a9 :: a10 :: a11 :: a12 :: a13 :: a14 :: a15 :: a16 :: a17 :: a18 :: a19 :: a20 :: a21 :: a22 :: a23 :: a24 :: a25 :: a26 :: a27 :: a28 :: a29 :: a30 :: a31 :: a32 :: a33 :: a34 :: a35 :: a36 :: a37 :: a38 :: a39 :: a40 :: a41 :: a42 :: a43 :: a44 :: a45 :: a46 :: a47 :: Γ) : Sat (a0 :: a1 :: a2 :: a3 :: a4 :: a5 :: a6 :: a7 :: a8 :: a9 :: a10 :: a11 :: a12 :: a13 :: a14 :: a15 :: a16 :: a17 :: a18 :: a19 :: a20 :: a21 :: a22 :: a23 :: a24 :: a25 :: a26 :: a27 :: a28 :: a29 :: a30 :: a31 :: a32 :: a33 :: a34 :: a35 :: a36 :: a37 :: a38 :: a39 :: a40 :: a41 :: a42 :: a43 :: a44 :: a45 :: a46 :: a47 :: Γ) w := e ▸ h
theorem Sat.n49 {a0 a1 a2 a3 a4 a5 a6 a7 a8 a9 a10 a11 a12 a13 a14 a15 a16 a17 a18 a19 a20 a21 a22 a23 a24 a25 a26 a27 a28 a29 a30 a31 a32 a33 a34 a35 a36 a37 a38 a39 a40 a41 a42 a43 a44 a45 a46 a47 a48 : Item} {Γ Δ : Ctx} {w : World} (h : Sat Δ w) (e : Δ = a0 :: a1 :: a2 :: a3 :: a4 :: a5 :: a6 :: a7 :: a8 :: a9 :: a10 :: a11 :: a12 :: a13 :: a14 :: a15 :: a16 :: a17 :: a18 :: a19 :: a20 :: a21 :: a22 :: a23 :: a24 :: a25 :: a26 :: a27 :: a28 :: a29 :: a30 :: a31 :: a32 :: a33 :: a34 :: a35 :: a36 :: a37 :: a38 :: a39 :: a40 :: a41 :: a42 :: a43 :: a44 :: a45 :: a46 :: a47 :: a48 :: Γ) : Sat (a0 :: a1 :: a2 :: a3 :: a4 :: a5 :: a6 :: a7 :: a8 :: a9 :: a10 :: a11 :: a12 :: a13 :: a14 :: a15 :: a16 :: a17 :: a18 :: a19 :: a20 :: a21 :: a22 :: a23 :: a24 :: a25 :: a26 :: a27 :: a28 :: a29 :: a30 :: a31 :: a32 :: a33 :: a34 :: a35 :: a36 :: a37 :: a38 :: a39 :: a40 :: a41 :: a42 :: a43 :: a44 :: a45 :: a46 :: a47 :: a48 :: Γ) w := e ▸ h
theorem Sat.n50 {a0 a1 a2 a3 a4 a5 a6 a7 a8 a9 a10 a11 a12 a13 a14 a15 a16 a17 a18 a19 a20 a21 a22 a23 a24 a25 a26 a27 a28 a29 a30 a31 a32 a33 a34 a35 a36 a37 a38 a39 a40 a41 a42 a43 a44 a45 a46 a47 a48 a49 : Item} {Γ Δ : Ctx} {w : World} (h : Sat Δ w) (e : Δ = a0 :: a1 :: a2 :: a3 :: a4 :: a5 :: a6 :: a7 :: a8 :: a9 :: a10 :: a11 :: a12 :: a13 :: a14 :: a15 :: a16 :: a17 :: a18 :: a19 :: a20 :: a21 :: a22 :: a23 :: a24 :: a25 :: a26 :: a27 :: a28 :: a29 :: a30 :: a31 :: a32 :: a33 :: a34 :: a35 :: a36 :: a37 :: a38 :: a39 :: a40 :: a41 :: a42 :: a43 :: a44 :: a45 :: a46 :: a47 :: a48 :: a49 :: Γ) : Sat (a0 :: a1 :: a2 :: a3 :: a4 :: a5 :: a6 :: a7 :: a8 :: a9 :: a10 :: a11 :: a12 :: a13 :: a14 :: a15 :: a16 :: a17 :: a18 :: a19 :: a20 :: a21 :: a22 :: a23 :: a24 :: a25 :: a26 :: a27 :: a28 :: a29 :: a30 :: a31 :: a32 :: a33 :: a34 :: a35 :: a36 :: a37 :: a38 :: a39 :: a40 :: a41 :: a42 :: a43 :: a44 :: a45 :: a46 :: a47 :: a48 :: a49 :: Γ) w := e ▸ h
theorem Sat.n51 {a0 a1 a2 a3 a4 a5 a6 a7 a8 a9 a10 a11 a12 a13 a14 a15 a16 a17 a18 a19 a20 a21 a22 a23 a24 a25 a26 a27 a28 a29 a30 a31 a32 a33 a34 a35 a36 a37 a38 a39 a40 a41 a42 a43 a44 a45 a46 a47 a48 a49 a50 : Item} {Γ Δ : Ctx} {w : World} (h : Sat Δ w) (e : Δ = a0 :: a1 :: a2 :: a3 :: a4 :: a5 :: a6 :: a7 :: a8 :: a9 :: a10 :: a11 :: a12 :: a13 :: a14 :: a15 :: a16 :: a17 :: a18 :: a19 :: a20 :: a21 :: a22 :: a23 :: a24 :: a25 :: a26 :: a27 :: a28 :: a29 :: a30 :: a31 :: a32 :: a33 :: a34 :: a35 :: a36 :: a37 :: a38 :: a39 :: a40 :: a41 :: a42 :: a43 :: a44 :: a45 :: a46 :: a47 :: a48 :: a49 :: a50 :: Γ) : Sat (a0 :: a1 :: a2 :: a3 :: a4 :: a5 :: a6 :: a7 :: a8 :: a9 :: a10 :: a11 :: a12 :: a13 :: a14 :: a15 :: a16 :: a17 :: a18 :: a19 :: a20 :: a21 :: a22 :: a23 :: a24 :: a25 :: a26 :: a27 :: a28 :: a29 :: a30 :: a31 :: a32 :: a33 :: a34 :: a35 :: a36 :: a37 :: a38 :: a39 :: a40 :: a41 :: a42 :: a43 :: a44 :: a45 :: a46 :: a47 :: a48 :: a49 :: a50 :: Γ) w := e ▸ h
theorem Sat.n52 {a0 a1 a2 a3 a4 a5 a6 a7 a8 a9 a10 a11 a12 a13 a14 a15 a16 a17 a18 a19 a20 a21 a22 a23 a24 a25 a26 a27 a28 a29 a30 a31 a32 a33 a34 a35 a36 a37 a38 a39 a40 a41 a42 a43 a44 a45 a46 a47 a48 a49 a50 a51 : Item} {Γ Δ : Ctx} {w : World} (h : Sat Δ w) (e : Δ = a0 :: a1 :: a2 :: a3 :: a4 :: a5 :: a6 :: a7 :: a8 :: a9 :: a10 :: a11 :: a12 :: a13 :: a14 :: a15 :: a16 :: a17 :: a18 :: a19 :: a20 :: a21 :: a22 :: a23 :: a24 :: a25 :: a26 :: a27 :: a28 :: a29 :: a30 :: a31 :: a32 :: a33 :: a34 :: a35 :: a36 :: a37 :: a38 :: a39 :: a40 :: a41 :: a42 :: a43 :: a44 :: a45 :: a46 :: a47 :: a48 :: a49 :: a50 :: a51 :: Γ) : Sat (a0 :: a1 :: a2 :: a3 :: a4 :: a5 :: a6 :: a7 :: a8 :: a9 :: a10 :: a11 :: a12 :: a13 :: a14 :: a15 :: a16 :: a17 :: a18 :: a19 :: a20 :: a21 :: a22 :: a23 :: a24 :: a25 :: a26 :: a27 :: a28 :: a29 :: a30 :: a31 :: a32 :: a33 :: a34 :: a35 :: a36 :: a37 :: a38 :: a39 :: a40 :: a41 :: a42 :: a43 :: a44 :: a45 :: a46 :: a47 :: a48 :: a49 :: a50 :: a51 :: Γ) w := e ▸ h
theorem Sat.n53 {a0 a1 a2 a3 a4 a5 a6 a7 a8 a9 a10 a11 a12 a13 a14 a15 a16 a17 a18 a19 a20 a21 a22 a23 a24 a25 a26 a27 a28 a29 a30 a31 a32 a33 a34 a35 a36 a37 a38 a39 a40 a41 a42 a43 a44 a45 a46 a47 a48 a49 a50 a51 a52 : Item} {Γ Δ : Ctx} {w : World} (h : Sat Δ w) (e : Δ = a0 :: a1 :: a2 :: a3 :: a4 :: a5 :: a6 :: a7 :: a8 :: a9 :: a10 :: a11 :: a12 :: a13 :: a14 :: a15 :: a16 :: a17 :: a18 :: a19 :: a20 :: a21 :: a22 :: a23 :: a24 :: a25 :: a26 :: a27 :: a28 :: a29 :: a30 :: a31 :: a32 :: a33 :: a34 :: a35 :: a36 :: a37 :: a38 :: a39 :: a40 :: a41 :: a42 :: a43 :: a44 :: a45 :: a46 :: a47 :: a48 :: a49 :: a50 :: a51 :: a52 :: Γ) : Sat (a0 :: a1 :: a2 :: a3 :: a4 :: a5 :: a6 :: a7 :: a8 :: a9 :: a10 :: a11 :: a12 :: a13 :: a14 :: a15 :: a16 :: a17 :: a18 :: a19 :: a20 :: a21 :: a22 :: a23 :: a24 :: a25 :: a26 :: a27 :: a28 :: a29 :: a30 :: a31 :: a32 :: a33 :: a34 :: a35 :: a36 :: a37 :: a38 :: a39 :: a40 :: a41 :: a42 :: a43 :: a44 :: a45 :: a46 :: a47 :: a48 :: a49 :: a50 :: a51 :: a52 :: Γ) w := e ▸ h
theorem Sat.n54 {a0 a1 a2 a3 a4 a5 a6 a7 a8 a9 a10 a11 a12 a13 a14 a15 a16 a17 a18 a19 a20 a21 a22 a23 a24 a25 a26 a27 a28 a29 a30 a31 a32 a33 a34 a35 a36 a37 a38 a39 a40 a41 a42 a43 a44 a45 a46 a47 a48 a49 a50 a51 a52 a53 : Item} {Γ Δ : Ctx} {w : World} (h : Sat Δ w) (e : Δ = a0 :: a1 :: a2 :: a3 :: a4 :: a5 :: a6 :: a7 :: a8 :: a9 :: a10 :: a11 :: a12 :: a13 :: a14 :: a15 :: a16 :: a17 :: a18 :: a19 :: a20 :: a21 :: a22 :: a23 :: a24 :: a25 :: a26 :: a27 :: a28 :: a29 :: a30 :: a31 :: a32 :: a33 :: a34 :: a35 :: a36 :: a37 :: a38 :: a39 :: a40 :: a41 :: a42 :: a43 :: a44 :: a45 :: a46 :: a47 :: a48 :: a49 :: a50 :: a51 :: a52 :: a53 :: Γ) : Sat (a0 :: a1 :: a2 :: a3 :: a4 :: a5 :: a6 :: a7 :: a8 :: a9 :: a10 :: a11 :: a12 :: a13 :: a14 :: a15 :: a16 :: a17 :: a18 :: a19 :: a20 :: a21 :: a22 :: a23 :: a24 :: a25 :: a26 :: a27 :: a28 :: a29 :: a30 :: a31 :: a32 :: a33 :: a34 :: a35 :: a36 :: a37 :: a38 :: a39 :: a40 :: a41 :: a42 :: a43 :: a44 :: a45 :: a46 :: a47 :: a48 :: a49 :: a50 :: a51 :: a52 :: a53 :: Γ) w := e ▸ h
theorem Sat.n55 {a0 a1 a2 a3 a4 a5 a6 a7 a8 a9 a10 a11 a12 a13 a14 a15 a16 a17 a18 a19 a20 a21 a22 a23 a24 a25 a26 a27 a28 a29 a30 a31 a32 a33 a34 a35 a36 a37 a38 a39 a40 a41 a42 a43 a44 a45 a46 a47 a48 a49 a50 a51 a52 a53 a54 : Item} {Γ Δ : Ctx} {w : World} (h : Sat Δ w) (e : Δ = a0 :: a1 :: a2 :: a3 :: a4 :: a5 :: a6 :: a7 :: a8 :: a9 :: a10 :: a11 :: a12 :: a13 :: a14 :: a15 :: a16 :: a17 :: a18 :: a19 :: a20 :: a21 :: a22 :: a23 :: a24 :: a25 :: a26 :: a27 :: a28 :: a29 :: a30 :: a31 :: a32 :: a33 :: a34 :: a35 :: a36 :: a37 :: a38 :: a39 :: a40 :: a41 :: a42 :: a43 :: a44 :: a45 :: a46 :: a47 :: a48 :: a49 :: a50 :: a51 :: a52 :: a53 :: a54 :: Γ) : Sat (a0 :: a1 :: a2 :: a3 :: a4 :: a5 :: a6 :: a7 :: a8 :: a9 :: a10 :: a11 :: a12 :: a13 :: a14 :: a15 :: a16 :: a17 :: a18 :: a19 :: a20 :: a21 :: a22 :: a23 :: a24 :: a25 :: a26 :: a27 :: a28 :: a29 :: a30 :: a31 :: a32 :: a33 :: a34 :: a35 :: a36 :: a37 :: a38 :: a39 :: a40 :: a41 :: a42 :: a43 :: a44 :: a45 :: a46 :: a47 :: a48 :: a49 :: a50 :: a51 :: a52 :: a53 :: a54 :: Γ) w := e ▸ h
theorem Sat.n56 {a0 a1 a2 a3 a4 a5 a6 a7 a8 a9 a10 a11 a12 a13 a14 a15 a16 a17 a18 a19 a20 a21 a22 a23 a24 a25 a26 a27 a28 a29 a30 a31 a32 a33 a34 a35 a36 a37 a38 a39 a40 a41 a42 a43 a44 a45 a46 a47 a48 a49 a50 a51 a52 a53 a54 a55 : Item} {Γ Δ : Ctx} {w : World} (h : Sat Δ w) (e : Δ = a0 :: a1 :: a2 :: a3 :: a4 :: a5 :: a6 :: a7 :: a8 :: a9 :: a10 :: a11 :: a12 :: a13 :: a14 :: a15 :: a16 :: a17 :: a18 :: a19 :: a20 :: a21 :: a22 :: a23 :: a24 :: a25 :: a26 :: a27 :: a28 :: a29 :: a30 :: a31 :: a32 :: a33 :: a34 :: a35 :: a36 :: a37 :: a38 :: a39 :: a40 :: a41 :: a42 :: a43 :: a44 :: a45 :: a46 :: a47 :: a48 :: a49 :: a50 :: a51 :: a52 :: a53 :: a54 :: a55 :: Γ) : Sat (a0 :: a1 :: a2 :: a3 :: a4 :: a5 :: a6 :: a7 :: a8 :: a9 :: a10 :: a11 :: a12 :: a13 :: a14 :: a15 :: a16 :: a17 :: a18 :: a19 :: a20 :: a21 :: a22 :: a23 :: a24 :: a25 :: a26 :: a27 :: a28 :: a29 :: a30 :: a31 :: a32 :: a33 :: a34 :: a35 :: a36 :: a37 :: a38 :: a39 :: a40 :: a41 :: a42 :: a43 :: a44 :: a45 :: a46 :: a47 :: a48 :: a49 :: a50 :: a51 :: a52 :: a53 :: a54 :: a55 :: Γ) w := e ▸ h
theorem Sat.n57 {a0 a1 a2 a3 a4 a5 a6 a7 a8 a9 a10 a11 a12 a13 a14 a15 a16 a17 a18 a19 a20 a21 a22 a23 a24 a25 a26 a27 a28 a29 a30 a31 a32 a33 a34 a35 a36 a37 a38 a39 a40 a41 a42 a43 a44 a45 a46 a47 a48 a49 a50 a51 a52 a53 a54 a55 a56 : Item} {Γ Δ : Ctx} {w : World} (h : Sat Δ w) (e : Δ = a0 :: a1 :: a2 :: a3 :: a4 :: a5 :: a6 :: a7 :: a8 :: a9 :: a10 :: a11 :: a12 :: a13 :: a14 :: a15 :: a16 :: a17 :: a18 :: a19 :: a20 :: a21 :: a22 :: a23 :: a24 :: a25 :: a26 :: a27 :: a28 :: a29 :: a30 :: a31 :: a32 :: a33 :: a34 :: a35 :: a36 :: a37 :: a38 :: a39 :: a40 :: a41 :: a42 :: a43 :: a44 :: a45 :: a46 :: a47 :: a48 :: a49 :: a50 :: a51 :: a52 :: a53 :: a54 :: a55 :: a56 :: Γ) : Sat (a0 :: a1 :: a2 :: a3 :: a4 :: a5 :: a6 :: a7 :: a8 :: a9 :: a10 :: a11 :: a12 :: a13 :: a14 :: a15 :: a16 :: a17 :: a18 :: a19 :: a20 :: a21 :: a22 :: a23 :: a24 :: a25 :: a26 :: a27 :: a28 :: a29 :: a30 :: a31 :: a32 :: a33 :: a34 :: a35 :: a36 :: a37 :: a38 :: a39 :: a40 :: a41 :: a42 :: a43 :: a44 :: a45 :: a46 :: a47 :: a48 :: a49 :: a50 :: a51 :: a52 :: a53 :: a54 :: a55 :: a56 :: Γ) w := e ▸ h
theorem Sat.n58 {a0 a1 a2 a3 a4 a5 a6 a7 a8 a9 a10 a11 a12 a13 a14 a15 a16 a17 a18 a19 a20 a21 a22 a23 a24 a25 a26 a27 a28 a29 a30 a31 a32 a33 a34 a35 a36 a37 a38 a39 a40 a41 a42 a43 a44 a45 a46 a47 a48 a49 a50 a51 a52 a53 a54 a55 a56 a57 : Item} {Γ Δ : Ctx} {w : World} (h : Sat Δ w) (e : Δ = a0 :: a1 :: a2 :: a3 :: a4 :: a5 :: a6 :: a7 :: a8 :: a9 :: a10 :: a11 :: a12 :: a13 :: a14 :: a15 :: a16 :: a17 :: a18 :: a19 :: a20 :: a21 :: a22 :: a23 :: a24 :: a25 :: a26 :: a27 :: a28 :: a29 :: a30 :: a31 :: a32 :: a33 :: a34 :: a35 :: a36 :: a37 :: a38 :: a39 :: a40 :: a41 :: a42 :: a43 :: a44 :: a45 :: a46 :: a47 :: a48 :: a49 :: a50 :: a51 :: a52 :: a53 :: a54 :: a55 :: a56 :: a57 :: Γ) : Sat (a0 :: a1 :: a2 :: a3 :: a4 :: a5 :: a6 :: a7 :: a8 :: a9 :: a10 :: a11 :: a12 :: a13 :: a14 :: a15 :: a16 :: a17 :: a18 :: a19 :: a20 :: a21 :: a22 :: a23 :: a24 :: a25 :: a26 :: a27 :: a28 :: a29 :: a30 :: a31 :: a32 :: a33 :: a34 :: a35 :: a36 :: a37 :: a38 :: a39 :: a40 :: a41 :: a42 :: a43 :: a44 :: a45 :: a46 :: a47 :: a48 :: a49 :: a50 :: a51 :: a52 :: a53 :: a54 :: a55 :: a56 :: a57 :: Γ) w := e ▸ h
theorem Sat.n59 {a0 a1 a2 a3 a4 a5 a6 a7 a8 a9 a10 a11 a12 a13 a14 a15 a16 a17 a18 a19 a20 a21 a22 a23 a24 a25 a26 a27 a28 a29 a30 a31 a32 a33 a34 a35 a36 a37 a38 a39 a40 a41 a42 a43 a44 a45 a46 a47 a48 a49 a50 a51 a52 a53 a54 a55 a56 a57 a58 : Item} {Γ Δ : Ctx} {w : World} (h : Sat Δ w) (e : Δ = a0 :: a1 :: a2 :: a3 :: a4 :: a5 :: a6 :: a7 :: a8 :: a9 :: a10 :: a11 :: a12 :: a13 :: a14 :: a15 :: a16 :: a17 :: a18 :: a19 :: a20 :: a21 :: a22 :: a23 :: a24 :: a25 :: a26 :: a27 :: a28 :: a29 :: a30 :: a31 :: a32 :: a33 :: a34 :: a35 :: a36 :: a37 :: a38 :: a39 :: a40 :: a41 :: a42 :: a43 :: a44 :: a45 :: a46 :: a47 :: a48 :: a49 :: a50 :: a51 :: a52 :: a53 :: a54 :: a55 :: a56 :: a57 :: a58 :: Γ) : Sat (a0 :: a1 :: a2 :: a3 :: a4 :: a5 :: a6 :: a7 :: a8 :: a9 :: a10 :: a11 :: a12 :: a13 :: a14 :: a15 :: a16 :: a17 :: a18 :: a19 :: a20 :: a21 :: a22 :: a23 :: a24 :: a25 :: a26 :: a27 :: a28 :: a29 :: a30 :: a31 :: a32 :: a33 :: a34 :: a35 :: a36 :: a37 :: a38 :: a39 :: a40 :: a41 :: a42 :: a43 :: a44 :: a45 :: a46 :: a47 :: a48 :: a49 :: a50 :: a51 :: a52 :: a53 :: a54 :: a55 :: a56 :: a57 :: a58 :: Γ) w := e ▸ h
theorem Sat.n60 {a0 a1 a2 a3 a4 a5 a6 a7 a8 a9 a10 a11 a12 a13 a14 a15 a16 a17 a18 a19 a20 a21 a22 a23 a24 a25 a26 a27 a28 a29 a30 a31 a32 a33 a34 a35 a36 a37 a38 a39 a40 a41 a42 a43 a44 a45 a46 a47 a48 a49 a50 a51 a52 a53 a54 a55 a56 a57 a58 a59 : Item} {Γ Δ : Ctx} {w : World} (h : Sat Δ w) (e : Δ = a0 :: a1 :: a2 :: a3 :: a4 :: a5 :: a6 :: a7 :: a8 :: a9 :: a10 :: a11 :: a12 :: a13 :: a14 :: a15 :: a16 :: a17 :: a18 :: a19 :: a20 :: a21 :: a22 :: a23 :: a24 :: a25 :: a26 :: a27 :: a28 :: a29 :: a30 :: a31 :: a32 :: a33 :: a34 :: a35 :: a36 :: a37 :: a38 :: a39 :: a40 :: a41 :: a42 :: a43 :: a44 :: a45 :: a46 :: a47 :: a48 :: a49 :: a50 :: a51 :: a52 :: a53 :: a54 :: a55 :: a56 :: a57 :: a58 :: a59 :: Γ) : Sat (a0 :: a1 :: a2 :: a3 :: a4 :: a5 :: a6 :: a7 :: a8 :: a9 :: a10 :: a11 :: a12 :: a13 :: a14 :: a15 :: a16 :: a17 :: a18 :: a19 :: a20 :: a21 :: a22 :: a23 :: a24 :: a25 :: a26 :: a27 :: a28 :: a29 :: a30 :: a31 :: a32 :: a33 :: a34 :: a35 :: a36 :: a37 :: a38 :: a39 :: a40 :: a41 :: a42 :: a43 :: a44 :: a45 :: a46 :: a47 :: a48 :: a49 :: a50 :: a51 :: a52 :: a53 :: a54 :: a55 :: a56 :: a57 :: a58 :: a59 :: Γ) w := e ▸ h
end Go.Proofs.Ytjappdgehmjomaa
