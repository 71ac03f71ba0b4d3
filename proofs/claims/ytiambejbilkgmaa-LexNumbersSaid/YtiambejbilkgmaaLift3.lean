/-
  Own framework, part 3: memory. What data a value reads as; blocks of the call's own.
-/
import Derived.Test.YtiambejbilkgmaaLift2
namespace Go.Proofs.Ytiambejbilkgmaa

/-! ### readings -/

/-- from (M, w) to (M', w'): what lies outside of M stays as it is, and outside of M' -/
def Mv (M : Nat → Prop) (w : World) (M' : Nat → Prop) (w' : World) : Prop :=
  w.heap.size ≤ w'.heap.size ∧ ∀ b, b < w.heap.size → ¬ M b → ¬ M' b ∧ w'.heap[b]? = w.heap[b]?

theorem Mv.refl (M : Nat → Prop) (w : World) : Mv M w M w := ⟨Nat.le_refl _, fun _ _ h => ⟨h, rfl⟩⟩
theorem Mv.trans {M M' M'' : Nat → Prop} {w w' w'' : World} (h : Mv M w M' w') (k : Mv M' w' M'' w'') : Mv M w M'' w'' :=
  ⟨Nat.le_trans h.1 k.1, fun b hb hM => by
    obtain ⟨h1, h2⟩ := h.2 b hb hM
    obtain ⟨k1, k2⟩ := k.2 b (Nat.lt_of_lt_of_le hb h.1) h1
    exact ⟨k1, k2.trans h2⟩⟩
theorem Ext.mv {w w' : World} (h : Ext w w') (M : Nat → Prop) : Mv M w M w' := ⟨h.size, fun b hb hM => ⟨hM, h.block b hb⟩⟩
theorem Mv.weaken {M M' : Nat → Prop} (w : World) (h : ∀ b, M' b → M b) : Mv M w M' w := ⟨Nat.le_refl _, fun b _ hM => ⟨fun h' => hM (h b h'), rfl⟩⟩

structure Rep (α : Type) where
  n : Nat
  rd : (Nat → Prop) → World → List Value → α → Prop
  len : ∀ {M w vs x}, rd M w vs x → vs.length = n
  one : ∀ {M w vs x}, rd M w vs x → ∀ v ∈ vs, v.oneCell' = true
  mv : ∀ {M M' w w' vs x}, rd M w vs x → Mv M w M' w' → rd M' w' vs x

def RI (k : IntKind) : Rep Int where
  n := 1
  rd _ _ vs x := vs = [.int k x]
  len h := by rw [h]; rfl
  one h := by rw [h]; simp [Value.oneCell']
  mv h _ := h
def RB : Rep Bool where
  n := 1
  rd _ _ vs x := vs = [.bool x]
  len h := by rw [h]; rfl
  one h := by rw [h]; simp [Value.oneCell']
  mv h _ := h
def RS : Rep Str where
  n := 1
  rd _ _ vs x := vs = [S x]
  len h := by rw [h]; rfl
  one h := by rw [h]; simp [S, Value.oneCell']
  mv h _ := h
def RU : Rep Unit where
  n := 0
  rd _ _ vs _ := vs = []
  len h := by rw [h]; rfl
  one h := by rw [h]; simp
  mv h _ := h
def RP {α β : Type} (A : Rep α) (B : Rep β) : Rep (α × β) where
  n := A.n + B.n
  rd M w vs x := ∃ a b, vs = a ++ b ∧ A.rd M w a x.1 ∧ B.rd M w b x.2
  len h := by obtain ⟨a, b, rfl, h1, h2⟩ := h; rw [List.length_append, A.len h1, B.len h2]
  one h := by
    obtain ⟨a, b, rfl, h1, h2⟩ := h
    intro v hv
    rcases List.mem_append.1 hv with hv | hv
    · exact A.one h1 v hv
    · exact B.one h2 v hv
  mv h m := by obtain ⟨a, b, rfl, h1, h2⟩ := h; exact ⟨a, b, rfl, A.mv h1 m, B.mv h2 m⟩

section
variable {α β : Type} (A : Rep α)

/-- cells that read as a row -/
def ARd (M : Nat → Prop) (w : World) (cs : List Value) (xs : List α) : Prop :=
  cs.length = xs.length * A.n ∧ ∀ i (h : i < xs.length), A.rd M w ((cs.drop (i * A.n)).take A.n) xs[i]

variable {A}
theorem ARd.nil {M : Nat → Prop} {w : World} : ARd A M w [] [] := ⟨by simp, fun i h => by simp at h⟩
theorem ARd.cons {M : Nat → Prop} {w : World} {c cs : List Value} {x : α} {xs : List α} (h : A.rd M w c x) (hs : ARd A M w cs xs) : ARd A M w (c ++ cs) (x :: xs) := by
  have hc := A.len h
  refine ⟨by simp [hc, hs.1, Nat.add_mul, Nat.add_comm], fun i hi => ?_⟩
  cases i with
  | zero => simpa [hc, List.take_append] using (by simpa [← hc] using h)
  | succ i =>
    have := hs.2 i (by simpa using hi)
    have e : (c ++ cs).drop ((i + 1) * A.n) = cs.drop (i * A.n) := by
      rw [List.drop_append]
      have : (i + 1) * A.n = c.length + i * A.n := by rw [hc, Nat.add_mul]; omega
      rw [this, List.drop_of_length_le (by omega)]
      simp
    rw [e]
    simpa using this
theorem ARd.one {M : Nat → Prop} {w : World} {c : List Value} {x : α} (h : A.rd M w c x) : ARd A M w c [x] := by
  have := ARd.cons h (ARd.nil (A := A) (M := M) (w := w))
  simpa using this
theorem ARd.mv {M M' : Nat → Prop} {w w' : World} {cs : List Value} {xs : List α} (h : ARd A M w cs xs) (m : Mv M w M' w') : ARd A M' w' cs xs :=
  ⟨h.1, fun i hi => A.mv (h.2 i hi) m⟩
theorem ARd.oneCell {M : Nat → Prop} {w : World} {cs : List Value} {xs : List α} (h : ARd A M w cs xs) : ∀ v ∈ cs, v.oneCell' = true := by
  intro v hv
  obtain ⟨j, hj, rfl⟩ := List.mem_iff_getElem.1 hv
  have hl := h.1
  rcases Nat.eq_zero_or_pos A.n with h0 | h0
  · rw [h0] at hl; omega
  · have hi : j / A.n < xs.length := by rw [Nat.div_lt_iff_lt_mul h0]; omega
    have hr := h.2 (j / A.n) hi
    refine A.one hr _ ?_
    have hm : j % A.n < A.n := Nat.mod_lt _ h0
    have hdm : j / A.n * A.n + j % A.n = j := by rw [Nat.mul_comm]; exact Nat.div_add_mod j A.n
    rw [List.mem_iff_getElem]
    have hlen := A.len hr
    refine ⟨j % A.n, by rw [hlen]; exact hm, ?_⟩
    rw [List.getElem_take, List.getElem_drop]
    congr 1
theorem ARd.append {M : Nat → Prop} {w : World} {cs ds : List Value} {xs ys : List α} (h : ARd A M w cs xs) (k : ARd A M w ds ys) : ARd A M w (cs ++ ds) (xs ++ ys) := by
  refine ⟨by simp [h.1, k.1, Nat.add_mul], fun i hi => ?_⟩
  by_cases hlt : i < xs.length
  · have hr := h.2 i hlt
    have e : ((cs ++ ds).drop (i * A.n)).take A.n = (cs.drop (i * A.n)).take A.n := by
      have h1 : i * A.n + A.n ≤ cs.length := by
        rw [h.1, ← Nat.succ_mul]; exact Nat.mul_le_mul_right _ hlt
      rw [List.drop_append_of_le_length (by omega), List.take_append_of_le_length (by simp; omega)]
    rw [e, List.getElem_append_left hlt]; exact hr
  · have h2 : i - xs.length < ys.length := by simp at hi; omega
    have hr := k.2 _ h2
    have e : (cs ++ ds).drop (i * A.n) = ds.drop ((i - xs.length) * A.n) := by
      have : i * A.n = cs.length + (i - xs.length) * A.n := by
        rw [h.1, ← Nat.add_mul]; congr 1; omega
      rw [this, List.drop_append]; simp
    rw [e, List.getElem_append_right (by omega)]; exact hr
theorem ARd.take {M : Nat → Prop} {w : World} {cs : List Value} {xs : List α} (h : ARd A M w cs xs) (k : Nat) : ARd A M w (cs.take (k * A.n)) (xs.take k) := by
  have e : (cs.take (k * A.n)).length = (xs.take k).length * A.n := by
    rw [List.length_take, List.length_take, h.1]
    by_cases hk : k ≤ xs.length
    · rw [Nat.min_eq_left hk, Nat.min_eq_left (Nat.mul_le_mul_right _ hk)]
    · have hk' : xs.length ≤ k := by omega
      rw [Nat.min_eq_right (Nat.mul_le_mul_right A.n hk'), Nat.min_eq_right hk']
  refine ⟨e, fun i hi => ?_⟩
  have hi' : i < k ∧ i < xs.length := by rw [List.length_take] at hi; omega
  have hr := h.2 i hi'.2
  have h1 : i * A.n + A.n ≤ k * A.n := by rw [← Nat.succ_mul]; exact Nat.mul_le_mul_right _ hi'.1
  rw [List.getElem_take, List.drop_take, List.take_take, Nat.min_eq_left (by omega)]
  exact hr
theorem ARd.drop {M : Nat → Prop} {w : World} {cs : List Value} {xs : List α} (h : ARd A M w cs xs) (k : Nat) : ARd A M w (cs.drop (k * A.n)) (xs.drop k) := by
  refine ⟨by rw [List.length_drop, List.length_drop, h.1, ← Nat.sub_mul], fun i hi => ?_⟩
  have hi' : k + i < xs.length := by simp at hi; omega
  have hr := h.2 (k + i) hi'
  rw [List.getElem_drop, List.drop_drop]
  have : (k + i) * A.n = k * A.n + i * A.n := Nat.add_mul ..
  rw [this] at hr
  exact hr
theorem ARd.set {M : Nat → Prop} {w : World} {cs c : List Value} {xs : List α} {x : α} {i : Nat} (h : ARd A M w cs xs) (hi : i < xs.length) (hx : A.rd M w c x) :
    ARd A M w (cs.take (i * A.n) ++ c ++ cs.drop ((i + 1) * A.n)) (xs.set i x) := by
  have h1 := h.take i
  have h2 := h.drop (i + 1)
  have h3 := (h1.append (ARd.one hx)).append h2
  have e : xs.set i x = xs.take i ++ [x] ++ xs.drop (i + 1) := by
    rw [List.set_eq_take_append_cons_drop, if_pos hi]; simp
  rw [e]; exact h3

variable (A)
/-- a slice value that reads as a row -/
def SRd (M : Nat → Prop) (w : World) (v : Value) (xs : List α) : Prop :=
  (v = .slice none 0 0 ∧ xs = []) ∨ ∃ b off cap cs e fr, v = .slice (some ⟨b, off, none⟩) xs.length cap ∧ ¬ M b ∧ w.heap[b]? = some (.cells cs e fr) ∧ xs.length ≤ cap ∧
    off + cap * A.n ≤ cs.size ∧ ARd A M w ((cs.toList.drop off).take (xs.length * A.n)) xs
variable {A}
theorem SRd.nil {M : Nat → Prop} {w : World} : SRd A M w (.slice none 0 0) [] := .inl ⟨rfl, rfl⟩
theorem SRd.mv {M M' : Nat → Prop} {w w' : World} {v : Value} {xs : List α} (h : SRd A M w v xs) (m : Mv M w M' w') : SRd A M' w' v xs := by
  rcases h with h | ⟨b, off, cap, cs, e, fr, hv, hM, hb, hc, ho, hr⟩
  · exact .inl h
  · obtain ⟨h1, h2⟩ := m.2 b (Array.getElem?_eq_some_iff.1 hb).1 hM
    exact .inr ⟨b, off, cap, cs, e, fr, hv, h1, by rw [h2]; exact hb, hc, ho, hr.mv m⟩

variable (A)
def RSl : Rep (List α) where
  n := 1
  rd M w vs xs := ∃ v, vs = [v] ∧ SRd A M w v xs
  len h := by obtain ⟨v, rfl, _⟩ := h; rfl
  one h := by
    obtain ⟨v, rfl, h⟩ := h
    rcases h with ⟨rfl, _⟩ | ⟨b, off, cap, cs, e, fr, rfl, _⟩ <;> simp [Value.oneCell']
  mv h m := by obtain ⟨v, rfl, h⟩ := h; exact ⟨v, rfl, h.mv m⟩
variable {A}

def Len (v : Value) (n : Nat) : Prop := ∃ a cap, v = .slice a n cap
theorem SRd.len {M : Nat → Prop} {w : World} {v : Value} {xs : List α} (h : SRd A M w v xs) : Len v xs.length := by
  rcases h with ⟨rfl, rfl⟩ | ⟨b, off, cap, cs, e, fr, rfl, _⟩
  · exact ⟨_, _, rfl⟩
  · exact ⟨_, _, rfl⟩

/-! ### cells at an address -/
def CellsAt (w : World) (p : Addr) (vs : List Value) : Prop := p.spot = none ∧ ∃ cs e fr, w.heap[p.block]? = some (.cells cs e fr) ∧ ∀ j u, vs[j]? = some u → cs[p.off + j]? = some u

theorem CellsAt.ext {w w' : World} {p : Addr} {vs : List Value} (h : CellsAt w p vs) (e : Ext w w') : CellsAt w' p vs := by
  obtain ⟨hs, cs, t, fr, hb, hc⟩ := h
  exact ⟨hs, cs, t, fr, by rw [e.block _ (Array.getElem?_eq_some_iff.1 hb).1]; exact hb, hc⟩
theorem CellsAt.cell {w : World} {p : Addr} {vs : List Value} (h : CellsAt w p vs) {j : Nat} {u : Value} (hu : vs[j]? = some u) : w.cell? (p.add j) = some u := by
  obtain ⟨hs, cs, t, fr, hb, hc⟩ := h
  have := hc j u hu
  unfold Addr.add
  split
  · rename_i h0; subst h0; simp only [World.cell?, hb, hs]; simpa using this
  · simp only [World.cell?, hb]; simpa using this
theorem CellsAt.sub {w : World} {p : Addr} {vs us : List Value} (h : CellsAt w p vs) (k : Nat) (hu : (vs.drop k).take us.length = us) : CellsAt w (p.add k) us := by
  obtain ⟨hs, cs, t, fr, hb, hc⟩ := h
  have key : ∀ j u, us[j]? = some u → cs[p.off + k + j]? = some u := fun j u hj => by
    rw [← hu, List.getElem?_take] at hj
    split at hj
    · rw [List.getElem?_drop] at hj
      have := hc _ _ hj
      rwa [← Nat.add_assoc] at this
    · cases hj
  unfold Addr.add
  split
  · rename_i h0; subst h0; exact ⟨hs, cs, t, fr, hb, key⟩
  · exact ⟨rfl, cs, t, fr, hb, key⟩

/-- the element's address -/
def Elem (v : Value) (i : Int) (n : Nat) (p : Addr) : Prop := ∃ a len cap, v = .slice (some a) len cap ∧ 0 ≤ i ∧ i < (len : Nat) ∧ p = a.add (i.toNat * n)

/-- the element at i -/
def idx (xs : List α) (i : Int) : Option α := if 0 ≤ i then xs[i.toNat]? else none
theorem idx_some {xs : List α} {i : Int} {x : α} (h : idx xs i = some x) : 0 ≤ i ∧ ∃ hi : i.toNat < xs.length, xs[i.toNat] = x := by
  unfold idx at h
  split at h
  · rename_i h0
    obtain ⟨hi, hx⟩ := List.getElem?_eq_some_iff.1 h
    exact ⟨h0, hi, hx⟩
  · cases h

theorem SRd.at_ {M : Nat → Prop} {w : World} {v : Value} {xs : List α} {i : Int} {x : α} (h : SRd A M w v xs) (hx : idx xs i = some x) :
    ∃ p vs, Elem v i A.n p ∧ CellsAt w p vs ∧ A.rd M w vs x := by
  obtain ⟨h0, hi, rfl⟩ := idx_some hx
  rcases h with ⟨_, rfl⟩ | ⟨b, off, cap, cs, e, fr, rfl, hM, hb, hc, ho, hr⟩
  · simp at hi
  · have hA := hr.2 _ hi
    have hlen := A.len hA
    refine ⟨(⟨b, off, none⟩ : Addr).add (i.toNat * A.n), _, ⟨_, _, _, rfl, h0, by omega, rfl⟩, ?_, hA⟩
    have key : CellsAt w ⟨b, off, none⟩ ((cs.toList.drop off).take (xs.length * A.n)) := ⟨rfl, cs, e, fr, hb, fun j u hj => by
      rw [List.getElem?_take] at hj
      split at hj
      · simpa [List.getElem?_drop] using hj
      · cases hj⟩
    exact key.sub _ (by rw [hlen])
end

/-! ### blocks of the call's own -/

def Mine (Rs : List (List Nat)) (M0 : Nat → Prop) (b : Nat) : Prop := (∃ r ∈ Rs, b ∈ r) ∨ M0 b

/-- only the blocks of C are written -/
structure Chg (C : List Nat) (w w' : World) : Prop where
  os : w'.os = w.os
  tape : w'.tape = w.tape
  output : w'.output = w.output
  size : w.heap.size ≤ w'.heap.size
  block : ∀ b, b < w.heap.size → b ∉ C → w'.heap[b]? = w.heap[b]?

theorem Ext.chg {w w' : World} (h : Ext w w') (C : List Nat) : Chg C w w' := ⟨h.os, h.tape, h.output, h.size, fun b hb _ => h.block b hb⟩

structure St (w0 : World) (Rs : List (List Nat)) (w : World) : Prop where
  os : w.os = w0.os
  tape : w.tape = w0.tape
  output : w.output = w0.output
  size : w0.heap.size ≤ w.heap.size
  old : ∀ b, b < w0.heap.size → w.heap[b]? = w0.heap[b]?
  own : ∀ r ∈ Rs, ∀ b ∈ r, b < w.heap.size ∧ w0.heap.size ≤ b
  sep : ∀ i j, i ≠ j → ∀ b, b ∈ Rs.getD i [] → b ∉ Rs.getD j []

theorem getD_set {Rs : List (List Nat)} {i j : Nat} {R : List Nat} : (Rs.set i R).getD j [] = if i = j ∧ i < Rs.length then R else Rs.getD j [] := by
  simp only [List.getD_eq_getElem?_getD, List.getElem?_set]
  by_cases h : i = j
  · subst h
    by_cases h2 : i < Rs.length <;> simp [h2]
  · simp [h]

theorem St.start (w : World) (k : Nat) : St w (List.replicate k []) w :=
  ⟨rfl, rfl, rfl, Nat.le_refl _, fun _ _ => rfl, fun r hr b hb => by simp [List.eq_of_mem_replicate hr] at hb, fun i j _ b hb => by
    exfalso
    have : (List.replicate k ([] : List Nat)).getD i [] = [] := by
      simp [List.getD_eq_getElem?_getD, List.getElem?_replicate]
      split <;> simp
    rw [this] at hb; simp at hb⟩

theorem mem_getD {Rs : List (List Nat)} {i b : Nat} (h : b ∈ Rs.getD i []) : ∃ r ∈ Rs, b ∈ r := by
  rw [List.getD_eq_getElem?_getD] at h
  cases hr : Rs[i]? with
  | none => simp [hr] at h
  | some r => exact ⟨r, List.mem_of_getElem? hr, by simpa [hr] using h⟩
theorem getD_mem {Rs : List (List Nat)} {r : List Nat} (h : r ∈ Rs) : ∃ i, Rs.getD i [] = r ∧ i < Rs.length := by
  obtain ⟨i, hi, rfl⟩ := List.mem_iff_getElem.1 h
  exact ⟨i, by simp [List.getD_eq_getElem?_getD, hi], hi⟩

section
variable {w0 w w' : World} {Rs : List (List Nat)} {M0 : Nat → Prop}

theorem St.step (h : St w0 Rs w) {i : Nat} {R : List Nat} (hC : Chg (Rs.getD i []) w w')
    (hR : ∀ b ∈ R, b < w'.heap.size ∧ (b ∈ Rs.getD i [] ∨ w.heap.size ≤ b)) : St w0 (Rs.set i R) w' := by
  have hown : ∀ j b, b ∈ Rs.getD j [] → b < w.heap.size ∧ w0.heap.size ≤ b := fun j b hb => by
    obtain ⟨r, hr, hb⟩ := mem_getD hb
    exact h.own r hr b hb
  refine ⟨hC.os.trans h.os, hC.tape.trans h.tape, hC.output.trans h.output, Nat.le_trans h.size hC.size, fun b hb => ?_, fun r hr b hb => ?_, fun j k hjk b hb hb' => ?_⟩
  · rw [hC.block b (Nat.lt_of_lt_of_le hb h.size) (fun hm => by have := (hown i b hm).2; omega)]
    exact h.old b hb
  · obtain ⟨j, rfl, hj⟩ := getD_mem hr
    rw [getD_set] at hb
    split at hb
    · rcases hR b hb with ⟨h1, h2 | h2⟩
      · exact ⟨h1, (hown i b h2).2⟩
      · exact ⟨h1, by have := h.size; omega⟩
    · have := hown j b hb
      exact ⟨Nat.lt_of_lt_of_le this.1 hC.size, this.2⟩
  · rw [getD_set] at hb hb'
    split at hb <;> split at hb'
    · omega
    · rename_i h1 h2
      rcases hR b hb with ⟨_, h3 | h3⟩
      · exact h.sep i k (by omega) b h3 hb'
      · have := (hown k b hb').1; omega
    · rename_i h1 h2
      rcases hR b hb' with ⟨_, h3 | h3⟩
      · exact h.sep i j (by omega) b h3 hb
      · have := (hown j b hb).1; omega
    · exact h.sep j k hjk b hb hb'

theorem St.lt (h : St w0 Rs w) {i b : Nat} (hb : b ∈ Rs.getD i []) : b < w.heap.size := by
  obtain ⟨r, hr, hb⟩ := mem_getD hb
  exact (h.own r hr b hb).1
theorem St.ge (h : St w0 Rs w) {i b : Nat} (hb : b ∈ Rs.getD i []) : w0.heap.size ≤ b := by
  obtain ⟨r, hr, hb⟩ := mem_getD hb
  exact (h.own r hr b hb).2

/-- how readings go on over a step -/
theorem St.mv (_h : St w0 Rs w) (_hM : ∀ b, M0 b → b < w0.heap.size) {i : Nat} {R : List Nat} (hC : Chg (Rs.getD i []) w w')
    (hR : ∀ b ∈ R, b < w'.heap.size ∧ (b ∈ Rs.getD i [] ∨ w.heap.size ≤ b)) : Mv (Mine Rs M0) w (Mine (Rs.set i R) M0) w' := by
  refine ⟨hC.size, fun b hb hn => ⟨?_, hC.block b hb (fun hm => hn (.inl (mem_getD hm)))⟩⟩
  rintro (⟨r, hr, hbr⟩ | hm)
  · obtain ⟨j, rfl, hj⟩ := getD_mem hr
    rw [getD_set] at hbr
    split at hbr
    · rcases hR b hbr with ⟨_, h2 | h2⟩
      · exact hn (.inl (mem_getD h2))
      · omega
    · exact hn (.inl (mem_getD hbr))
  · exact hn (.inr hm)

/-- a block of another place stays -/
theorem St.keep (h : St w0 Rs w) {i j b : Nat} (hij : Nat.beq i j = false) (hb : b ∈ Rs.getD j []) (hC : Chg (Rs.getD i []) w w') : w'.heap[b]? = w.heap[b]? :=
  hC.block b (h.lt hb) (fun hm => h.sep i j (fun e => by subst e; simp at hij) b hm hb)

theorem St.ext (h : St w0 Rs w) (e : Ext w w') : St w0 Rs w' :=
  ⟨e.os.trans h.os, e.tape.trans h.tape, e.output.trans h.output, Nat.le_trans h.size e.size,
    fun b hb => (e.block b (Nat.lt_of_lt_of_le hb h.size)).trans (h.old b hb), fun r hr b hb => ⟨Nat.lt_of_lt_of_le (h.own r hr b hb).1 e.size, (h.own r hr b hb).2⟩, h.sep⟩
theorem St.toExt (h : St w0 Rs w) : Ext w0 w := ⟨h.os, h.tape, h.output, h.size, h.old⟩

theorem mine_lt (h : St w0 Rs w) (hM : ∀ b, M0 b → b < w0.heap.size) : ∀ b, Mine Rs M0 b → b < w.heap.size := by
  rintro b (⟨r, hr, hb⟩ | hb)
  · exact (h.own r hr b hb).1
  · exact Nat.lt_of_lt_of_le (hM b hb) h.size
theorem mine_new (h : St w0 Rs w) (hM : ∀ b, M0 b → b < w0.heap.size) {b : Nat} (hb : w.heap.size ≤ b) : ¬ Mine Rs M0 b := fun hm => by
  have := mine_lt h hM b hm; omega
/-- at the end all is given up -/
theorem Mv.done (w : World) : Mv (Mine Rs M0) w M0 w := Mv.weaken w fun _ h => .inr h

/-- places are given up -/
theorem St.drop (h : St w0 Rs w) (i : Nat) : St w0 (Rs.set i []) w :=
  h.step (i := i) ((Ext.refl w).chg _) (fun b hb => by simp at hb)
theorem Mv.drop (w : World) (i : Nat) : Mv (Mine Rs M0) w (Mine (Rs.set i []) M0) w := Mv.weaken w fun b hb => by
  rcases hb with ⟨r, hr, hb⟩ | hb
  · obtain ⟨j, rfl, hj⟩ := getD_mem hr
    rw [getD_set] at hb
    split at hb
    · simp at hb
    · exact .inl (mem_getD hb)
  · exact .inr hb
end

/-! ### one block of known cells -/

def BoxAt (w : World) (b : Nat) (e : TypeId) (vs : List Value) : Prop := w.heap[b]? = some (.cells vs.toArray e (0, 0))

theorem BoxAt.keep {w w' : World} {b : Nat} {e : TypeId} {vs : List Value} (h : BoxAt w b e vs) (k : w'.heap[b]? = w.heap[b]?) : BoxAt w' b e vs := k.trans h
theorem BoxAt.lt {w : World} {b : Nat} {e : TypeId} {vs : List Value} (h : BoxAt w b e vs) : b < w.heap.size := (Array.getElem?_eq_some_iff.1 h).1
theorem BoxAt.ext {w w' : World} {b : Nat} {e : TypeId} {vs : List Value} (h : BoxAt w b e vs) (x : Ext w w') : BoxAt w' b e vs := (x.block b h.lt).trans h
theorem BoxAt.cells {w : World} {b : Nat} {e : TypeId} {vs : List Value} (h : BoxAt w b e vs) : CellsAt w ⟨b, 0, none⟩ vs :=
  ⟨rfl, _, _, _, h, fun j u hu => by simpa using hu⟩
theorem BoxAt.part {w : World} {b : Nat} {e : TypeId} {vs us : List Value} (h : BoxAt w b e vs) (k : Nat) (hu : (vs.drop k).take us.length = us) : CellsAt w ⟨b, k, none⟩ us := by
  have := h.cells.sub k hu
  unfold Addr.add at this
  split at this
  · rename_i h0; subst h0; exact this
  · simpa using this

/-! ### a slice of the call's own -/

def blk (v : Value) : List Nat := v.ownBlock.toList

section
variable {α : Type} {A : Rep α}
variable (A) in
def OSl (e : TypeId) (M : Nat → Prop) (w : World) (v : Value) (xs : List α) : Prop :=
  ∃ cells, w.ownsRow 0 e A.n v xs.length cells ∧ ARd A M w cells xs

theorem OSl.nil {e : TypeId} {M : Nat → Prop} {w : World} : OSl A e M w (.slice none 0 0) [] := ⟨[], World.ownsRow_nil w 0 e A.n, ARd.nil⟩
theorem OSl.len {e : TypeId} {M : Nat → Prop} {w : World} {v : Value} {xs : List α} (h : OSl A e M w v xs) : Len v xs.length := by
  obtain ⟨cells, ⟨_, h⟩, _⟩ := h
  rcases h with ⟨rfl, h0⟩ | ⟨g, cap, cur, rfl, _⟩
  · exact ⟨none, 0, by rw [h0]⟩
  · exact ⟨_, _, rfl⟩
theorem OSl.lt {e : TypeId} {M : Nat → Prop} {w : World} {v : Value} {xs : List α} (h : OSl A e M w v xs) : ∀ b ∈ blk v, b < w.heap.size := fun b hb => by
  obtain ⟨cells, h, _⟩ := h
  exact (h.lt b (by simpa [blk] using hb)).2
/-- another block was written -/
theorem OSl.keep {e : TypeId} {M M' : Nat → Prop} {w w' : World} {v : Value} {xs : List α} (h : OSl A e M w v xs) (k : ∀ b ∈ blk v, w'.heap[b]? = w.heap[b]?) (m : Mv M w M' w') : OSl A e M' w' v xs := by
  obtain ⟨cells, ⟨h1, h2⟩, hr⟩ := h
  refine ⟨cells, ⟨h1, ?_⟩, hr.mv m⟩
  rcases h2 with h2 | ⟨g, cap, cur, rfl, hg, hh, r⟩
  · exact .inl h2
  · exact .inr ⟨g, cap, cur, rfl, hg, by rw [k g (by simp [blk, Value.ownBlock])]; exact hh, r⟩
theorem OSl.ext {e : TypeId} {M : Nat → Prop} {w w' : World} {v : Value} {xs : List α} (h : OSl A e M w v xs) (x : Ext w w') : OSl A e M w' v xs :=
  h.keep (fun b hb => x.block b (h.lt b hb)) (x.mv M)
/-- given up: it reads as any slice -/
theorem OSl.freeze {e : TypeId} {M M' : Nat → Prop} {w : World} {v : Value} {xs : List α} (h : OSl A e M w v xs) (hM : ∀ b ∈ blk v, ¬ M' b) (m : Mv M w M' w) : SRd A M' w v xs := by
  obtain ⟨cells, ⟨h1, h2⟩, hr⟩ := h
  rcases h2 with ⟨rfl, h0⟩ | ⟨g, cap, cur, rfl, hg, hh, hc, hm, hs, ht⟩
  · exact .inl ⟨rfl, List.eq_nil_of_length_eq_zero h0⟩
  · refine .inr ⟨g, 0, cap, cur, e, (0, 0), rfl, hM g (by simp [blk, Value.ownBlock]), hh, hc, by omega, ?_⟩
    rw [List.drop_zero, ht]
    exact hr.mv m
theorem OSl.done {e : TypeId} {w0 w : World} {Rs : List (List Nat)} {M0 : Nat → Prop} {v : Value} {xs : List α} (h : OSl A e (Mine Rs M0) w v xs) (hS : St w0 Rs w) (hM : ∀ b, M0 b → b < w0.heap.size)
    {i : Nat} (hi : Rs.getD i [] = blk v) : SRd A M0 w v xs :=
  h.freeze (fun b hb h0 => by have := hS.ge (i := i) (by rw [hi]; exact hb); have := hM b h0; omega) (Mv.done w)
/-- given up on the way -/
theorem OSl.give {e : TypeId} {w0 w : World} {Rs : List (List Nat)} {M0 : Nat → Prop} {v : Value} {xs : List α} (h : OSl A e (Mine Rs M0) w v xs) (hS : St w0 Rs w) (hM : ∀ b, M0 b → b < w0.heap.size)
    {i : Nat} (hi : Rs.getD i [] = blk v) : SRd A (Mine (Rs.set i []) M0) w v xs :=
  h.freeze (fun b hb h0 => by
    rcases h0 with ⟨r, hr, hbr⟩ | h0
    · obtain ⟨j, rfl, hj⟩ := getD_mem hr
      rw [getD_set] at hbr
      split at hbr
      · simp at hbr
      · rename_i hne
        by_cases hij : i = j
        · subst hij; exact hne ⟨rfl, by simpa using hj⟩
        · exact hS.sep i j hij b (by rw [hi]; exact hb) hbr
    · have := hS.ge (i := i) (by rw [hi]; exact hb); have := hM b h0; omega) (Mv.drop w i)
theorem OSl.at_ {e : TypeId} {M : Nat → Prop} {w : World} {v : Value} {xs : List α} {i : Int} {x : α} (h : OSl A e M w v xs) (hx : idx xs i = some x) :
    ∃ p vs, Elem v i A.n p ∧ CellsAt w p vs ∧ A.rd M w vs x := by
  obtain ⟨h0, hi, rfl⟩ := idx_some hx
  obtain ⟨cells, ⟨h1, h2⟩, hr⟩ := h
  rcases h2 with ⟨rfl, h0⟩ | ⟨g, cap, cur, rfl, hg, hh, hc, hm, hs, ht⟩
  · omega
  · have hA := hr.2 _ hi
    have hlen := A.len hA
    refine ⟨(⟨g, 0, none⟩ : Addr).add (i.toNat * A.n), _, ⟨_, _, _, rfl, h0, by omega, rfl⟩, ?_, hA⟩
    have key : CellsAt w ⟨g, 0, none⟩ cells := ⟨rfl, cur, e, (0, 0), hh, fun j u hj => by
      rw [← ht, List.getElem?_take] at hj
      split at hj
      · simpa using hj
      · cases hj⟩
    exact key.sub _ (by rw [hlen])
end
end Go.Proofs.Ytiambejbilkgmaa
