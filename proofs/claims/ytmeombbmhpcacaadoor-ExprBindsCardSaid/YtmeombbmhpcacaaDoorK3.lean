/-
  Own framework, part 3: memory. What data a value reads as; slices of the call's own.
-/
import Derived.Test.YtmeombbmhpcacaaDoorK2
namespace Go.Proofs.YtmeombbmhpcacaaDoor

/-! ### readings -/

/-- from (M, w) to (M', w'): what lies outside of M stays as it is, and outside of M' -/
def Mv (M : Nat → Prop) (w : World) (M' : Nat → Prop) (w' : World) : Prop :=
  w.heap.size ≤ w'.heap.size ∧ ∀ b, b < w.heap.size → ¬ M b → ¬ M' b ∧ w'.heap[b]? = w.heap[b]?

theorem Mv.refl (M : Nat → Prop) (w : World) : Mv M w M w := ⟨Nat.le_refl _, fun _ _ h => ⟨h, rfl⟩⟩
theorem Mv.trans {M M' M'' : Nat → Prop} {w w' w'' : World} (h : Mv M w M' w') (k : Mv M' w' M'' w'') : Mv M w M'' w'' :=
  ⟨Nat.le_trans h.1 k.1, fun b hb hM => by
    obtain ⟨h1, h2⟩ := h.2 b hb hM
    obtain ⟨k1, k2⟩ := k.2 b (Nat.lt_of_lt_of_le hb h.1) h1
    exact ⟨k1, k2.trans h2⟩⟩
theorem Ext.mv {w w' : World} (h : Ext w w') (M : Nat → Prop) : Mv M w M w' := ⟨h.size, fun b hb hM => ⟨hM, h.block b hb⟩⟩
theorem Mv.weaken {M M' : Nat → Prop} (w : World) (h : ∀ b, M' b → M b) : Mv M w M' w := ⟨Nat.le_refl _, fun b _ hM => ⟨fun h' => hM (h b h'), rfl⟩⟩

structure Rep (α : Type) where
  n : Nat
  rd : (Nat → Prop) → World → List Value → α → Prop
  len : ∀ {M w vs x}, rd M w vs x → vs.length = n
  one : ∀ {M w vs x}, rd M w vs x → ∀ v ∈ vs, v.oneCell' = true
  mv : ∀ {M M' w w' vs x}, rd M w vs x → Mv M w M' w' → rd M' w' vs x

def RI (k : IntKind) : Rep Int where
  n := 1
  rd _ _ vs x := vs = [.int k x]
  len h := by rw [h]; rfl
  one h := by rw [h]; simp [Value.oneCell']
  mv h _ := h
def RB : Rep Bool where
  n := 1
  rd _ _ vs x := vs = [.bool x]
  len h := by rw [h]; rfl
  one h := by rw [h]; simp [Value.oneCell']
  mv h _ := h
def RS : Rep Str where
  n := 1
  rd _ _ vs x := vs = [S x]
  len h := by rw [h]; rfl
  one h := by rw [h]; simp [S, Value.oneCell']
  mv h _ := h
def RU : Rep Unit where
  n := 0
  rd _ _ vs _ := vs = []
  len h := by rw [h]; rfl
  one h := by rw [h]; simp
  mv h _ := h
def RP {α β : Type} (A : Rep α) (B : Rep β) : Rep (α × β) where
  n := A.n + B.n
  rd M w vs x := ∃ a b, vs = a ++ b ∧ A.rd M w a x.1 ∧ B.rd M w b x.2
  len h := by obtain ⟨a, b, rfl, h1, h2⟩ := h; rw [List.length_append, A.len h1, B.len h2]
  one h := by
    obtain ⟨a, b, rfl, h1, h2⟩ := h
    intro v hv
    rcases List.mem_append.1 hv with hv | hv
    · exact A.one h1 v hv
    · exact B.one h2 v hv
  mv h m := by obtain ⟨a, b, rfl, h1, h2⟩ := h; exact ⟨a, b, rfl, A.mv h1 m, B.mv h2 m⟩

section
variable {α β : Type} (A : Rep α)

/-- cells that read as a row -/
def ARd (M : Nat → Prop) (w : World) (cs : List Value) (xs : List α) : Prop :=
  cs.length = xs.length * A.n ∧ ∀ i (h : i < xs.length), A.rd M w ((cs.drop (i * A.n)).take A.n) xs[i]

variable {A}
theorem ARd.nil {M : Nat → Prop} {w : World} : ARd A M w [] [] := ⟨by simp, fun i h => by simp at h⟩
theorem ARd.cons {M : Nat → Prop} {w : World} {c cs : List Value} {x : α} {xs : List α} (h : A.rd M w c x) (hs : ARd A M w cs xs) : ARd A M w (c ++ cs) (x :: xs) := by
  have hc := A.len h
  refine ⟨by simp [hc, hs.1, Nat.add_mul, Nat.add_comm], fun i hi => ?_⟩
  cases i with
  | zero => simpa [hc, List.take_append] using (by simpa [← hc] using h)
  | succ i =>
    have := hs.2 i (by simpa using hi)
    have e : (c ++ cs).drop ((i + 1) * A.n) = cs.drop (i * A.n) := by
      rw [List.drop_append]
      have : (i + 1) * A.n = c.length + i * A.n := by rw [hc, Nat.add_mul]; omega
      rw [this, List.drop_of_length_le (by omega)]
      simp
    rw [e]
    simpa using this
theorem ARd.one {M : Nat → Prop} {w : World} {c : List Value} {x : α} (h : A.rd M w c x) : ARd A M w c [x] := by
  have := ARd.cons h (ARd.nil (A := A) (M := M) (w := w))
  simpa using this
theorem ARd.mv {M M' : Nat → Prop} {w w' : World} {cs : List Value} {xs : List α} (h : ARd A M w cs xs) (m : Mv M w M' w') : ARd A M' w' cs xs :=
  ⟨h.1, fun i hi => A.mv (h.2 i hi) m⟩
theorem ARd.oneCell {M : Nat → Prop} {w : World} {cs : List Value} {xs : List α} (h : ARd A M w cs xs) : ∀ v ∈ cs, v.oneCell' = true := by
  intro v hv
  obtain ⟨j, hj, rfl⟩ := List.mem_iff_getElem.1 hv
  have hl := h.1
  rcases Nat.eq_zero_or_pos A.n with h0 | h0
  · rw [h0] at hl; omega
  · have hi : j / A.n < xs.length := by rw [Nat.div_lt_iff_lt_mul h0]; omega
    have hr := h.2 (j / A.n) hi
    refine A.one hr _ ?_
    have hm : j % A.n < A.n := Nat.mod_lt _ h0
    have hdm : j / A.n * A.n + j % A.n = j := by rw [Nat.mul_comm]; exact Nat.div_add_mod j A.n
    rw [List.mem_iff_getElem]
    have hlen := A.len hr
    refine ⟨j % A.n, by rw [hlen]; exact hm, ?_⟩
    rw [List.getElem_take, List.getElem_drop]
    congr 1
theorem ARd.append {M : Nat → Prop} {w : World} {cs ds : List Value} {xs ys : List α} (h : ARd A M w cs xs) (k : ARd A M w ds ys) : ARd A M w (cs ++ ds) (xs ++ ys) := by
  refine ⟨by simp [h.1, k.1, Nat.add_mul], fun i hi => ?_⟩
  by_cases hlt : i < xs.length
  · have hr := h.2 i hlt
    have e : ((cs ++ ds).drop (i * A.n)).take A.n = (cs.drop (i * A.n)).take A.n := by
      have h1 : i * A.n + A.n ≤ cs.length := by
        rw [h.1, ← Nat.succ_mul]; exact Nat.mul_le_mul_right _ hlt
      rw [List.drop_append_of_le_length (by omega), List.take_append_of_le_length (by simp; omega)]
    rw [e, List.getElem_append_left hlt]; exact hr
  · have h2 : i - xs.length < ys.length := by simp at hi; omega
    have hr := k.2 _ h2
    have e : (cs ++ ds).drop (i * A.n) = ds.drop ((i - xs.length) * A.n) := by
      have : i * A.n = cs.length + (i - xs.length) * A.n := by
        rw [h.1, ← Nat.add_mul]; congr 1; omega
      rw [this, List.drop_append]; simp
    rw [e, List.getElem_append_right (by omega)]; exact hr
theorem ARd.take {M : Nat → Prop} {w : World} {cs : List Value} {xs : List α} (h : ARd A M w cs xs) (k : Nat) : ARd A M w (cs.take (k * A.n)) (xs.take k) := by
  have e : (cs.take (k * A.n)).length = (xs.take k).length * A.n := by
    rw [List.length_take, List.length_take, h.1]
    by_cases hk : k ≤ xs.length
    · rw [Nat.min_eq_left hk, Nat.min_eq_left (Nat.mul_le_mul_right _ hk)]
    · have hk' : xs.length ≤ k := by omega
      rw [Nat.min_eq_right (Nat.mul_le_mul_right A.n hk'), Nat.min_eq_right hk']
  refine ⟨e, fun i hi => ?_⟩
  have hi' : i < k ∧ i < xs.length := by rw [List.length_take] at hi; omega
  have hr := h.2 i hi'.2
  have h1 : i * A.n + A.n ≤ k * A.n := by rw [← Nat.succ_mul]; exact Nat.mul_le_mul_right _ hi'.1
  rw [List.getElem_take, List.drop_take, List.take_take, Nat.min_eq_left (by omega)]
  exact hr
theorem ARd.drop {M : Nat → Prop} {w : World} {cs : List Value} {xs : List α} (h : ARd A M w cs xs) (k : Nat) : ARd A M w (cs.drop (k * A.n)) (xs.drop k) := by
  refine ⟨by rw [List.length_drop, List.length_drop, h.1, ← Nat.sub_mul], fun i hi => ?_⟩
  have hi' : k + i < xs.length := by simp at hi; omega
  have hr := h.2 (k + i) hi'
  rw [List.getElem_drop, List.drop_drop]
  have : (k + i) * A.n = k * A.n + i * A.n := Nat.add_mul ..
  rw [this] at hr
  exact hr
theorem ARd.set {M : Nat → Prop} {w : World} {cs c : List Value} {xs : List α} {x : α} {i : Nat} (h : ARd A M w cs xs) (hi : i < xs.length) (hx : A.rd M w c x) :
    ARd A M w (cs.take (i * A.n) ++ c ++ cs.drop ((i + 1) * A.n)) (xs.set i x) := by
  have h1 := h.take i
  have h2 := h.drop (i + 1)
  have h3 := (h1.append (ARd.one hx)).append h2
  have e : xs.set i x = xs.take i ++ [x] ++ xs.drop (i + 1) := by
    rw [List.set_eq_take_append_cons_drop, if_pos hi]; simp
  rw [e]; exact h3

variable (A)
/-- a slice value that reads as a row -/
def SRd (M : Nat → Prop) (w : World) (v : Value) (xs : List α) : Prop :=
  ((∃ a, v = .slice a 0 0) ∧ xs = []) ∨ ∃ b off cap cs e fr, v = .slice (some ⟨b, off, none⟩) xs.length cap ∧ ¬ M b ∧ w.heap[b]? = some (.cells cs e fr) ∧ xs.length ≤ cap ∧
    off + cap * A.n ≤ cs.size ∧ ARd A M w ((cs.toList.drop off).take (xs.length * A.n)) xs
variable {A}
theorem SRd.nil {M : Nat → Prop} {w : World} : SRd A M w (.slice none 0 0) [] := .inl ⟨⟨none, rfl⟩, rfl⟩
theorem SRd.emp {M : Nat → Prop} {w : World} {a : Option Addr} : SRd A M w (.slice a 0 0) [] := .inl ⟨⟨a, rfl⟩, rfl⟩
theorem SRd.mv {M M' : Nat → Prop} {w w' : World} {v : Value} {xs : List α} (h : SRd A M w v xs) (m : Mv M w M' w') : SRd A M' w' v xs := by
  rcases h with h | ⟨b, off, cap, cs, e, fr, hv, hM, hb, hc, ho, hr⟩
  · exact .inl h
  · obtain ⟨h1, h2⟩ := m.2 b (Array.getElem?_eq_some_iff.1 hb).1 hM
    exact .inr ⟨b, off, cap, cs, e, fr, hv, h1, by rw [h2]; exact hb, hc, ho, hr.mv m⟩

/-- a slice's value: where, how long, how much room -/
abbrev SLV := Option Addr × Nat × Nat
def sl (p : SLV) : Value := .slice p.1 p.2.1 p.2.2

variable (A)
def RSl : Rep (List α) where
  n := 1
  rd M w vs xs := ∃ p, vs = [sl p] ∧ SRd A M w (sl p) xs
  len h := by obtain ⟨v, rfl, _⟩ := h; rfl
  one h := by
    obtain ⟨v, rfl, h⟩ := h
    simp [Value.oneCell', sl]
  mv h m := by obtain ⟨v, rfl, h⟩ := h; exact ⟨v, rfl, h.mv m⟩
variable {A}
theorem SRd.isSl {M : Nat → Prop} {w : World} {v : Value} {xs : List α} (h : SRd A M w v xs) : ∃ p, v = sl p := by
  rcases h with ⟨⟨a, rfl⟩, _⟩ | ⟨b, off, cap, cs, e, fr, rfl, _⟩
  · exact ⟨(a, 0, 0), rfl⟩
  · exact ⟨(_, _, _), rfl⟩
theorem SRd.rsl {M : Nat → Prop} {w : World} {v : Value} {xs : List α} (h : SRd A M w v xs) : (RSl A).rd M w [v] xs := by
  obtain ⟨p, rfl⟩ := h.isSl
  exact ⟨p, rfl, h⟩

def Len (v : Value) (n : Nat) : Prop := ∃ a cap, v = .slice a n cap
theorem SRd.len {M : Nat → Prop} {w : World} {v : Value} {xs : List α} (h : SRd A M w v xs) : Len v xs.length := by
  rcases h with ⟨⟨a, rfl⟩, rfl⟩ | ⟨b, off, cap, cs, e, fr, rfl, _⟩
  · exact ⟨_, _, rfl⟩
  · exact ⟨_, _, rfl⟩

/-! ### cells at an address -/
def CellsAt (w : World) (p : Addr) (vs : List Value) : Prop := p.spot = none ∧ ∃ cs e fr, w.heap[p.block]? = some (.cells cs e fr) ∧ ∀ j u, vs[j]? = some u → cs[p.off + j]? = some u

theorem CellsAt.ext {w w' : World} {p : Addr} {vs : List Value} (h : CellsAt w p vs) (e : Ext w w') : CellsAt w' p vs := by
  obtain ⟨hs, cs, t, fr, hb, hc⟩ := h
  exact ⟨hs, cs, t, fr, by rw [e.block _ (Array.getElem?_eq_some_iff.1 hb).1]; exact hb, hc⟩
theorem CellsAt.cell {w : World} {p : Addr} {vs : List Value} (h : CellsAt w p vs) {j : Nat} {u : Value} (hu : vs[j]? = some u) : w.cell? (p.add j) = some u := by
  obtain ⟨hs, cs, t, fr, hb, hc⟩ := h
  have := hc j u hu
  unfold Addr.add
  split
  · rename_i h0; subst h0; simp only [World.cell?, hb, hs]; simpa using this
  · simp only [World.cell?, hb]; simpa using this
theorem CellsAt.sub {w : World} {p : Addr} {vs us : List Value} (h : CellsAt w p vs) (k : Nat) (hu : (vs.drop k).take us.length = us) : CellsAt w (p.add k) us := by
  obtain ⟨hs, cs, t, fr, hb, hc⟩ := h
  have key : ∀ j u, us[j]? = some u → cs[p.off + k + j]? = some u := fun j u hj => by
    rw [← hu, List.getElem?_take] at hj
    split at hj
    · rw [List.getElem?_drop] at hj
      have := hc _ _ hj
      rwa [← Nat.add_assoc] at this
    · cases hj
  unfold Addr.add
  split
  · rename_i h0; subst h0; exact ⟨hs, cs, t, fr, hb, key⟩
  · exact ⟨rfl, cs, t, fr, hb, key⟩

/-- the element's address -/
def Elem (v : Value) (i : Int) (n : Nat) (p : Addr) : Prop := ∃ a len cap, v = .slice (some a) len cap ∧ 0 ≤ i ∧ i < (len : Nat) ∧ p = a.add (i.toNat * n)

/-- the element at i -/
def idx (xs : List α) (i : Int) : Option α := if 0 ≤ i then xs[i.toNat]? else none
theorem idx_some {xs : List α} {i : Int} {x : α} (h : idx xs i = some x) : 0 ≤ i ∧ ∃ hi : i.toNat < xs.length, xs[i.toNat] = x := by
  unfold idx at h
  split at h
  · rename_i h0
    obtain ⟨hi, hx⟩ := List.getElem?_eq_some_iff.1 h
    exact ⟨h0, hi, hx⟩
  · cases h

theorem SRd.at_ {M : Nat → Prop} {w : World} {v : Value} {xs : List α} {i : Int} {x : α} (h : SRd A M w v xs) (hx : idx xs i = some x) :
    ∃ p vs, Elem v i A.n p ∧ CellsAt w p vs ∧ A.rd M w vs x := by
  obtain ⟨h0, hi, rfl⟩ := idx_some hx
  rcases h with ⟨_, rfl⟩ | ⟨b, off, cap, cs, e, fr, rfl, hM, hb, hc, ho, hr⟩
  · simp at hi
  · have hA := hr.2 _ hi
    have hlen := A.len hA
    refine ⟨(⟨b, off, none⟩ : Addr).add (i.toNat * A.n), _, ⟨_, _, _, rfl, h0, by omega, rfl⟩, ?_, hA⟩
    have key : CellsAt w ⟨b, off, none⟩ ((cs.toList.drop off).take (xs.length * A.n)) := ⟨rfl, cs, e, fr, hb, fun j u hj => by
      rw [List.getElem?_take] at hj
      split at hj
      · simpa [List.getElem?_drop] using hj
      · cases hj⟩
    exact key.sub _ (by rw [hlen])
end

/-- only the blocks of C are written -/
structure Chg (C : List Nat) (w w' : World) : Prop where
  os : w'.os = w.os
  tape : w'.tape = w.tape
  output : w'.output = w.output
  size : w.heap.size ≤ w'.heap.size
  block : ∀ b, b < w.heap.size → b ∉ C → w'.heap[b]? = w.heap[b]?

theorem Ext.chg {w w' : World} (h : Ext w w') (C : List Nat) : Chg C w w' := ⟨h.os, h.tape, h.output, h.size, fun b hb _ => h.block b hb⟩

/-! ### one block of known cells -/

def BoxAt (w : World) (b : Nat) (e : TypeId) (vs : List Value) : Prop := w.heap[b]? = some (.cells vs.toArray e (0, 0))

theorem BoxAt.keep {w w' : World} {b : Nat} {e : TypeId} {vs : List Value} (h : BoxAt w b e vs) (k : w'.heap[b]? = w.heap[b]?) : BoxAt w' b e vs := k.trans h
theorem BoxAt.lt {w : World} {b : Nat} {e : TypeId} {vs : List Value} (h : BoxAt w b e vs) : b < w.heap.size := (Array.getElem?_eq_some_iff.1 h).1
theorem BoxAt.ext {w w' : World} {b : Nat} {e : TypeId} {vs : List Value} (h : BoxAt w b e vs) (x : Ext w w') : BoxAt w' b e vs := (x.block b h.lt).trans h
theorem BoxAt.cells {w : World} {b : Nat} {e : TypeId} {vs : List Value} (h : BoxAt w b e vs) : CellsAt w ⟨b, 0, none⟩ vs :=
  ⟨rfl, _, _, _, h, fun j u hu => by simpa using hu⟩
theorem BoxAt.part {w : World} {b : Nat} {e : TypeId} {vs us : List Value} (h : BoxAt w b e vs) (k : Nat) (hu : (vs.drop k).take us.length = us) : CellsAt w ⟨b, k, none⟩ us := by
  have := h.cells.sub k hu
  unfold Addr.add at this
  split at this
  · rename_i h0; subst h0; exact this
  · simpa using this

/-! ### a slice of the call's own -/

def blk (v : Value) : List Nat := v.ownBlock.toList

section
variable {α : Type} {A : Rep α}
variable (A) in
def OSl (e : TypeId) (M : Nat → Prop) (w : World) (v : Value) (xs : List α) : Prop :=
  ∃ cells, w.ownsRow 0 e A.n v xs.length cells ∧ ARd A M w cells xs

theorem OSl.nil {e : TypeId} {M : Nat → Prop} {w : World} : OSl A e M w (.slice none 0 0) [] := ⟨[], World.ownsRow_nil w 0 e A.n, ARd.nil⟩
theorem OSl.len {e : TypeId} {M : Nat → Prop} {w : World} {v : Value} {xs : List α} (h : OSl A e M w v xs) : Len v xs.length := by
  obtain ⟨cells, ⟨_, h⟩, _⟩ := h
  rcases h with ⟨rfl, h0⟩ | ⟨g, cap, cur, rfl, _⟩
  · exact ⟨none, 0, by rw [h0]⟩
  · exact ⟨_, _, rfl⟩
theorem OSl.lt {e : TypeId} {M : Nat → Prop} {w : World} {v : Value} {xs : List α} (h : OSl A e M w v xs) : ∀ b ∈ blk v, b < w.heap.size := fun b hb => by
  obtain ⟨cells, h, _⟩ := h
  exact (h.lt b (by simpa [blk] using hb)).2
/-- another block was written -/
theorem OSl.keep {e : TypeId} {M M' : Nat → Prop} {w w' : World} {v : Value} {xs : List α} (h : OSl A e M w v xs) (k : ∀ b ∈ blk v, w'.heap[b]? = w.heap[b]?) (m : Mv M w M' w') : OSl A e M' w' v xs := by
  obtain ⟨cells, ⟨h1, h2⟩, hr⟩ := h
  refine ⟨cells, ⟨h1, ?_⟩, hr.mv m⟩
  rcases h2 with h2 | ⟨g, cap, cur, rfl, hg, hh, r⟩
  · exact .inl h2
  · exact .inr ⟨g, cap, cur, rfl, hg, by rw [k g (by simp [blk, Value.ownBlock])]; exact hh, r⟩
theorem OSl.ext {e : TypeId} {M : Nat → Prop} {w w' : World} {v : Value} {xs : List α} (h : OSl A e M w v xs) (x : Ext w w') : OSl A e M w' v xs :=
  h.keep (fun b hb => x.block b (h.lt b hb)) (x.mv M)
/-- given up: it reads as any slice -/
theorem OSl.freeze {e : TypeId} {M M' : Nat → Prop} {w : World} {v : Value} {xs : List α} (h : OSl A e M w v xs) (hM : ∀ b ∈ blk v, ¬ M' b) (m : Mv M w M' w) : SRd A M' w v xs := by
  obtain ⟨cells, ⟨h1, h2⟩, hr⟩ := h
  rcases h2 with ⟨rfl, h0⟩ | ⟨g, cap, cur, rfl, hg, hh, hc, hm, hs, ht⟩
  · exact .inl ⟨⟨_, rfl⟩, List.eq_nil_of_length_eq_zero h0⟩
  · refine .inr ⟨g, 0, cap, cur, e, (0, 0), rfl, hM g (by simp [blk, Value.ownBlock]), hh, hc, by omega, ?_⟩
    rw [List.drop_zero, ht]
    exact hr.mv m
theorem OSl.at_ {e : TypeId} {M : Nat → Prop} {w : World} {v : Value} {xs : List α} {i : Int} {x : α} (h : OSl A e M w v xs) (hx : idx xs i = some x) :
    ∃ p vs, Elem v i A.n p ∧ CellsAt w p vs ∧ A.rd M w vs x := by
  obtain ⟨h0, hi, rfl⟩ := idx_some hx
  obtain ⟨cells, ⟨h1, h2⟩, hr⟩ := h
  rcases h2 with ⟨rfl, h0⟩ | ⟨g, cap, cur, rfl, hg, hh, hc, hm, hs, ht⟩
  · omega
  · have hA := hr.2 _ hi
    have hlen := A.len hA
    refine ⟨(⟨g, 0, none⟩ : Addr).add (i.toNat * A.n), _, ⟨_, _, _, rfl, h0, by omega, rfl⟩, ?_, hA⟩
    have key : CellsAt w ⟨g, 0, none⟩ cells := ⟨rfl, cur, e, (0, 0), hh, fun j u hj => by
      rw [← ht, List.getElem?_take] at hj
      split at hj
      · simpa using hj
      · cases hj⟩
    exact key.sub _ (by rw [hlen])
end
section
variable {α : Type} {A : Rep α}
variable (A) in
/-- a slice of the call's own: R are its blocks; an empty slice without room has none -/
def Own (e : TypeId) (M : Nat → Prop) (w : World) (v : Value) (xs : List α) (R : List Nat) : Prop :=
  (R = blk v ∧ OSl A e M w v xs) ∨ (R = [] ∧ xs = [] ∧ (∃ a, v = .slice a 0 0) ∧ SRd A M w v [])

variable {e : TypeId} {M M' : Nat → Prop} {w w' : World} {v : Value} {xs : List α} {R : List Nat}
theorem Own.nil : Own A e M w (.slice none 0 0) [] [] := .inl ⟨rfl, OSl.nil⟩
theorem Own.empty {a : Option Addr} (h : SRd A M w (.slice a 0 0) []) : Own A e M w (.slice a 0 0) [] [] := .inr ⟨rfl, rfl, ⟨a, rfl⟩, h⟩
theorem Own.of (h : OSl A e M w v xs) : Own A e M w v xs (blk v) := .inl ⟨rfl, h⟩
theorem Own.len (h : Own A e M w v xs R) : Len v xs.length := by
  rcases h with ⟨_, h⟩ | ⟨_, rfl, ⟨a, rfl⟩, _⟩
  · exact h.len
  · exact ⟨_, _, rfl⟩
theorem Own.lt (h : Own A e M w v xs R) : ∀ b ∈ R, b < w.heap.size := by
  rcases h with ⟨rfl, h⟩ | ⟨rfl, _⟩
  · exact h.lt
  · intro b hb; cases hb
theorem Own.keep (h : Own A e M w v xs R) (k : ∀ b ∈ R, w'.heap[b]? = w.heap[b]?) (m : Mv M w M' w') : Own A e M' w' v xs R := by
  rcases h with ⟨rfl, h⟩ | h
  · exact .inl ⟨rfl, h.keep k m⟩
  · exact .inr ⟨h.1, h.2.1, h.2.2.1, h.2.2.2.mv m⟩
theorem Own.ext (h : Own A e M w v xs R) (x : Ext w w') : Own A e M w' v xs R := h.keep (fun b hb => x.block b (h.lt b hb)) (x.mv M)
theorem Own.atG {g : Bool} {i : Int} {x : α} (h : g = true → Own A e M w v xs R) (hx : g = true → idx xs i = some x) :
    ∃ p vs, (g = true → Elem v i A.n p) ∧ (g = true → CellsAt w p vs) ∧ (g = true → A.rd M w vs x) := by
  cases g
  · exact ⟨⟨0, 0, none⟩, [], fun h => (by cases h), fun h => (by cases h), fun h => (by cases h)⟩
  · rcases h rfl with ⟨_, h⟩ | ⟨_, rfl, _⟩
    · obtain ⟨p, vs, h1, h2, h3⟩ := h.at_ (hx rfl)
      exact ⟨p, vs, fun _ => h1, fun _ => h2, fun _ => h3⟩
    · obtain ⟨_, hi, _⟩ := idx_some (hx rfl)
      simp at hi
theorem Own.osl {i : Int} {x : α} (h : Own A e M w v xs R) (hx : idx xs i = some x) : OSl A e M w v xs ∧ R = blk v := by
  rcases h with ⟨h1, h⟩ | ⟨_, rfl, _⟩
  · exact ⟨h, h1⟩
  · obtain ⟨_, hi, _⟩ := idx_some hx
    simp at hi


/-- given up: it reads as any slice -/
theorem Own.freeze (h : Own A e M w v xs R) (hM : ∀ b ∈ R, ¬ M' b) (m : Mv M w M' w) : SRd A M' w v xs := by
  rcases h with ⟨rfl, h⟩ | ⟨_, rfl, _, h⟩
  · exact h.freeze hM m
  · exact h.mv m
end
end Go.Proofs.YtmeombbmhpcacaaDoor
