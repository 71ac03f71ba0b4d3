/-
  Own framework, part 4: operations on memory.
-/
import Derived.Test.YtmeombbmhpcacaaDoorK3
namespace Go.Proofs.YtmeombbmhpcacaaDoor

/-- what is asked of a type's row -/
def TI (P : Program) (e : TypeId) (size bytes : Nat) (z : Value) : Prop := (P.info? e).map (fun i => (i.size, i.bytes, i.zero)) = some (size, bytes, some z)
theorem TI.out {P : Program} {e : TypeId} {size bytes : Nat} {z : Value} (h : TI P e size bytes z) : ∃ i, P.info? e = some i ∧ i.size = size ∧ i.bytes = bytes ∧ i.zero = some z := by
  unfold TI at h
  cases hi : P.info? e with
  | none => simp [hi] at h
  | some i =>
    simp only [hi, Option.map_some, Option.some.injEq, Prod.mk.injEq] at h
    exact ⟨i, rfl, h.1, h.2.1, h.2.2⟩
def aggT : TypeDesc → Bool
  | .struct _ => true
  | .array _ _ => true
  | _ => false
theorem run_isAgg {P : Program} {t : TypeId} {d : TypeDesc} (h : P.underlying t = some d) (w : World) : (isAgg t).run P w = .ok (aggT d) w := by
  unfold isAgg
  rw [Sem.run_bind, run_underlying h w]
  cases d <;> rfl

section
variable {P : Program} {E : Env} {g : Bool} {w : World} {dst : Option Tmp} {ty : TypeId} {pos : String} {af : Array Edge} {gd : Option (Nat × Bool)}

theorem Run_lenSl {x : Operand} {v : Value} {n : Nat} {t e : TypeId} (ht : P.underlying t = some (.slice e)) (hx : Opd E g x v) (hl : Len v n) :
    Run P E g ⟨dst, .call ⟨.builtin .len, #[x], #[t]⟩, ty, pos, af, gd⟩ w (.int .i64 n) :=
  fun n' a hf hg => by
    obtain ⟨ad, cap, rfl⟩ := hl
    simp [execOp, resolve, invoke, builtin, hx n' a hf hg, Builtin.len_, run_underlying ht, goInt]

theorem Run_idxAddr {x y : Operand} {v z : Value} {i : Int} {k : IntKind} {n bytes : Nat} {p : Addr} {t e : TypeId} (ht : P.underlying t = some (.slice e)) (hti : TI P e n bytes z)
    (hx : Opd E g x v) (hy : Opd E g y (.int k i)) (he : g = true → Elem v i n p) :
    Run P E g ⟨dst, .indexAddr t x y, ty, pos, af, gd⟩ w (.pointer (some p)) :=
  fun n' a hf hg => by
    obtain ⟨i', hi, hs, _, _⟩ := hti.out
    obtain ⟨ad, len, cap, rfl, h0, h1, rfl⟩ := he hg
    simp [execOp, hx n' a hf hg, hy n' a hf hg, Instr.indexAt, asIntOf, run_underlying ht, h0, h1, sizeOf, typeInfo, hi, hs]

theorem run_load1 {t : TypeId} {d : TypeDesc} {p : Addr} {v : Value} (ht : P.underlying t = some d) (hd : aggT d = false) (hc : w.cell? p = some v) :
    (loadVar t p).run P w = .ok v w := by
  simp [loadVar, run_isAgg ht, hd, hc]
theorem CellsAt.cell0 {p : Addr} {v : Value} {vs : List Value} (hc : CellsAt w p vs) (h0 : vs[0]? = some v) : w.cell? p = some v := by
  have := hc.cell h0
  simpa [Addr.add] using this
theorem Run_load1 {x : Operand} {t : TypeId} {d : TypeDesc} {p : Addr} {v : Value} (ht : P.underlying t = some d) (hd : aggT d = false) (hx : Opd E g x (.pointer (some p)))
    (hc : g = true → CellsAt w p [v]) : Run P E g ⟨dst, .load t x, ty, pos, af, gd⟩ w v :=
  fun n' a hf hg => by
    simp [execOp, hx n' a hf hg, Instr.loadAt, Instr.sureAddr, run_load1 ht hd ((hc hg).cell0 rfl)]
theorem run_loadA {t : TypeId} {d : TypeDesc} {p : Addr} {n bytes : Nat} {z : Value} {vs : List Value} (ht : P.underlying t = some d) (hd : aggT d = true) (hti : TI P t n bytes z) (hc : CellsAt w p vs) (hl : vs.length = n) :
    (loadVar t p).run P w = .ok (.agg vs.toArray) w := by
  obtain ⟨i', hi, hs, _, _⟩ := hti.out
  have := run_loadCells_list (P := P) w p vs (fun j v hv => hc.cell hv)
  rw [hl] at this
  simp [loadVar, run_isAgg ht, hd, sizeOf, typeInfo, hi, hs, this]
theorem Run_loadA {x : Operand} {t : TypeId} {d : TypeDesc} {p : Addr} {n bytes : Nat} {z : Value} {vs : List Value} (ht : P.underlying t = some d) (hd : aggT d = true) (hti : TI P t n bytes z) (hx : Opd E g x (.pointer (some p)))
    (hc : g = true → CellsAt w p vs) (hl : vs.length = n) : Run P E g ⟨dst, .load t x, ty, pos, af, gd⟩ w (.agg vs.toArray) :=
  fun n' a hf hg => by
    simp [execOp, hx n' a hf hg, Instr.loadAt, Instr.sureAddr, run_loadA ht hd hti (hc hg) hl]

/-- a field's place -/
def FieldOf (P : Program) (t : TypeId) (k : Nat) (off : Nat) : Prop :=
  ∃ fs f i, P.underlying t = some (.struct fs) ∧ fs[k]? = some f ∧ f.offset = off ∧ P.info? f.type = some i ∧ i.size ≠ 0
theorem Run_fieldAddr {x : Operand} {t : TypeId} {k off : Nat} {p : Addr} (hf' : FieldOf P t k off) (hx : Opd E g x (.pointer (some p))) :
    Run P E g ⟨dst, .fieldAddr t x k, ty, pos, af, gd⟩ w (.pointer (some (p.add off))) :=
  fun n' a hf hg => by
    obtain ⟨fs, f, i, ht, hk, ho, hi, hs⟩ := hf'
    have hk' : ∃ h : k < fs.size, fs[k] = f := Array.getElem?_eq_some_iff.1 hk
    obtain ⟨h1, h2⟩ := hk'
    simp [execOp, hx n' a hf hg, Instr.fieldAt, run_underlying ht, Instr.sureAddr, fieldPlace, sizeOf, typeInfo, hi, hs, ho, h1, h2]

theorem Run_nilP {x : Operand} {p : Addr} (hx : Opd E g x (.pointer (some p))) : Run P E g ⟨dst, .nilCheck x, ty, pos, af, gd⟩ w (.pointer (some p)) :=
  fun n' a hf hg => by simp only [execOp, hx n' a hf hg]; rfl
theorem Run_nilF {x : Operand} {f : FuncId} {us vs : Array Value} (hx : Opd E g x (.func (.func f) us vs)) : Run P E g ⟨dst, .nilCheck x, ty, pos, af, gd⟩ w (.func (.func f) us vs) :=
  fun n' a hf hg => by simp only [execOp, hx n' a hf hg]; rfl

/-- a part of a struct in a slot -/
theorem run_part {t : TypeId} {d : TypeDesc} {n bytes off : Nat} {z v : Value} {cs : List Value} (ht : P.underlying t = some d) (hti : TI P t n bytes z)
    (hv : (if aggT d then some (.agg ((cs.drop off).take n).toArray) else cs[off]?) = some v) : (part t cs.toArray off).run P w = .ok v w := by
  obtain ⟨i', hi, hs, _, _⟩ := hti.out
  unfold part
  rw [Sem.run_bind, run_isAgg ht]
  cases hd : aggT d
  · simp only [hd, Bool.false_eq_true, if_false] at hv ⊢
    simp [hv]
  · have e1 : (cs.toArray.extract off (off + n)) = ((cs.drop off).take n).toArray := by
      rw [List.extract_toArray]; congr 1; simp [List.extract_eq_take_drop]
    simp only [hd, if_true, Option.some.injEq] at hv
    subst hv
    simp [sizeOf, typeInfo, hi, hs]
theorem Run_field {x : Operand} {t t' : TypeId} {k n bytes off : Nat} {z v : Value} {fs : Array Field} {f : Field} {d : TypeDesc} {cs : List Value}
    (ht : P.underlying t = some (.struct fs)) (hk : fs[k]? = some f) (hft : f.type = t') (hfo : f.offset = off) (ht' : P.underlying t' = some d) (hti : TI P t' n bytes z) (hx : Opd E g x (.agg cs.toArray))
    (hv : (if aggT d then some (.agg ((cs.drop off).take n).toArray) else cs[off]?) = some v) :
    Run P E g ⟨dst, .field t x k, ty, pos, af, gd⟩ w v :=
  fun n' a hf hg => by
    subst hft; subst hfo
    have hp := run_part (w := w) ht' hti hv
    simp only [execOp, hx n' a hf hg, Instr.field, Sem.run_bind, run_underlying ht, Result.andThen_ok, hk, asAgg, Sem.run_pure, hp]

/-- a struct's value -/
theorem Run_build {t : TypeId} {parts : List (Nat × Operand)} {vs : List Value} {v : Value} (hx : Opds E g (parts.map (·.2)) vs)
    (hb : ∀ w : World, (Instr.build t ((parts.map (·.1)).zip vs).toArray).run P w = .ok v w) :
    Run P E g ⟨dst, .build t parts.toArray, ty, pos, af, gd⟩ w v :=
  fun n' a hf hg => by
    have e : (parts.map fun p => (p.1, a.eval p.2)) = (parts.map (·.1)).zip vs := by
      have h := hx.map hf hg
      rw [List.map_map] at h
      subst h
      clear hx hb
      induction parts with
      | nil => rfl
      | cons p ps ih => simp [ih]
    simp only [execOp, List.map_toArray]
    have e2 : (parts.map fun x : Nat × Operand => match x with | (i, x) => (i, a.eval x)) = (parts.map (·.1)).zip vs := e
    rw [e2]
    simp [hb]

/-- what a cut of a slice comes to; the cap is kept -/
def CutV (v : Value) (i j : Int) (n : Nat) (v' : Value) : Prop :=
  ∃ ad len cap, v = .slice ad len cap ∧ 0 ≤ i ∧ i ≤ j ∧ j ≤ (len : Nat) ∧ len ≤ cap ∧
    v' = .slice (if cap = i.toNat then ad else ad.map (·.add (i.toNat * n))) (j.toNat - i.toNat) (cap - i.toNat)
/-- with a third bound -/
def CutV3 (v : Value) (i j k : Int) (n : Nat) (v' : Value) : Prop :=
  ∃ ad len cap, v = .slice ad len cap ∧ 0 ≤ i ∧ i ≤ j ∧ j ≤ k ∧ k ≤ (len : Nat) ∧ len ≤ cap ∧
    v' = .slice (if k.toNat = i.toNat then ad else ad.map (·.add (i.toNat * n))) (j.toNat - i.toNat) (k.toNat - i.toNat)
def cutL {α : Type} (xs : List α) (i j : Int) : List α := (xs.drop i.toNat).take (j.toNat - i.toNat)
def cut3B (i j k : Int) (n : Nat) : Bool := decide (0 ≤ i) && decide (i ≤ j) && decide (j ≤ k) && decide (k ≤ n)
theorem cut3B_iff {i j k : Int} {n : Nat} : cut3B i j k n = true ↔ ((0 ≤ i ∧ i ≤ j) ∧ j ≤ k) ∧ k ≤ n := by simp [cut3B]

theorem SRd.sub {α : Type} {A : Rep α} {M : Nat → Prop} {b off cap : Nat} {cs : Array Value} {e' : TypeId} {fr : Nat × Nat} {xs : List α} {i m : Nat} {j : Nat} (hM : ¬ M b) (hb : w.heap[b]? = some (.cells cs e' fr)) (hcl : xs.length ≤ cap)
    (ho : off + cap * A.n ≤ cs.size) (hA : ARd A M w ((cs.toList.drop off).take (xs.length * A.n)) xs) (h1 : i ≤ j) (h2 : j ≤ xs.length) (h3 : j ≤ m) (h4 : m ≤ cap) :
    SRd A M w (.slice (if m = i then some ⟨b, off, none⟩ else (some (⟨b, off, none⟩ : Addr)).map (·.add (i * A.n))) (j - i) (m - i)) ((xs.drop i).take (j - i)) := by
  have hlen : ((xs.drop i).take (j - i)).length = j - i := by rw [List.length_take, List.length_drop]; omega
  by_cases hci : m = i
  · rw [if_pos hci]
    have hx0 : j - i = 0 := by omega
    refine .inr ⟨b, off, m - i, cs, e', fr, by rw [hlen], hM, hb, by rw [hlen]; omega, ?_, ?_⟩
    · have : (m - i) * A.n ≤ cap * A.n := Nat.mul_le_mul_right _ (by omega)
      omega
    · have : ((xs.drop i).take (j - i)) = [] := by rw [hx0]; rfl
      rw [this]
      simpa using (ARd.nil (A := A) (M := M) (w := w))
  · rw [if_neg hci]
    have hadd : (⟨b, off, none⟩ : Addr).add (i * A.n) = ⟨b, off + i * A.n, none⟩ := by
      unfold Addr.add; split <;> simp_all
    refine .inr ⟨b, off + i * A.n, m - i, cs, e', fr, by rw [hlen]; simp [hadd], hM, hb, by rw [hlen]; omega, ?_, ?_⟩
    · have h6 : i * A.n + (m - i) * A.n = m * A.n := by rw [← Nat.add_mul]; congr 1; omega
      have h7 : m * A.n ≤ cap * A.n := Nat.mul_le_mul_right _ h4
      omega
    · have h7 := (hA.drop i).take (j - i)
      rw [List.drop_take, List.drop_drop, List.take_take] at h7
      rw [hlen]
      have h8 : (j - i) * A.n ≤ xs.length * A.n - i * A.n := by rw [← Nat.sub_mul]; exact Nat.mul_le_mul_right _ (by omega)
      rwa [Nat.min_eq_left h8] at h7

theorem SRd.cut {α : Type} {A : Rep α} {M : Nat → Prop} {v : Value} {xs : List α} {i j : Int} (h : SRd A M w v xs) (hc : cutB i j xs.length = true) :
    ∃ v', CutV v i j A.n v' ∧ SRd A M w v' (cutL xs i j) := by
  obtain ⟨⟨h0, h1⟩, h2⟩ := cutB_iff.1 hc
  rcases h with ⟨⟨ad, rfl⟩, rfl⟩ | ⟨b, off, cap, cs, e', fr, rfl, hM, hb, hcl, ho, hA⟩
  · have hj : j = 0 := by simp at h2; omega
    have hi0 : i = 0 := by omega
    subst hj; subst hi0
    exact ⟨_, ⟨ad, 0, 0, rfl, by omega, by omega, by simp, Nat.le_refl _, rfl⟩, .inl ⟨⟨_, rfl⟩, by simp [cutL]⟩⟩
  · exact ⟨_, ⟨some ⟨b, off, none⟩, xs.length, cap, rfl, h0, h1, h2, hcl, rfl⟩, SRd.sub hM hb hcl ho hA (by omega) (by omega) (by omega) (Nat.le_refl _)⟩
theorem SRd.cut3 {α : Type} {A : Rep α} {M : Nat → Prop} {v : Value} {xs : List α} {i j k : Int} (h : SRd A M w v xs) (hc : cut3B i j k xs.length = true) :
    ∃ v', CutV3 v i j k A.n v' ∧ SRd A M w v' (cutL xs i j) := by
  obtain ⟨⟨⟨h0, h1⟩, h2⟩, h3⟩ := cut3B_iff.1 hc
  rcases h with ⟨⟨ad, rfl⟩, rfl⟩ | ⟨b, off, cap, cs, e', fr, rfl, hM, hb, hcl, ho, hA⟩
  · have hk : k = 0 := by simp at h3; omega
    have hj : j = 0 := by omega
    have hi0 : i = 0 := by omega
    subst hk; subst hj; subst hi0
    exact ⟨_, ⟨ad, 0, 0, rfl, by omega, by omega, by omega, by simp, Nat.le_refl _, rfl⟩, .inl ⟨⟨_, rfl⟩, by simp [cutL]⟩⟩
  · exact ⟨_, ⟨some ⟨b, off, none⟩, xs.length, cap, rfl, h0, h1, h2, h3, hcl, rfl⟩, SRd.sub hM hb hcl ho hA (by omega) (by omega) (by omega) (by omega)⟩
theorem SRd.cutG {α : Type} {A : Rep α} {M : Nat → Prop} {v : Value} {xs : List α} {i j : Int} (h : g = true → SRd A M w v xs) (hc : g = true → cutB i j xs.length = true) :
    ∃ v', (g = true → CutV v i j A.n v') ∧ (g = true → SRd A M w v' (cutL xs i j)) := by
  obtain ⟨v', hv⟩ := exG (fun hg => SRd.cut (h hg) (hc hg))
  exact ⟨v', fun hg => (hv hg).1, fun hg => (hv hg).2⟩
theorem SRd.cut3G {α : Type} {A : Rep α} {M : Nat → Prop} {v : Value} {xs : List α} {i j k : Int} (h : g = true → SRd A M w v xs) (hc : g = true → cut3B i j k xs.length = true) :
    ∃ v', (g = true → CutV3 v i j k A.n v') ∧ (g = true → SRd A M w v' (cutL xs i j)) := by
  obtain ⟨v', hv⟩ := exG (fun hg => SRd.cut3 (h hg) (hc hg))
  exact ⟨v', fun hg => (hv hg).1, fun hg => (hv hg).2⟩

theorem Run_cutSl {x : Operand} {v v' z : Value} {i j : Int} {lo hi : Option Operand} {t e : TypeId} {n bytes len : Nat}
    (ht : P.underlying t = some (.slice e)) (hti : TI P e n bytes z) (hx : Opd E g x v) (hl : g = true → Len v len)
    (hlo : match lo with | none => i = 0 | some y => ∃ k, Opd E g y (.int k i)) (hhi : match hi with | none => j = len | some y => ∃ k, Opd E g y (.int k j))
    (hc : g = true → CutV v i j n v') : Run P E g ⟨dst, .slice t x lo hi none, ty, pos, af, gd⟩ w v' := by
  cases hg : g
  · intro n' a hf h; cases h
  · subst hg
    obtain ⟨i', hi', hs, _, _⟩ := hti.out
    obtain ⟨ad, len', cap, rfl, h0, h1, h2, h3, rfl⟩ := hc rfl
    obtain ⟨_, _, hl⟩ := hl rfl
    cases hl
    intro n' a hf hg
    have h4 : i ≤ ((j.toNat : Nat) : Int) := by omega
    have h5 : j ≤ (cap : Nat) := by omega
    have h6 : 0 ≤ j := by omega
    have e1 : ((j.toNat : Nat) : Int) = j := by omega
    cases lo with
    | none =>
      subst hlo
      cases hi with
      | none =>
        subst hhi
        simp [execOp, hx n' a hf rfl, Instr.sliceAt, Instr.slice, Instr.sliceBounds, run_underlying ht, sizeOf, typeInfo, hi']
      | some y =>
        obtain ⟨k, hy⟩ := hhi
        simp [execOp, hx n' a hf rfl, hy n' a hf rfl, Instr.sliceAt, Instr.slice, Instr.sliceBounds, Instr.sliceBound, asIntOf, run_underlying ht, sizeOf, typeInfo, hi', h6, h5]
    | some y0 =>
      obtain ⟨k0, hy0⟩ := hlo
      cases hi with
      | none =>
        subst hhi
        simp [execOp, hx n' a hf rfl, hy0 n' a hf rfl, Instr.sliceAt, Instr.slice, Instr.sliceBounds, Instr.sliceBound, asIntOf, run_underlying ht, sizeOf, typeInfo, hi', hs, h0, h1]
      | some y =>
        obtain ⟨k, hy⟩ := hhi
        simp [execOp, hx n' a hf rfl, hy0 n' a hf rfl, hy n' a hf rfl, Instr.sliceAt, Instr.slice, Instr.sliceBounds, Instr.sliceBound, asIntOf, run_underlying ht, sizeOf, typeInfo, hi', hs, h0, h6, h5, h1, e1]

theorem Run_cutSl3 {x y3 : Operand} {v v' z : Value} {i j k : Int} {k3 : IntKind} {lo hi : Option Operand} {t e : TypeId} {n bytes len : Nat}
    (ht : P.underlying t = some (.slice e)) (hti : TI P e n bytes z) (hx : Opd E g x v) (hl : g = true → Len v len)
    (hlo : match lo with | none => i = 0 | some y => ∃ k, Opd E g y (.int k i)) (hhi : match hi with | none => False | some y => ∃ k, Opd E g y (.int k j)) (h3 : Opd E g y3 (.int k3 k))
    (hc : g = true → CutV3 v i j k n v') : Run P E g ⟨dst, .slice t x lo hi (some y3), ty, pos, af, gd⟩ w v' := by
  cases hg : g
  · intro n' a hf h; cases h
  · subst hg
    obtain ⟨i', hi', hs, _, _⟩ := hti.out
    obtain ⟨ad, len', cap, rfl, h0, h1, h2, h2', h2'', rfl⟩ := hc rfl
    obtain ⟨_, _, hl⟩ := hl rfl
    cases hl
    intro n' a hf hg
    have h4 : i ≤ ((j.toNat : Nat) : Int) := by omega
    have h5 : k ≤ (cap : Nat) := by omega
    have h6 : 0 ≤ j := by omega
    have h7 : 0 ≤ k := by omega
    have h8 : j ≤ ((k.toNat : Nat) : Int) := by omega
    have e1 : ((j.toNat : Nat) : Int) = j := by omega
    have e2 : ((k.toNat : Nat) : Int) = k := by omega
    cases hi with
    | none => exact hhi.elim
    | some y =>
      obtain ⟨k', hy⟩ := hhi
      cases lo with
      | none =>
        subst hlo
        simp [execOp, hx n' a hf rfl, hy n' a hf rfl, h3 n' a hf rfl, Instr.sliceAt, Instr.slice, Instr.sliceBounds, Instr.sliceBound, asIntOf, run_underlying ht, sizeOf, typeInfo, hi', h6, h7, h5, h2, e2]
      | some y0 =>
        obtain ⟨k0, hy0⟩ := hlo
        simp [execOp, hx n' a hf rfl, hy0 n' a hf rfl, hy n' a hf rfl, h3 n' a hf rfl, Instr.sliceAt, Instr.slice, Instr.sliceBounds, Instr.sliceBound, asIntOf, run_underlying ht, sizeOf, typeInfo, hi', hs, h0, h1, h6, h7, h5, h2, e1, e2]

/-- the elements of a slice, where 'g' holds -/
theorem SRd.atG {α : Type} {A : Rep α} {M : Nat → Prop} {v : Value} {xs : List α} {i : Int} {x : α} (h : g = true → SRd A M w v xs) (hx : g = true → idx xs i = some x) :
    ∃ p vs, (g = true → Elem v i A.n p) ∧ (g = true → CellsAt w p vs) ∧ (g = true → A.rd M w vs x) := by
  cases hg : g
  · exact ⟨default, [], (fun h => by cases h), (fun h => by cases h), (fun h => by cases h)⟩
  · obtain ⟨p, vs, h1, h2, h3⟩ := SRd.at_ (h hg) (hx hg)
    exact ⟨p, vs, fun _ => h1, fun _ => h2, fun _ => h3⟩
theorem OSl.atG {α : Type} {A : Rep α} {e : TypeId} {M : Nat → Prop} {v : Value} {xs : List α} {i : Int} {x : α} (h : g = true → OSl A e M w v xs) (hx : g = true → idx xs i = some x) :
    ∃ p vs, (g = true → Elem v i A.n p) ∧ (g = true → CellsAt w p vs) ∧ (g = true → A.rd M w vs x) := by
  cases hg : g
  · exact ⟨default, [], (fun h => by cases h), (fun h => by cases h), (fun h => by cases h)⟩
  · obtain ⟨p, vs, h1, h2, h3⟩ := OSl.at_ (h hg) (hx hg)
    exact ⟨p, vs, fun _ => h1, fun _ => h2, fun _ => h3⟩

/-- '== nil', '!= nil' of a slice: what is empty may be nil or not: the model asks where it is not empty, or the value's own form -/
theorem Elem.addr {v : Value} {i : Int} {n : Nat} {p : Addr} (h : Elem v i n p) : ∃ a len cap, v = .slice (some a) len cap ∧ p = a.add (i.toNat * n) := by
  obtain ⟨a, len, cap, hv, _, _, hp⟩ := h
  exact ⟨a, len, cap, hv, hp⟩
end

section
variable {P : Program} {E : Env} {w : World}
theorem run_maxI (ts : Array TypeId) (t : TypeId) (k : IntKind) (x y : Int) (w : World) : (Builtin.max_ ts t #[.int k x, .int k y]).run P w = .ok (.int k (max x y)) w := by
  rw [run_max_int2]; congr 2; split <;> omega
theorem run_minI (ts : Array TypeId) (t : TypeId) (k : IntKind) (x y : Int) (w : World) : (Builtin.min_ ts t #[.int k x, .int k y]).run P w = .ok (.int k (min x y)) w := by
  rw [run_min_int2]; congr 2; split <;> omega

theorem Run_lenSlG {g : Bool} {dst : Option Tmp} {ty : TypeId} {pos : String} {af : Array Edge} {gd : Option (Nat × Bool)} {x : Operand} {v : Value} {m : Nat} {t e : TypeId} (ht : P.underlying t = some (.slice e)) (hx : Opd E g x v) (hl : g = true → Len v m) :
    Run P E g ⟨dst, .call ⟨.builtin .len, #[x], #[t]⟩, ty, pos, af, gd⟩ w (.int .i64 m) := fun n' a hf hg => Run_lenSl ht hx (hl hg) n' a hf hg

theorem FieldOf.mk' {t : TypeId} {k off f n : Nat} {fs : Array Field} {fd : Field} (ht : P.underlying t = some (.struct fs)) (hk : fs[k]? = some fd) (ho : fd.offset = off) (hf : fd.type = f)
    (hi : (P.info? f).map (·.size) = some n) (hn : n ≠ 0) : FieldOf P t k off := by
  subst hf
  cases h : P.info? fd.type with
  | none => simp [h] at hi
  | some i => exact ⟨fs, fd, i, ht, hk, ho, h, by simp [h] at hi; omega⟩

/-! structs against one another -/
theorem run_equalIn_S (P : Program) (w : World) (d : Nat) (t : TypeId) (a b : Str) (h : P.underlying t = some .string) : (Op.equalIn (d + 1) t (S a) (S b)).run P w = .ok (a == b) w := by
  unfold S; rw [run_equalIn_string w d t _ _ h, toList_S, toList_S]
theorem part1 {t : TypeId} {d : TypeDesc} {cs : List Value} {off : Nat} {v : Value} (ht : P.underlying t = some d) (hd : aggT d = false) (hv : cs[off]? = some v) : (part t cs.toArray off).run P w = .ok v w := by
  unfold part
  rw [Sem.run_bind, run_isAgg ht]
  simp [hd, hv]
theorem eqF_cons {d : Nat} {xs ys : Array Value} {f : Field} {fs : List Field} {a b : Value} {r s : Bool} (hn : (f.name != "_") = true) (h1 : (part f.type xs f.offset).run P w = .ok a w) (h2 : (part f.type ys f.offset).run P w = .ok b w)
    (h3 : (Op.equalIn d f.type a b).run P w = .ok r w) (h4 : (Op.eqFields d xs ys fs).run P w = .ok s w) : (Op.eqFields d xs ys (f :: fs)).run P w = .ok (r && s) w := by
  have hn' : f.name ≠ "_" := by simpa using hn
  simp only [Op.eqFields, if_pos hn', Sem.run_bind, h1, h2, h3, Result.andThen_ok]
  cases r
  · rfl
  · simpa using h4
theorem eqF_nil {d : Nat} {xs ys : Array Value} : (Op.eqFields d xs ys []).run P w = .ok true w := rfl

end

/-- where the element lies -/
def elA (v : Value) (i : Int) (n : Nat) : Addr := match v with
  | .slice (some a) _ _ => a.add (i.toNat * n)
  | _ => ⟨0, 0, none⟩
theorem Elem.elA {v : Value} {i : Int} {n : Nat} {p : Addr} (h : Elem v i n p) : p = elA v i n := by
  obtain ⟨a, len, cap, rfl, _, _, rfl⟩ := h
  rfl
theorem SRd.atA {α : Type} {A : Rep α} {M : Nat → Prop} {w : World} {v : Value} {xs : List α} {i : Int} {x : α} (h : SRd A M w v xs) (hx : idx xs i = some x) :
    Elem v i A.n (elA v i A.n) ∧ ∃ vs, CellsAt w (elA v i A.n) vs ∧ A.rd M w vs x ∧ ¬ M (elA v i A.n).block := by
  have hnM : ∀ p, Elem v i A.n p → ¬ M p.block := by
    intro p hp
    rcases h with ⟨⟨a0, rfl⟩, rfl⟩ | ⟨b, off, cap, cs, e, fr, rfl, hM, _⟩
    · obtain ⟨a, l, c, hv, h0, h1, _⟩ := hp
      simp only [Value.slice.injEq] at hv
      omega
    · obtain ⟨a, l, c, hv, _, _, rfl⟩ := hp
      cases hv
      unfold Addr.add; split <;> exact hM
  obtain ⟨p, vs, h1, h2, h3⟩ := h.at_ hx
  have := h1.elA; subst this
  exact ⟨h1, vs, h2, h3, hnM _ h1⟩
theorem Own.atA {α : Type} {A : Rep α} {e : TypeId} {M : Nat → Prop} {w : World} {v : Value} {xs : List α} {R : List Nat} {i : Int} {x : α} (h : Own A e M w v xs R) (hx : idx xs i = some x) :
    Elem v i A.n (elA v i A.n) ∧ ∃ vs, CellsAt w (elA v i A.n) vs ∧ A.rd M w vs x := by
  obtain ⟨p, vs, h1, h2, h3⟩ := Own.atG (g := true) (fun _ => h) (fun _ => hx)
  have := (h1 rfl).elA; subst this
  exact ⟨h1 rfl, vs, h2 rfl, h3 rfl⟩

/-! ### operations that change the world -/

section
variable {P : Program} {E : Env} {w : World} {dst : Option Tmp} {ty : TypeId} {pos : String} {af : Array Edge}

theorem ext_alloc (w : World) (o : Obj) : Ext w (w.alloc o) := ⟨rfl, rfl, rfl, by simp, fun b hb => heap_alloc_old w o hb⟩

theorem RunW_alloc {t : TypeId} {size bytes : Nat} {z : Value} {zs : List Value} (hti : TI P t size bytes z) (hz : z.cells = zs.toArray) :
    RunW P E ⟨dst, .alloc t, ty, pos, af, none⟩ w (.pointer (some ⟨w.heap.size, 0, none⟩)) (w.alloc (.cells zs.toArray t)) := fun n' a hf => by
  obtain ⟨i', hi, _, _, hzz⟩ := hti.out
  simp [execOp, Instr.alloc, zeroValue, typeInfo, hi, hzz, newVar, newRow, hz]
theorem RunW_box {t : TypeId} {x : Operand} {v : Value} {zs : List Value} (hx : Opd E true x v) (hz : v.cells = zs.toArray) :
    RunW P E ⟨dst, .box t x, ty, pos, af, none⟩ w (.pointer (some ⟨w.heap.size, 0, none⟩)) (w.alloc (.cells zs.toArray t)) := fun n' a hf => by
  simp [execOp, Instr.box, newVar, newRow, hx n' a hf rfl, hz]

/-- a slice's literal: the cells, as the parts fill them -/
def litCells (size len : Nat) (z : List Value) (parts : List (Nat × Value)) : Option (Array Value) :=
  Instr.fill (fun i => some (i * size, size)) ((Array.range (len * size)).map (z.toArray[· % z.length]!)) parts

theorem zip_parts {parts : List (Nat × Operand)} {vs : List Value} (hx : Opds E true (parts.map (·.2)) vs) {n : Nat} {a : Act} (hf : Fits n E a) :
    (parts.map fun x : Nat × Operand => match x with | (i, x) => (i, a.eval x)) = (parts.map (·.1)).zip vs := by
  have h := hx.map hf rfl
  rw [List.map_map] at h
  subst h
  clear hx
  induction parts with
  | nil => rfl
  | cons p ps ih => simp [ih]
theorem RunW_buildSlice {t e : TypeId} {len size bytes : Nat} {z : Value} {zs cells : List Value} {parts : List (Nat × Operand)} {vs : List Value}
    (ht : P.underlying t = some (.slice e)) (hti : TI P e size bytes z) (hz : z.cells = zs.toArray) (hpos : Nat.blt 0 (len * size) = true) (hbig : Nat.ble (len * size) 16777216 = true)
    (hx : Opds E true (parts.map (·.2)) vs) (hc : litCells size len zs ((parts.map (·.1)).zip vs) = some cells.toArray) :
    RunW P E ⟨dst, .buildSlice t len parts.toArray, ty, pos, af, none⟩ w (.slice (some ⟨w.heap.size, 0, none⟩) len len) (w.alloc (.cells cells.toArray e)) := fun n' a hf => by
  obtain ⟨i', hi, hs, _, hzz⟩ := hti.out
  have e2 := zip_parts hx hf
  have h0 : ¬ len * size = 0 := by have : 0 < len * size := by simpa using hpos
                                   omega
  have h1' : ¬ (len * size > 2 ^ 24) := by have := Nat.le_of_ble_eq_true hbig; omega
  have hc' : Instr.fill (fun i => some (i * size, size)) ((Array.range (len * size)).map (z.cells[· % z.cells.size]!)) ((parts.map (·.1)).zip vs) = some cells.toArray := by
    rw [hz]; simpa [litCells] using hc
  simp only [execOp, List.map_toArray, e2, Instr.buildSlice, Sem.run_bind, run_underlying ht, Result.andThen_ok, sizeOf, typeInfo, run_program, hi, Sem.run_pure, hs, if_neg h1', if_neg h0, zeroValue, hzz, hc', newRow, run_newObj]
  rfl
/-- the empty literal -/
theorem RunW_buildSlice0 {t e : TypeId} {size bytes : Nat} {z : Value} (ht : P.underlying t = some (.slice e)) (hti : TI P e size bytes z) :
    RunW P E ⟨dst, .buildSlice t 0 #[], ty, pos, af, none⟩ w (.slice (some ⟨w.heap.size, 0, none⟩) 0 0) (w.alloc (.cells ([] : List Value).toArray e)) := fun n' a hf => by
  obtain ⟨i', hi, hs, _, hzz⟩ := hti.out
  have e0 : (Array.range 0).map (fun _ => (default : Value)) = #[] := Array.eq_empty_of_size_eq_zero (by simp)
  simp [execOp, Instr.buildSlice, run_underlying ht, sizeOf, typeInfo, hi, Instr.fill, newRow, e0]

/-- a new block of cells that read as a row, given up at once -/
theorem SRd.fresh {α : Type} {A : Rep α} {M : Nat → Prop} {b len : Nat} {cells : List Value} {e : TypeId} {xs : List α} (hb : BoxAt w b e cells) (hM : ¬ M b)
    (hl : xs.length = len) (hA : ARd A M w cells xs) : SRd A M w (.slice (some ⟨b, 0, none⟩) len len) xs :=
  .inr ⟨b, 0, len, cells.toArray, e, (0, 0), by rw [hl], hM, hb, by omega, by simp [hA.1, hl], by
    rw [List.drop_zero, ← hA.1]; simpa using hA⟩
theorem OSl.fresh {α : Type} {A : Rep α} {M : Nat → Prop} {b len : Nat} {cells : List Value} {e : TypeId} {xs : List α} (hb : BoxAt w b e cells)
    (hl : xs.length = len) (hm : Nat.ble len 9223372036854775807 = true) (hA : ARd A M w cells xs) : OSl A e M w (.slice (some ⟨b, 0, none⟩) len len) xs :=
  ⟨cells, ⟨hA.1, .inr ⟨b, len, cells.toArray, by rw [hl], Nat.zero_le _, hb, by omega, by simpa [maxLen] using Nat.le_of_ble_eq_true hm, by simp [hA.1, hl], by simp [← hA.1]⟩⟩, hA⟩


/-! stores -/
def setSeg (vs : List Value) (k : Nat) (us : List Value) : List Value := vs.take k ++ us ++ vs.drop (k + us.length)

theorem RunS_store {t e : TypeId} {x y : Operand} {b k : Nat} {vs us vs' : List Value} {v : Value} {size bytes : Nat} {z : Value} (hti : TI P t size bytes z)
    (hx : Opd E true x (.pointer (some ⟨b, k, none⟩))) (hy : Opd E true y v) (hv : v.cells = us.toArray) (hl : us.length = size)
    (h1 : us.all Value.oneCell' = true) (hb : BoxAt w b e vs) (hk : Nat.ble (k + us.length) vs.length = true) (hvs : setSeg vs k us = vs') :
    RunS P E ⟨dst, .store t x y, ty, pos, af, none⟩ w (w.setRow b vs'.toArray) ∧ Chg [b] w (w.setRow b vs'.toArray) ∧ BoxAt (w.setRow b vs'.toArray) b e vs' := by
  obtain ⟨i', hi, hs, _, _⟩ := hti.out
  have hk' := Nat.le_of_ble_eq_true hk
  have hst := run_storeCells_at P b k e us 0 vs.toArray w hb (by simpa using hk') (by simpa using h1)
  refine ⟨fun n a hf => ?_, ⟨rfl, rfl, rfl, by simp, fun c _ hcb => setRow_other w b c _ (by simpa using hcb)⟩, setRow_heap w b _ _ e (0, 0) hb⟩
  have e1 : (vs.take k ++ us ++ vs.drop (k + us.length)) = vs' := hvs
  simp only [Nat.add_zero] at hst
  simp [execOp, Instr.storeAt, Instr.sureAddr, hx n a hf rfl, hy n a hf rfl, storeVar, sizeOf, typeInfo, hi, hs, hv, hl, hst]
  rw [← e1]; simp [hl]

/-- a store into a part of an element of a slice of the call's own: vs are the element's cells, k is the part's place -/
theorem RunS_storeElF {α : Type} {A : Rep α} {M : Nat → Prop} {t e : TypeId} {x y : Operand} {p : Addr} {i : Int} {k : Nat} {sv v : Value} {xs : List α} {u : α} {vs us vs' : List Value} {size bytes : Nat} {z : Value} (hti : TI P t size bytes z)
    (hx : Opd E true x (.pointer (some (p.add k)))) (hy : Opd E true y v) (hv : v.cells = us.toArray) (hsz : us.length = size) (h1c : us.all Value.oneCell' = true) (hel : Elem sv i A.n p) (ho : OSl A e M w sv xs) (hC : CellsAt w p vs) (hvl : vs.length = A.n)
    (hkl : Nat.ble (k + us.length) vs.length = true) (hvs : setSeg vs k us = vs') (hu : A.rd M w vs' u) (hM : ∀ b ∈ blk sv, M b) :
    ∃ w', RunS P E ⟨dst, .store t x y, ty, pos, af, none⟩ w w' ∧ Chg (blk sv) w w' ∧ w'.heap.size = w.heap.size ∧ ∀ M', Mv M w M' w' → OSl A e M' w' sv (xs.set i.toNat u) := by
  obtain ⟨i', hi, hs, _, _⟩ := hti.out
  obtain ⟨ad, len, cap, rfl, h0, h1, rfl⟩ := hel
  obtain ⟨cells, ⟨hcl, hown⟩, hA⟩ := ho
  rcases hown with ⟨hbad, _⟩ | ⟨g, cap', cur, hval, _, hg, hc, hm, hcs, ht⟩
  · cases hbad
  · cases hval
    have hkl := Nat.le_of_ble_eq_true hkl
    have hlu := A.len hu
    have hi1 : i.toNat < xs.length := by omega
    have hadd : ((⟨g, 0, none⟩ : Addr).add (i.toNat * A.n)) = ⟨g, i.toNat * A.n, none⟩ := by
      unfold Addr.add; split <;> simp_all
    rw [hadd] at hx hC
    have hadd2 : ((⟨g, i.toNat * A.n, none⟩ : Addr).add k) = ⟨g, i.toNat * A.n + k, none⟩ := by
      unfold Addr.add; split <;> simp_all
    rw [hadd2] at hx
    have hfit0 : i.toNat * A.n + A.n ≤ cur.size := by
      rw [hcs, ← Nat.succ_mul]; exact Nat.mul_le_mul_right _ (by omega)
    have hfit : i.toNat * A.n + k + us.length ≤ cur.size := by omega
    have hst := run_storeCells_at P g (i.toNat * A.n + k) e us 0 cur w hg (by simpa using hfit) (by simpa using h1c)
    simp only [Nat.add_zero] at hst
    -- the element's cells
    have hseg : vs = (cur.toList.drop (i.toNat * A.n)).take A.n := by
      obtain ⟨_, cs, t', fr, hb, hcell⟩ := hC
      rw [hg] at hb
      cases hb
      apply List.ext_getElem
      · simp only [List.length_take, List.length_drop, Array.length_toList]; omega
      · intro j h2 h3
        have := hcell j _ (List.getElem?_eq_getElem h2)
        have hj : j < A.n := by omega
        rw [List.getElem_take, List.getElem_drop, Array.getElem_toList]
        rw [Array.getElem?_eq_getElem (by show i.toNat * A.n + j < cur.size; omega)] at this
        exact (Option.some.inj this).symm
    have erow : cur.toList.take (i.toNat * A.n + k) ++ us ++ cur.toList.drop (i.toNat * A.n + k + us.length) = cur.toList.take (i.toNat * A.n) ++ vs' ++ cur.toList.drop ((i.toNat + 1) * A.n) := by
      have e1 : cur.toList.take (i.toNat * A.n + k) = cur.toList.take (i.toNat * A.n) ++ vs.take k := by
        rw [hseg, List.take_take, List.take_add, Nat.min_eq_left (by omega)]
      have e2 : cur.toList.drop (i.toNat * A.n + k + us.length) = vs.drop (k + us.length) ++ cur.toList.drop ((i.toNat + 1) * A.n) := by
        have e3 : (i.toNat + 1) * A.n = i.toNat * A.n + A.n := Nat.succ_mul ..
        rw [hseg, List.drop_take, List.drop_drop, e3, ← Nat.add_assoc]
        have e4 : cur.toList.drop (i.toNat * A.n + A.n) = (cur.toList.drop (i.toNat * A.n + k + us.length)).drop (A.n - (k + us.length)) := by
          rw [List.drop_drop]; congr 1; omega
        rw [e4, List.take_append_drop]
      rw [e1, e2, ← hvs]
      simp [setSeg]
    have hrun : RunS P E ⟨dst, .store t x y, ty, pos, af, none⟩ w (w.setRow g (cur.toList.take (i.toNat * A.n + k) ++ us ++ cur.toList.drop (i.toNat * A.n + k + us.length)).toArray) := fun n a hf => by
      have hnn : ¬ (us.toArray.size ≠ i'.size) := by simp [hsz, hs]
      simp only [execOp, Instr.storeAt, Instr.sureAddr, hx n a hf rfl, hy n a hf rfl, storeVar, sizeOf, typeInfo, hi, hv, Sem.run_bind, Sem.run_pure, Result.andThen_ok, run_program, if_neg hnn, hst]
    rw [erow] at hrun
    have hchg : Chg [g] w (w.setRow g (cur.toList.take (i.toNat * A.n) ++ vs' ++ cur.toList.drop ((i.toNat + 1) * A.n)).toArray) :=
      ⟨rfl, rfl, rfl, by simp, fun c _ hcb => setRow_other w g c _ (by simpa using hcb)⟩
    refine ⟨_, hrun, hchg, by simp, fun M' hmv => ?_⟩
    refine ⟨cells.take (i.toNat * A.n) ++ vs' ++ cells.drop ((i.toNat + 1) * A.n), ⟨?_, .inr ⟨g, cap, _, by simp, Nat.zero_le _, setRow_heap w g cur _ e (0, 0) hg, by simpa using hc, hm, ?_, ?_⟩⟩, ((hA.set hi1 hu).mv hmv)⟩
    · exact (hA.set hi1 hu).1
    · have e3 : (i.toNat + 1) * A.n = i.toNat * A.n + A.n := Nat.succ_mul ..
      simp only [List.size_toArray, List.length_append, List.length_take, List.length_drop, Array.length_toList]
      omega
    · rw [List.length_set, ← ht]
      have hk : i.toNat * A.n + A.n ≤ xs.length * A.n := by rw [← Nat.succ_mul]; exact Nat.mul_le_mul_right _ hi1
      have e3 : (i.toNat + 1) * A.n = i.toNat * A.n + vs'.length := by rw [hlu, Nat.add_mul]; omega
      rw [e3, List.take_append, List.take_append, List.take_take, List.take_take, List.drop_take]
      have e4 : min (xs.length * A.n) (i.toNat * A.n) = i.toNat * A.n := by omega
      have e5 : min (i.toNat * A.n) (xs.length * A.n) = i.toNat * A.n := by omega
      rw [e4, e5]
      congr 1
      · congr 1
        rw [List.take_of_length_le]
        simp only [List.length_take, Array.length_toList]; omega
      · congr 1
        simp only [List.length_append, List.length_take, Array.length_toList]
        omega

/-! append -/
def roomB (k bytes : Nat) : Bool := Nat.ble (k * bytes) 140737488355328 && Nat.ble k 9223372036854775807

theorem run_append_osl {α : Type} {A : Rep α} {M : Nat → Prop} (t ty' e : TypeId) (i : TypeInfo) (z : Value) (ht : P.underlying t = some (.slice e)) (hi : P.info? e = some i) (hz : i.zero = some z) (hs : i.size = A.n)
    (hzs : z.cells.size = A.n) {v u : Value} {xs ys : List α} (ho : OSl A e M w v xs) (hy : SRd A M w u ys) (hM : ∀ b ∈ blk v, M b) (hroom : roomB (xs.length + ys.length) i.bytes = true) (_hpos : 0 < A.n) :
    ∃ v' w', (Builtin.append_ #[t, t] ty' #[v, u]).run P w = .ok v' w' ∧ Chg (blk v) w w' ∧ (∀ b ∈ blk v', b < w'.heap.size ∧ (b ∈ blk v ∨ w.heap.size ≤ b)) ∧
      (∀ M', Mv M w M' w' → OSl A e M' w' v' (xs ++ ys)) := by
  simp only [roomB, Bool.and_eq_true] at hroom
  have hb1 := Nat.le_of_ble_eq_true hroom.1
  have hb2 := Nat.le_of_ble_eq_true hroom.2
  obtain ⟨cells, hown, hA⟩ := ho
  -- the new cells
  have hnew : (u = .slice none 0 0 ∧ ys = []) ∨ ∃ ad c news, u = .slice (some ad) ys.length c ∧ news.length = ys.length * A.n ∧ (∀ j x, news[j]? = some x → w.cell? (ad.add j) = some x) ∧ ARd A M w news ys := by
    rcases hy with ⟨⟨uo, rfl⟩, rfl⟩ | ⟨b, off, cap, cs, e', fr, rfl, hMb, hb, hc, hof, hr⟩
    · cases uo with
      | none => exact .inl ⟨rfl, rfl⟩
      | some ad => exact .inr ⟨ad, 0, [], rfl, by simp, by simp, ARd.nil⟩
    · refine .inr ⟨⟨b, off, none⟩, cap, _, rfl, hr.1, fun j x hj => ?_, hr⟩
      have key : CellsAt w ⟨b, off, none⟩ ((cs.toList.drop off).take (ys.length * A.n)) := ⟨rfl, cs, e', fr, hb, fun j u hj => by
        rw [List.getElem?_take] at hj
        split at hj
        · simpa [List.getElem?_drop] using hj
        · cases hj⟩
      exact key.cell hj
  rcases hnew with ⟨rfl, rfl⟩ | ⟨ad, c, news, rfl, hnl, hnc, hnA⟩
  · -- nothing is appended
    refine ⟨v, w, ?_, (Ext.refl w).chg _, fun b hb => ⟨?_, .inl hb⟩, fun M' m => ⟨cells, ?_, ?_⟩⟩
    · rcases hown.2 with ⟨rfl, h0⟩ | ⟨g, cap, cur, rfl, _, hg, hcap, _⟩
      · simp [Builtin.append_, run_underlying ht, sizeOf, typeInfo, hi, Builtin.lenOf, Builtin.firstCells]
      · have hst := run_storeCells_at P g (xs.length * i.size) e [] 0 cur w hg
        simp [Builtin.append_, run_underlying ht, sizeOf, typeInfo, hi, Builtin.lenOf, Builtin.firstCells, storeCells, hcap]
    · exact (hown.lt b (by simpa [blk] using hb)).2
    · simpa using hown
    · simpa using hA.mv m
  · have hA' := hA.append hnA
    have hone := hnA.oneCell
    by_cases hm0 : ys.length = 0
    · -- a slice without elements
      have hys : ys = [] := List.eq_nil_of_length_eq_zero hm0
      subst hys
      have hn0 : news = [] := List.eq_nil_of_length_eq_zero (by simpa using hnl)
      subst hn0
      refine ⟨v, w, ?_, (Ext.refl w).chg _, fun b hb => ⟨?_, .inl hb⟩, fun M' m => ⟨cells, ?_, ?_⟩⟩
      · rcases hown.2 with ⟨rfl, h0⟩ | ⟨g, cap, cur, rfl, _, hg, hcap, _⟩
        · simp [Builtin.append_, run_underlying ht, sizeOf, typeInfo, hi, Builtin.lenOf, Builtin.firstCells, loadCells, loadCellsFrom]
        · simp [Builtin.append_, run_underlying ht, sizeOf, typeInfo, hi, Builtin.lenOf, Builtin.firstCells, storeCells, loadCells, loadCellsFrom, hcap]
      · exact (hown.lt b (by simpa [blk] using hb)).2
      · simpa using hown
      · simpa using hA.mv m
    · have grown : ∀ (old : Nat), old < xs.length + ys.length →
          (w.drew.alloc (.cells (cells.toArray ++ news.toArray ++ Builtin.zeroCells z.cells (grownCap w (xs.length + ys.length) old e - (xs.length + ys.length))) e)).ownsRow 0 e A.n
            (.slice (some ⟨w.heap.size, 0, none⟩) (xs ++ ys).length (grownCap w (xs.length + ys.length) old e)) (xs ++ ys).length (cells ++ news) := by
        intro old hold
        have hge := grownCap_ge w (xs.length + ys.length) old e
        have hcm : grownCap w (xs.length + ys.length) old e ≤ maxLen := grownCap_le_maxLen w _ old e (by simpa [maxLen] using hb2)
        refine ⟨hA'.1, .inr ⟨w.heap.size, _, _, rfl, Nat.zero_le _, heap_alloc_new w.drew _, by simpa using hge, hcm, ?_, ?_⟩⟩
        · simp only [Array.size_append, List.size_toArray, size_zeroCells, hzs, hA.1, hnl, ← Nat.add_mul]
          congr 1
          omega
        · simp only [Array.toList_append, List.append_assoc]
          rw [← List.append_assoc, ← hA'.1]
          exact List.take_left
      have hchg : ∀ o C, Chg C w (w.drew.alloc o) := fun o C => ⟨rfl, rfl, rfl, by simp, fun b hb _ => heap_alloc_old w.drew o hb⟩
      rcases hown.2 with ⟨rfl, h0⟩ | ⟨g, cap, cur, rfl, _, hg, hcap, hcm, hcs, htake⟩
      · have hx0 : xs = [] := List.eq_nil_of_length_eq_zero h0
        subst hx0
        have hc0 : cells = [] := List.eq_nil_of_length_eq_zero (by simpa using hown.1)
        subst hc0
        have hr := run_append_nil (P := P) w t ty' e i z ht hi hz ad ys.length c news (by rw [hs]; exact hnl) hnc (by omega) (by simp at hb2; omega) (by simp at hb1; omega)
        have hgr := grown 0 (by simp; omega)
        simp only [List.length_nil, Nat.zero_add, List.nil_append, Array.empty_append] at hgr hr
        refine ⟨_, _, hr, hchg _ _, fun b hb => ?_, fun M' m => ⟨_, by simpa using hgr, by simpa using hnA.mv m⟩⟩
        have : b = w.heap.size := by simpa [blk, Value.ownBlock] using hb
        subst this
        exact ⟨by simp, .inr (Nat.le_refl _)⟩
      · by_cases hroom' : xs.length + ys.length ≤ cap
        · have hfit : xs.length * i.size + news.length ≤ cur.size := by rw [hs, hnl, hcs, ← Nat.add_mul]; exact Nat.mul_le_mul_right _ hroom'
          have hr := run_append_room (P := P) w t ty' e i ht hi g xs.length cap cur hg ad ys.length c news (by rw [hs]; exact hnl) hnc hone hroom' hfit
          rw [hs] at hr
          refine ⟨_, _, hr, ⟨rfl, rfl, rfl, by simp, fun b hb hbg => setRow_other w g b _ (by simpa [blk, Value.ownBlock] using hbg)⟩, fun b hb => ?_, fun M' m => ⟨cells ++ news, ⟨hA'.1, .inr ⟨g, cap, _, by simp, Nat.zero_le _, setRow_heap w g cur _ e _ hg, by simpa using hroom', hcm, ?_, ?_⟩⟩, hA'.mv m⟩⟩
          · have : b = g := by simpa [blk, Value.ownBlock] using hb
            subst this
            exact ⟨by simpa using (Array.getElem?_eq_some_iff.1 hg).1, .inl (by simp [blk, Value.ownBlock])⟩
          · simp only [List.size_toArray, List.length_append, List.length_take, List.length_drop, Array.length_toList]
            rw [hs] at hfit
            omega
          · rw [htake, ← hA'.1]
            exact List.take_left
        · have holds : ∀ j x, cells[j]? = some x → w.cell? ((⟨g, 0, none⟩ : Addr).add j) = some x := hown.cells (g := g) rfl
          have hr := run_append_grow (P := P) w t ty' e i z ht hi hz ⟨g, 0, none⟩ xs.length cap cells (by rw [hs]; exact hA.1) holds ad ys.length c news (by rw [hs]; exact hnl) hnc (by omega) (by omega) (growslice_fits (by omega) hb1)
          have hgr := grown cap (by omega)
          refine ⟨_, _, hr, hchg _ _, fun b hb => ?_, fun M' m => ⟨_, by simpa using hgr, hA'.mv m⟩⟩
          have : b = w.heap.size := by simpa [blk, Value.ownBlock] using hb
          subst this
          exact ⟨by simp, .inr (Nat.le_refl _)⟩

theorem run_append_empty {α : Type} {A : Rep α} {M : Nat → Prop} (t ty' e : TypeId) (i : TypeInfo) (z : Value) (ht : P.underlying t = some (.slice e)) (hi : P.info? e = some i) (hz : i.zero = some z) (hs : i.size = A.n)
    (hzs : z.cells.size = A.n) {a0 : Option Addr} {u : Value} {ys : List α} (hx : SRd A M w (.slice a0 0 0) []) (hy : SRd A M w u ys) (hroom : roomB ys.length i.bytes = true) :
    ((Builtin.append_ #[t, t] ty' #[.slice a0 0 0, u]).run P w = .ok (.slice a0 0 0) w ∧ ys = []) ∨
    ∃ v' w', (Builtin.append_ #[t, t] ty' #[.slice a0 0 0, u]).run P w = .ok v' w' ∧ Ext w w' ∧ (∀ b ∈ blk v', b < w'.heap.size ∧ w.heap.size ≤ b) ∧ (∀ M', Mv M w M' w' → OSl A e M' w' v' ys) := by
  simp only [roomB, Bool.and_eq_true] at hroom
  have hb1 := Nat.le_of_ble_eq_true hroom.1
  have hb2 := Nat.le_of_ble_eq_true hroom.2
  have hnew : (u = .slice none 0 0 ∧ ys = []) ∨ ∃ ad c news, u = .slice (some ad) ys.length c ∧ news.length = ys.length * A.n ∧ (∀ j x, news[j]? = some x → w.cell? (ad.add j) = some x) ∧ ARd A M w news ys := by
    rcases hy with ⟨⟨uo, rfl⟩, rfl⟩ | ⟨b, off, cap, cs, e', fr, rfl, hMb, hb, hc, hof, hr⟩
    · cases uo with
      | none => exact .inl ⟨rfl, rfl⟩
      | some ad => exact .inr ⟨ad, 0, [], rfl, by simp, by simp, ARd.nil⟩
    · refine .inr ⟨⟨b, off, none⟩, cap, _, rfl, hr.1, fun j x hj => ?_, hr⟩
      have key : CellsAt w ⟨b, off, none⟩ ((cs.toList.drop off).take (ys.length * A.n)) := ⟨rfl, cs, e', fr, hb, fun j u hj => by
        rw [List.getElem?_take] at hj
        split at hj
        · simpa [List.getElem?_drop] using hj
        · cases hj⟩
      exact key.cell hj
  rcases hnew with ⟨rfl, rfl⟩ | ⟨ad, c, news, rfl, hnl, hnc, hnA⟩
  · refine .inl ⟨?_, rfl⟩
    cases a0 <;> simp [Builtin.append_, run_underlying ht, sizeOf, typeInfo, hi, Builtin.lenOf, Builtin.firstCells, storeCells]
  · by_cases hm0 : ys.length = 0
    · have hys : ys = [] := List.eq_nil_of_length_eq_zero hm0
      subst hys
      refine .inl ⟨?_, rfl⟩
      cases a0 <;> simp [Builtin.append_, run_underlying ht, sizeOf, typeInfo, hi, Builtin.lenOf, Builtin.firstCells, storeCells, loadCells, loadCellsFrom]
    · refine .inr ?_
      have hge := grownCap_ge w ys.length 0 e
      have hcm : grownCap w ys.length 0 e ≤ maxLen := grownCap_le_maxLen w _ 0 e (by simpa [maxLen] using hb2)
      have hgr : (w.drew.alloc (.cells (news.toArray ++ Builtin.zeroCells z.cells (grownCap w ys.length 0 e - ys.length)) e)).ownsRow 0 e A.n
            (.slice (some ⟨w.heap.size, 0, none⟩) ys.length (grownCap w ys.length 0 e)) ys.length news := by
        refine ⟨hnl, .inr ⟨w.heap.size, _, _, rfl, Nat.zero_le _, heap_alloc_new w.drew _, hge, hcm, ?_, ?_⟩⟩
        · simp only [Array.size_append, List.size_toArray, size_zeroCells, hzs, hnl, ← Nat.add_mul]
          congr 1
          omega
        · simp only [Array.toList_append]
          rw [← hnl]
          exact List.take_left
      have hE : Ext w (w.drew.alloc (.cells (news.toArray ++ Builtin.zeroCells z.cells (grownCap w ys.length 0 e - ys.length)) e)) := ⟨rfl, rfl, rfl, by simp, fun b hb => heap_alloc_old w.drew _ hb⟩
      have hB : ∀ b ∈ blk (.slice (some ⟨w.heap.size, 0, none⟩) ys.length (grownCap w ys.length 0 e)), b < (w.drew.alloc (.cells (news.toArray ++ Builtin.zeroCells z.cells (grownCap w ys.length 0 e - ys.length)) e)).heap.size ∧ w.heap.size ≤ b := fun b hb => by
        have : b = w.heap.size := by simpa [blk, Value.ownBlock] using hb
        subst this
        exact ⟨by simp, Nat.le_refl _⟩
      cases a0 with
      | none =>
        have hr := run_append_nil (P := P) w t ty' e i z ht hi hz ad ys.length c news (by rw [hs]; exact hnl) hnc (by omega) (by omega) (by omega)
        exact ⟨_, _, hr, hE, hB, fun M' m => ⟨news, hgr, hnA.mv m⟩⟩
      | some ad0 =>
        have hr := run_append_grow (P := P) w t ty' e i z ht hi hz ad0 0 0 [] (by simp) (by intro j v hj; simp at hj) ad ys.length c news (by rw [hs]; exact hnl) hnc (by omega) (by omega) (growslice_fits (by omega) (by simpa using hb1))
        simp only [Nat.zero_add, Array.empty_append] at hr
        exact ⟨_, _, by simpa using hr, hE, hB, fun M' m => ⟨news, hgr, hnA.mv m⟩⟩


theorem run_appendO {α : Type} {A : Rep α} {M : Nat → Prop} {v u : Value} {x y : Operand} {t e : TypeId} {bytes : Nat} {z : Value} {R : List Nat} (ht : P.underlying t = some (.slice e)) (hti : TI P e A.n bytes z)
    (hzs : z.cells.size = A.n) (hpos : 0 < A.n) (hx : Opd E true x v) (hy : Opd E true y u)
    {xs ys : List α} (ho : Own A e M w v xs R) (hyr : SRd A M w u ys) (hM : ∀ b ∈ R, M b) (hroom : roomB (xs.length + ys.length) bytes = true) :
    ∃ v' R' w', RunW P E ⟨dst, .call ⟨.builtin .append, #[x, y], #[t, t]⟩, ty, pos, af, none⟩ w v' w' ∧ Chg R w w' ∧ (∀ b ∈ R', b < w'.heap.size ∧ (b ∈ R ∨ w.heap.size ≤ b)) ∧ ∀ M', Mv M w M' w' → Own A e M' w' v' (xs ++ ys) R' := by
  obtain ⟨i', hi', hs, hby, hz⟩ := hti.out
  subst hby
  rcases ho with ⟨rfl, ho⟩ | ⟨rfl, rfl, ⟨a0, rfl⟩, hr0⟩
  · obtain ⟨v', w', hr, hC, hR, hO⟩ := run_append_osl t ty e i' z ht hi' hz hs hzs ho hyr hM hroom hpos
    exact ⟨v', blk v', w', (fun n' a hf => by simp [execOp, resolve, invoke, builtin, hx n' a hf rfl, hy n' a hf rfl, hr]), hC, hR, fun M' m => Own.of (hO M' m)⟩
  · rcases run_append_empty t ty e i' z ht hi' hz hs hzs hr0 hyr (by simpa using hroom) with ⟨hr, rfl⟩ | ⟨v', w', hr, hE, hB, hO⟩
    · exact ⟨_, [], w, (fun n' a hf => by simp [execOp, resolve, invoke, builtin, hx n' a hf rfl, hy n' a hf rfl, hr]), (Ext.refl w).chg _, (fun b hb => by cases hb), fun M' m => Own.empty (hr0.mv m)⟩
    · exact ⟨v', blk v', w', (fun n' a hf => by simp [execOp, resolve, invoke, builtin, hx n' a hf rfl, hy n' a hf rfl, hr]), hE.chg _, (fun b hb => ⟨(hB b hb).1, .inr (hB b hb).2⟩), fun M' m => Own.of (by simpa using hO M' m)⟩

/-! make -/
theorem rep_flat (zs : List Value) : ∀ m j, j < m * zs.length → ((List.replicate m zs).flatten)[j]? = zs[j % zs.length]?
  | 0, j, h => by simp at h
  | m + 1, j, h => by
    rw [List.replicate_succ, List.flatten_cons]
    by_cases hjn : j < zs.length
    · rw [List.getElem?_append_left hjn, Nat.mod_eq_of_lt hjn]
    · have h1 : j - zs.length < m * zs.length := by rw [Nat.succ_mul] at h; omega
      rw [List.getElem?_append_right (by omega), rep_flat zs m _ h1, Nat.mod_eq_sub_mod (by omega : zs.length ≤ j)]
theorem made_flat (zs : List Value) (hpos : 0 < zs.length) (m : Nat) : ((Array.range (m * zs.length)).map (zs.toArray[· % zs.toArray.size]!)) = ((List.replicate m zs).flatten).toArray := by
  apply Array.toList_inj.1
  apply List.ext_getElem?
  intro j
  by_cases hj : j < m * zs.length
  · have hlt : j % zs.length < zs.length := Nat.mod_lt _ hpos
    rw [rep_flat zs m j hj]
    simp only [Array.toList_map, Array.toList_range, List.getElem?_map, List.getElem?_range hj, List.size_toArray, Option.map_some]
    rw [List.getElem?_eq_getElem hlt]
    simp [hlt]
  · have hlen : ((List.replicate m zs).flatten).length = m * zs.length := by simp
    rw [List.getElem?_eq_none (by simp; omega), List.getElem?_eq_none (by simp at hlen ⊢; omega)]
theorem RunW_make {α : Type} {A : Rep α} {x y : Operand} {t e : TypeId} {bytes : Nat} {z : Value} {k k' : IntKind} {l : Int} {zx : α} {zs : List Value} (ht : P.underlying t = some (.slice e)) (hti : TI P e A.n bytes z)
    (hz : z.cells = zs.toArray) (hzl : zs.length = A.n) (hpos : 0 < A.n) (hx : Opd E true x (.int k l)) (hy : Opd E true y (.int k' l)) (h0 : decide (0 ≤ l) = true) (hroom : roomB l.toNat bytes = true)
    (hzr : ∀ M w, A.rd M w zs zx) :
    ∃ w', RunW P E ⟨dst, .makeSlice t x y, ty, pos, af, none⟩ w (.slice (some ⟨w.heap.size, 0, none⟩) l.toNat l.toNat) w' ∧ Ext w w' ∧ w.heap.size < w'.heap.size ∧ ∀ M, OSl A e M w' (.slice (some ⟨w.heap.size, 0, none⟩) l.toNat l.toNat) (List.replicate l.toNat zx) := by
  obtain ⟨i', hi', hs, hby, hzz⟩ := hti.out
  subst hby
  simp only [roomB, Bool.and_eq_true] at hroom
  have hb1 := Nat.le_of_ble_eq_true hroom.1
  have hb2 := Nat.le_of_ble_eq_true hroom.2
  have h0' : 0 ≤ l := by simpa using h0
  have el : ((l.toNat : Nat) : Int) = l := by omega
  have hb' : (i'.bytes : Int) * l ≤ 281474976710656 := by
    have h1 : ((i'.bytes * l.toNat : Nat) : Int) ≤ 281474976710656 := by rw [Nat.mul_comm]; omega
    rwa [Int.natCast_mul, el] at h1
  have hr := run_make (P := P) w t e i' z ht hi' hzz k k' l l h0' (Int.le_refl _) hb' (by omega)
  have hARd : ∀ m M w', ARd A M w' ((List.replicate m zs).flatten) (List.replicate m zx) := by
    intro m M w'
    induction m with
    | zero => simpa using ARd.nil
    | succ m ih => rw [List.replicate_succ, List.flatten_cons, List.replicate_succ]; exact ARd.cons (hzr M w') ih
  have hobj : madeCells z.cells (l.toNat * i'.size) = ((List.replicate l.toNat zs).flatten).toArray := by
    rw [hz, hs, ← hzl, ← made_flat zs (by omega) l.toNat]; simp [madeCells]
  rw [hobj] at hr
  refine ⟨w.alloc (.cells ((List.replicate l.toNat zs).flatten).toArray e), (fun n' a hf => by simp [execOp, hx n' a hf rfl, hy n' a hf rfl, hr]), ext_alloc _ _, by simp, fun M => ?_⟩
  exact OSl.fresh (heap_alloc_new w _) (by simp) (by simpa using hb2) (hARd _ _ _)
end

/-! results in memory -/
section
variable {P : Program} {fn : Func} {S : Value → World → Prop} {Sp : List PanicEntry → World → Prop} {n : Nat} {E : Env} {w : World}
/-- what a result reads as -/
def ResIs (P : Program) (E : Env) (w : World) (r : ResultVar) (v : Value) : Prop :=
  match r with
  | .tmp t => look E t = some (true, v)
  | .cell p t => ∃ ad, look E p = some (true, .pointer (some ad)) ∧ (loadVar t ad).run P w = .ok v w
theorem ResIs.t {t : Tmp} {v : Value} (h : look E t = some (true, v)) : ResIs P E w (.tmp t) v := h
theorem ResIs.cA {p : Tmp} {t : TypeId} {ad : Addr} {d : TypeDesc} {size bytes : Nat} {z : Value} {vs : List Value} (h : look E p = some (true, .pointer (some ad))) (ht : P.underlying t = some d) (hd : aggT d = true)
    (hti : TI P t size bytes z) (hc : CellsAt w ad vs) (hl : vs.length = size) : ResIs P E w (.cell p t) (.agg vs.toArray) := ⟨ad, h, run_loadA ht hd hti hc hl⟩
theorem ResIs.c1 {p : Tmp} {t : TypeId} {ad : Addr} {d : TypeDesc} {v : Value} {vs : List Value} (h : look E p = some (true, .pointer (some ad))) (ht : P.underlying t = some d) (hd : aggT d = false)
    (hc : CellsAt w ad vs) (h0 : vs[0]? = some v) : ResIs P E w (.cell p t) v := ⟨ad, h, run_load1 ht hd (hc.cell0 h0)⟩

def resOf (a : Act) (r : ResultVar) : Sem Value :=
  match r with
  | .tmp t => pure (a.tmps.getD t undef)
  | .cell p t => do loadVar t (← asAddr (a.tmps.getD p undef))
theorem ResIs.run {r : ResultVar} {v : Value} (hr : ResIs P E w r v) {a : Act} (hf : Fits n E a) : (resOf a r).run P w = .ok v w := by
  cases r with
  | tmp t => have := hf.at_ t true v hr; simp [resOf, this, gval]
  | cell p t =>
    obtain ⟨ad, hl, hrun⟩ := hr
    have := hf.at_ p true _ hl
    simp [resOf, this, gval, asAddr, hrun]
theorem results_of (fn : Func) (a : Act) : results fn a.tmps = (do let vs ← fn.results.mapM (resOf a); pure (if h : vs.size = 1 then vs[0] else .tuple vs)) := rfl

theorem At_r {vs : List Value} (_hr : fn.results.toList.length = vs.length) (h : ∀ a, Fits n E a → (fn.results.mapM (resOf a)).run P w = .ok vs.toArray w) {v : Value} (hv : (if h : vs.length = 1 then vs[0] else .tuple vs.toArray) = v) (hS : S v w) :
    At (BP P fn S Sp) .ret n [] E w := fun a hf hd => by
  show LeavesInM _ _ _ _ _ _ a.defers _ _
  rw [hd]
  refine ⟨v, ?_, hS⟩
  rw [results_of]
  simp only [Sem.run_bind, h a hf, Result.andThen_ok, Sem.run_pure]
  subst hv
  simp
theorem At_r0 (hr : fn.results = #[]) (hS : S (.tuple #[]) w) : At (BP P fn S Sp) .ret n [] E w :=
  At_r (vs := []) (by rw [hr]; rfl) (fun a hf => by rw [hr]; simp) (by simp) hS
theorem At_e0 (hr : fn.results = #[]) (hS : S (.tuple #[]) w) : At (BP P fn S Sp) .normal n [] E w := At_r0 (n := n) (E := E) hr hS
theorem At_r1 {r : ResultVar} {v : Value} (hr : fn.results = #[r]) (h1 : ResIs P E w r v) (hS : S v w) : At (BP P fn S Sp) .ret n [] E w :=
  At_r (vs := [v]) (by rw [hr]; rfl) (fun a hf => by rw [hr]; simp [h1.run hf]) (by simp) hS
theorem At_r2 {r r2 : ResultVar} {v v2 : Value} (hr : fn.results = #[r, r2]) (h1 : ResIs P E w r v) (h2 : ResIs P E w r2 v2) (hS : S (.tuple #[v, v2]) w) : At (BP P fn S Sp) .ret n [] E w :=
  At_r (vs := [v, v2]) (by rw [hr]; rfl) (fun a hf => by rw [hr]; simp [h1.run hf, h2.run hf]) (by simp) hS
theorem At_r3 {r r2 r3 : ResultVar} {v v2 v3 : Value} (hr : fn.results = #[r, r2, r3]) (h1 : ResIs P E w r v) (h2 : ResIs P E w r2 v2) (h3 : ResIs P E w r3 v3) (hS : S (.tuple #[v, v2, v3]) w) : At (BP P fn S Sp) .ret n [] E w :=
  At_r (vs := [v, v2, v3]) (by rw [hr]; rfl) (fun a hf => by rw [hr]; simp [h1.run hf, h2.run hf, h3.run hf]) (by simp) hS
theorem At_r4 {r r2 r3 r4 : ResultVar} {v v2 v3 v4 : Value} (hr : fn.results = #[r, r2, r3, r4]) (h1 : ResIs P E w r v) (h2 : ResIs P E w r2 v2) (h3 : ResIs P E w r3 v3) (h4 : ResIs P E w r4 v4) (hS : S (.tuple #[v, v2, v3, v4]) w) : At (BP P fn S Sp) .ret n [] E w :=
  At_r (vs := [v, v2, v3, v4]) (by rw [hr]; rfl) (fun a hf => by rw [hr]; simp [h1.run hf, h2.run hf, h3.run hf, h4.run hf]) (by simp) hS
/-- a panic that leaves the function -/
theorem At_pan {c : List PanicEntry} (hS : Sp c w) : At (BP P fn S Sp) (.panic c) n [] E w := fun a hf hd => by
  show LeavesInM _ _ _ _ _ _ a.defers _ _
  rw [hd]
  exact hS
/-- the mark of a range over a function -/
theorem At_mark {k : Nat} {D : List Deferred} {e : Exit} (he : e = .ret ∨ e = .normal) (hk : w.heap[k]? = some (.deferred (some []))) (h : At (BP P fn S Sp) e n D E (w.putObj k (.deferred none))) :
    At (BP P fn S Sp) e n ({ target := .collected k, args := #[] } :: D) E w := fun a hf hd => by
  have h2 := h { a with defers := D } ⟨hf.size, hf.at_⟩ rfl
  rcases he with rfl | rfl <;>
  · show LeavesInM _ _ _ _ _ _ a.defers _ _
    rw [hd]
    exact ⟨by simp, .inl ⟨k, _, rfl, run_takeDeferred hk, h2⟩⟩
end
end Go.Proofs.YtmeombbmhpcacaaDoor
