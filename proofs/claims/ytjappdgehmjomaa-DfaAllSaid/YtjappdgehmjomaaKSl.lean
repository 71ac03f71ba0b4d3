/-
  Own framework: slices among the arguments: bytes, and rows of bytes.
-/
import Derived.Test.YtjappdgehmjomaaKFr
import Derived.Carry
import Derived.ChangeSlices
namespace Go.Proofs.Ytjappdgehmjomaa
open Go.Lib Go.ChangeAt Go.ChangeShapes Go.WideShapes Go.RowKit

theorem cell_of {w : World} {a : Addr} {v : Value} (h : w.cell? a = some v) : a.spot = none ∧ ∃ cs e fr, w.heap[a.block]? = some (.cells cs e fr) ∧ cs[a.off]? = some v := by
  unfold World.cell? at h
  split at h
  · rename_i cs e fr hb
    split at h
    · cases h
    · rename_i hs
      exact ⟨by simpa using hs, cs, e, fr, hb, h⟩
  · cases h
theorem choose_all {Y α : Type} (R : Nat → Y → α → Prop) : ∀ (ys : List Y), (∀ i y, ys[i]? = some y → ∃ e, R i y e) → ∃ l : List α, l.length = ys.length ∧ ∀ i y e, ys[i]? = some y → l[i]? = some e → R i y e
  | [], _ => ⟨[], rfl, fun i y e h => by simp at h⟩
  | y :: ys, h => by
    obtain ⟨e, he⟩ := h 0 y rfl
    obtain ⟨l, hl, hr⟩ := choose_all (fun i => R (i + 1)) ys (fun i y hy => h (i + 1) y (by simpa using hy))
    refine ⟨e :: l, by simp [hl], fun i y' e' hy hx => ?_⟩
    cases i with
    | zero =>
      simp only [List.getElem?_cons_zero, Option.some.injEq] at hy hx
      subst hy; subst hx; exact he
    | succ i => exact hr i y' e' (by simpa using hy) (by simpa using hx)

/-- a slice that is read among the arguments -/
theorem slice_of_trod {H α : Type} {enc : TypeId × Value → H} {P : Program} {W : World} {t e : TypeId} {A : Rep α} {Q : α → Prop} (ht : P.underlying t = some (.slice e)) (hc : P.cellsOf e = 1) (hA : A.n = 1)
    (he : ∀ (fuel : Nat) (us : List Value) (y : DataW H × List MemPlace), DataW.trod enc P W 0 (fun _ => true) true fuel e us = some y → ∃ z, A.rd (fun _ => False) W us z ∧ Q z)
    (fuel : Nat) (cs : List Value) (x : DataW H × List MemPlace) (h : DataW.trod enc P W 0 (fun _ => true) true fuel t cs = some x) :
    ∃ (u : SLV) (zs : List α), cs = [sl u] ∧ SRd A (fun _ => False) W (sl u) zs ∧ ∀ z ∈ zs, Q z := by
  rcases DataW.trod_slice ht h with ⟨h3, _⟩ | ⟨a, len, cap, elems, rest, m, rfl, h3, _, _, hlc, _, hlen, hel, hsp, _⟩
  · exact ⟨(none, 0, 0), [], h3, SRd.nil, by simp⟩
  · obtain ⟨hrl, hre⟩ := hsp rfl
    rw [hc] at hel hre
    have cell : ∀ i, i < cap → ∃ us y, us.length = 1 ∧ W.cell? (a.add i) = us[0]? ∧ DataW.trod enc P W 0 (fun _ => true) true m e us = some y ∧ (i < len → elems[i]? = some y) := fun i hi => by
      by_cases hil : i < len
      · obtain ⟨y, hy⟩ : ∃ y, elems[i]? = some y := ⟨elems[i]'(by omega), List.getElem?_eq_getElem _⟩
        have := hel i hil
        rw [hy, Option.bind_eq_some_iff, Nat.mul_one] at this
        obtain ⟨us, h1, h2⟩ := this
        obtain ⟨_, h3, h4⟩ := World.cells?_some h1
        have h4 := h4 0 (by omega)
        exact ⟨us, y, h3, by simpa [Addr.add] using h4, h2, fun _ => hy⟩
      · obtain ⟨y, hy⟩ : ∃ y, rest[i - len]? = some y := ⟨rest[i - len]'(by omega), List.getElem?_eq_getElem _⟩
        have := hre (i - len) (by omega)
        rw [hy, Option.bind_eq_some_iff, Nat.mul_one, show len + (i - len) = i by omega] at this
        obtain ⟨us, h1, h2⟩ := this
        obtain ⟨_, h3, h4⟩ := World.cells?_some h1
        have h4 := h4 0 (by omega)
        exact ⟨us, y, h3, by simpa [Addr.add] using h4, h2, fun h => absurd h hil⟩
    by_cases hcap : cap = 0
    · subst hcap
      obtain rfl : len = 0 := by omega
      exact ⟨(some a, 0, 0), [], h3, SRd.emp, by simp⟩
    · obtain ⟨us0, _, hl0, hc0, _⟩ := cell 0 (by omega)
      rw [List.getElem?_eq_getElem (by omega)] at hc0
      obtain ⟨hs, cs', e', fr, hblk, _⟩ := cell_of hc0
      have hs' : a.spot = none := by simpa [Addr.add] using hs
      have hblk' : W.heap[a.block]? = some (.cells cs' e' fr) := by simpa [Addr.add] using hblk
      obtain ⟨b, off, sp⟩ := a
      simp only at hs' hblk'
      subst hs'
      have at_ : ∀ i, (⟨b, off, none⟩ : Addr).add i = ⟨b, off + i, none⟩ := fun i => by
        unfold Addr.add; split <;> simp_all
      have cellx : ∀ i, i < cap → ∃ us y, us.length = 1 ∧ cs'[off + i]? = us[0]? ∧ DataW.trod enc P W 0 (fun _ => true) true m e us = some y ∧ (i < len → elems[i]? = some y) := fun i hi => by
        obtain ⟨us, y, h3, h4, h5, h6⟩ := cell i hi
        refine ⟨us, y, h3, ?_, h5, h6⟩
        rw [at_] at h4
        simpa [World.cell?, hblk'] using h4
      have hsize : off + cap ≤ cs'.size := by
        obtain ⟨us, _, h3, h4, _⟩ := cellx (cap - 1) (by omega)
        rw [List.getElem?_eq_getElem (by omega)] at h4
        have := (Array.getElem?_eq_some_iff.1 h4).1
        omega
      have hel' : ∀ i y, elems[i]? = some y → ∃ z, (A.rd (fun _ => False) W (((cs'.toList.drop off).drop i).take 1) z ∧ Q z) := fun i y hy => by
        have hi : i < len := by rw [← hlen]; exact (List.getElem?_eq_some_iff.1 hy).1
        obtain ⟨us, y', h3, h4, h5, h6⟩ := cellx i (by omega)
        have hus : ((cs'.toList.drop off).drop i).take 1 = us := by
          apply List.ext_getElem?
          intro j
          by_cases hj : j < 1
          · obtain rfl : j = 0 := by omega
            rw [List.getElem?_take, if_pos hj, List.getElem?_drop, List.getElem?_drop, ← h4]
            simp
          · rw [List.getElem?_take, if_neg hj, List.getElem?_eq_none (by omega)]
        rw [hus]
        exact he m us y' h5
      obtain ⟨l, hll, hR⟩ := choose_all (fun i y z => A.rd (fun _ => False) W (((cs'.toList.drop off).drop i).take 1) z ∧ Q z) elems hel'
      have hll' : l.length = len := by omega
      have get : ∀ i (hi : i < l.length), A.rd (fun _ => False) W (((cs'.toList.drop off).drop i).take 1) l[i] ∧ Q l[i] := fun i hi => by
        obtain ⟨y, hy⟩ : ∃ y, elems[i]? = some y := ⟨elems[i]'(by omega), List.getElem?_eq_getElem _⟩
        exact hR i y l[i] hy (List.getElem?_eq_getElem _)
      refine ⟨(some ⟨b, off, none⟩, len, cap), l, h3, .inr ⟨b, off, cap, cs', e', fr, by rw [hll']; rfl, (fun h => h), hblk', by omega, by rw [hA]; omega, ?_⟩, fun z hz => ?_⟩
      · rw [hA, Nat.mul_one]
        refine ⟨?_, fun i hi => ?_⟩
        · rw [hA]
          simp only [List.length_take, List.length_drop, Array.length_toList]
          omega
        · rw [hA, Nat.mul_one, List.drop_take, List.take_take, show min 1 (l.length - i) = 1 by omega]
          exact (get i hi).1
      · obtain ⟨i, hi, rfl⟩ := List.getElem_of_mem hz
        exact (get i hi).2
theorem bytes_of_trod {H : Type} {enc : TypeId × Value → H} {P : Program} {W : World} {t e : TypeId} (ht : P.underlying t = some (.slice e)) (he : P.underlying e = some (.int .u8)) (hc : P.cellsOf e = 1)
    (fuel : Nat) (cs : List Value) (x : DataW H × List MemPlace) (h : DataW.trod enc P W 0 (fun _ => true) true fuel t cs = some x) :
    ∃ (u : SLV) (zs : List Int), cs = [sl u] ∧ SRd (RI .u8) (fun _ => False) W (sl u) zs ∧ ∀ z ∈ zs, 0 ≤ z ∧ z < 256 :=
  slice_of_trod (A := RI .u8) (Q := fun z => 0 ≤ z ∧ z < 256) ht hc rfl (fun fuel us y h => by
    obtain ⟨n, h1, _, h3⟩ := DataW.trod_int he h
    refine ⟨n, h1, ?_⟩
    have h := h3
    simp only [Lit.wf, Bool.and_eq_true, decide_eq_true_eq] at h
    exact ⟨h.1, Int.lt_of_le_of_lt h.2 (by decide)⟩) fuel cs x h
theorem rows_of_trod {H : Type} {enc : TypeId × Value → H} {P : Program} {W : World} {t e e' : TypeId} (ht : P.underlying t = some (.slice e)) (hc : P.cellsOf e = 1) (he : P.underlying e = some (.slice e')) (he' : P.underlying e' = some (.int .u8)) (hc' : P.cellsOf e' = 1)
    (fuel : Nat) (cs : List Value) (x : DataW H × List MemPlace) (h : DataW.trod enc P W 0 (fun _ => true) true fuel t cs = some x) :
    ∃ (u : SLV) (zs : List (List Int)), cs = [sl u] ∧ SRd (RSl (RI .u8)) (fun _ => False) W (sl u) zs ∧ ∀ z ∈ zs, ∀ b ∈ z, 0 ≤ b ∧ b < 256 :=
  slice_of_trod (A := RSl (RI .u8)) (Q := fun z => ∀ b ∈ z, 0 ≤ b ∧ b < 256) ht hc rfl (fun fuel us y h => by
    obtain ⟨u, zs, h1, h2, h3⟩ := bytes_of_trod he he' hc' fuel us y h
    exact ⟨zs, ⟨u, h1, h2⟩, h3⟩) fuel cs x h
theorem okWide_sl {P : Program} {w : World} {base : Nat} {t e : TypeId} {v : Value} (ht : P.underlying t = some (.slice e)) (h : Value.okWide P w .any base t v) : v.cells.toList = [v] := by
  obtain ⟨a, len, cap, rfl⟩ := okWide_slice ht h
  rfl
end Go.Proofs.Ytjappdgehmjomaa
