/-
  Own framework: a row of whole numbers among the arguments; the parts of a struct's cells.
-/
import Derived.Test.YtmeombbmhpcacaaDoorKFx
import Derived.ChangeSlices
namespace Go.Proofs.YtmeombbmhpcacaaDoor
open Go.Lib Go.ChangeAt Go.ChangeShapes Go.WideShapes Go.RowKit

theorem drop_cut (l : List Value) (a n : Nat) : l.drop a = (l.drop a).take n ++ l.drop (a + n) := by
  rw [← List.drop_drop]; exact (List.take_append_drop ..).symm

theorem ints_of_trod {H : Type} {enc : TypeId × Value → H} {P : Program} {W : World} {t e : TypeId} {k : IntKind} {fuel : Nat} {cs : List Value} {x : DataW H × List MemPlace}
    (ht : P.underlying t = some (.slice e)) (he : P.underlying e = some (.int k)) (hc : P.cellsOf e = 1) (h : DataW.trod enc P W 0 (fun _ => true) true fuel t cs = some x) :
    ∃ (u : SLV) (zs : List Int), cs = [sl u] ∧ SRd (RI k) (fun _ => False) W (sl u) zs := by
  rcases open_ints ht he hc h with ⟨rfl, _⟩ | ⟨a, len, cap, zs, rfl, _, hlc, _, hz, _, hcell, _⟩
  · exact ⟨(none, 0, 0), [], rfl, SRd.nil⟩
  · simp only [if_true] at hz
    by_cases h0 : cap = 0
    · subst h0
      obtain rfl : len = 0 := by omega
      exact ⟨(some a, 0, 0), [], rfl, SRd.emp⟩
    · have h00 := hcell 0 (by omega)
      obtain ⟨hs, cs', e', fr, hblk, _⟩ := cell_block h00
      have hs' : a.spot = none := by simpa [Addr.add] using hs
      have hblk' : W.heap[a.block]? = some (.cells cs' e' fr) := by simpa [Addr.add] using hblk
      obtain ⟨b, off, sp⟩ := a
      simp only at hs' hblk'
      subst hs'
      have at_ : ∀ i, (⟨b, off, none⟩ : Addr).add i = ⟨b, off + i, none⟩ := fun i => by
        unfold Addr.add; split <;> simp_all
      have cellx : ∀ i, i < cap → cs'[off + i]? = some (.int k (zs.getD i 0)) := fun i hi => by
        have := hcell i (by omega)
        rw [at_] at this
        simpa [World.cell?, hblk'] using this
      have hsize : off + cap ≤ cs'.size := by
        have := (Array.getElem?_eq_some_iff.1 (cellx (cap - 1) (by omega))).1
        omega
      have hll : (zs.take len).length = len := by rw [List.length_take]; omega
      refine ⟨(some ⟨b, off, none⟩, len, cap), zs.take len, rfl, .inr ⟨b, off, cap, cs', e', fr, by rw [hll]; rfl, (fun h => h), hblk', by omega, by show off + cap * 1 ≤ _; omega, ?_⟩⟩
      rw [hll]
      show ARd (RI k) _ W ((cs'.toList.drop off).take (len * 1)) _
      rw [Nat.mul_one]
      refine ⟨?_, fun i hi => ?_⟩
      · rw [hll]
        simp only [List.length_take, List.length_drop, Array.length_toList, RI]
        omega
      · rw [hll] at hi
        show ((List.drop (i * 1) ((cs'.toList.drop off).take len)).take 1) = [.int k _]
        rw [Nat.mul_one]
        have h1 := cellx i (by omega)
        have h2 : ((cs'.toList.drop off).take len)[i]? = some (.int k (zs.getD i 0)) := by
          rw [List.getElem?_take, if_pos hi, List.getElem?_drop]
          simpa using h1
        obtain ⟨hi2, h3⟩ := List.getElem?_eq_some_iff.1 h2
        have h4 : (zs.take len)[i]'(by rw [hll]; exact hi) = zs.getD i 0 := by
          rw [List.getElem_take]
          simp [List.getD, List.getElem?_eq_getElem (show i < zs.length by omega)]
        rw [h4, List.drop_eq_getElem_cons hi2, h3]
        rfl
end Go.Proofs.YtmeombbmhpcacaaDoor
