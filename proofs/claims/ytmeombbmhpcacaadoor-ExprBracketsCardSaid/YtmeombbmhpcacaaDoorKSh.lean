/- The kit's contract of strconv.Itoa, laid at this program. -/
import Derived.Test.YtmeombbmhpcacaaDoorModel
import Derived.Test.YtmeombbmhpcacaaDoorProg
import Derived.Shelf.Strconv.Itoa3
import Derived.Test.YtmeombbmhpcacaaDoorKLay
namespace Go.Proofs.YtmeombbmhpcacaaDoor
open Go.Proofs Go.Shelf

theorem itoa_ok {Γ : Ctx} {w : World} {i : Nat} {n : Int} (hs : Sat Γ w) (hi : Γ[i]? = some (gl 2 (pow10L.map (Value.int .u64)))) (hn : i64B n = true) :
    CallsR Tryd.prog 36 [.int .i64 n] w (fun v w' => v = S (Lib.itoa n) ∧ Sat Γ w') := by
  obtain ⟨h0, h1⟩ := i64B_iff.1 hn
  obtain ⟨_, t, fr, hb⟩ := hs.gl0 hi
  have htab : Lib.TabIs Tryd.prog w "internal/strconv.uint64pow10" .u64 Lib.pow10Tab := by
    have hg : Tryd.prog.globalNamed "internal/strconv.uint64pow10" = some 2 := by kernel_rfl
    have e : Lib.pow10Tab = pow10L := by decide +kernel
    unfold Lib.TabIs World.var?
    rw [hg, e]
    simp [hb]
  refine Calls.mono (Any.strconv_Itoa Tryd.laysItoa n h0 h1 w htab) ?_
  rintro e w' ⟨rfl, k, os, rfl⟩
  refine ⟨rfl, hs.ext ⟨rfl, rfl, rfl, ?_, fun b hb => ?_⟩⟩
  · simp [Sort.grow, World.drewN]
  · simp [Sort.grow, World.drewN, Array.getElem?_append, hb]
end Go.Proofs.YtmeombbmhpcacaaDoor
