/-
  Proved here: the statement DfaTails: whatever the input, the law answers true, and its arguments read as before. No condition. (The frame was printed by a program.)
-/
import Derived.Test.YtjappdgehmjomaaRows
import Derived.Test.YtjappdgehmjomaaWalk17
import Derived.Test.YtjappdgehmjomaaDfaTailsQ
import Derived.Test.YtjappdgehmjomaaKSl
import Derived.WalkKit
import Derived.ProofKit
import Derived.OpenShut
import Derived.ShutString
import Derived.ChangeOld
import Derived.Below
namespace Go.Proofs.Ytjappdgehmjomaa.dfaTails
open Go.ChangeShapes Go.WideShapes Go.ChangeAt Go.RowKit
open Go.ChangeMaps (open_string shut_string)

theorem own : ownKnob Try.prog.godebug = none := by kernel_rfl

theorem walk (a0 : List (List Int)) (u0 : SLV) (a1 : List (List Int)) (u1 : SLV) (w : World) (x0 : SRd (RSl (RI .u8)) (fun _ => False) w (sl u0) a0) (w0 : ∀ v ∈ a0, ∀ b ∈ v, 0 ≤ b ∧ b < 256) (x1 : SRd (RSl (RI .u8)) (fun _ => False) w (sl u1) a1) (w1 : ∀ v ∈ a1, ∀ b ∈ v, 0 ≤ b ∧ b < 256) :
    Calls Try.prog 7 #[sl u0, sl u1] w fun e w' => e = .returned (.bool true) ∧ Below w.heap.size w w' := by
  have t0 := sat_start w
  have n0 := noM_start w
  have t1 := t0.add (new := imm (RSl (RSl (RI .u8))) [sl u1] a1) rfl (x1.mv (mv_start n0)).rsl
  have n1 : NoM _ := noM_cons (it := imm (RSl (RSl (RI .u8))) [sl u1] a1) rfl n0
  have t2 := t1.add (new := imm (RSl (RSl (RI .u8))) [sl u0] a0) rfl (x0.mv (mv_start n1)).rsl
  have n2 : NoM _ := noM_cons (it := imm (RSl (RSl (RI .u8))) [sl u0] a0) rfl n1
  refine Calls.mono (scrutinylaw09_DfaTails_ok t2 (Df.tails_true a0 a1 w0 w1)) ?_
  intro e w' h
  cases e with
  | returned v => exact ⟨by rw [h.1], below_end (i := 0) h.2 rfl⟩
  | panicked c => exact h.elim
  | outgrown => exact h.elim

theorem laidOut : laidOutB Try.prog = true := by kernel_rfl
set_option maxRecDepth 100000 in
theorem lifted (os : Os) (started : os.Started) (H : Type) (enc : TypeId × Value → H) :
    ReturnsInHanded {} Try.checked os 7 .any (Rows.dfaTailsSpec.pre6 enc Try.prog Try.f7 Rows.dfaTailsRow.domain false) (Rows.dfaTailsSpec.post enc Try.prog Try.f7 false true false false) := by
  refine returnsInHanded_of_change (C := Try.checked) own started (by kernel_rfl) Try.func7
    (ChangeSpec.witness6 (enc := enc) (C := Try.checked) false ⟨#[], #[.slice none 0 0, .slice none 0 0], []⟩ 8 (by kernel_rfl) (by kernel_rfl) (by kernel_rfl) (by kernel_rfl)) ?_
  intro W base args ds gs before hval0 hW hcnd _
  have hval : ∀ (j : Nat) t v, Try.f7.params[j]? = some t → args[j]? = some v → Value.okWide Try.prog W .any base t v := hval0
  have hW' := hW
  obtain ⟨p, q, hA0, hV, rfl, hfz, hnd⟩ := hW
  have hA : DataW.TrodAll enc Try.prog W 0 (fun _ => true) true Try.f7.params.toList args.toList ds p := hA0
  rw [Try.params7] at hA hval
  obtain ⟨v0, vs0, d0, ds0, p0, q0, hargs, rfl, rfl, h0, r0⟩ := trodAll_cons hA
  obtain ⟨v1, vs1, d1, ds1, p1, q1, rfl, rfl, rfl, h1, r1⟩ := trodAll_cons r0
  obtain ⟨rfl, rfl, rfl⟩ := trodAll_nil r1
  obtain rfl : args = #[v0, v1] := by cases args; simp_all
  obtain ⟨rfl, rfl⟩ := trodVars_none hV
  have y0 : v0.cells.toList = [v0] := okWide_sl Try.underlying22 (hval 0 22 v0 rfl rfl)
  have hw0 : ∀ z ∈ p0, z.block < W.heap.size := fun z hz => by simpa using hW'.lt z (by simp [hz])
  have k0 := h0
  obtain ⟨fu0, hf0⟩ := h0
  rw [y0] at hf0
  obtain ⟨u0, a0, hv0, x0, w0⟩ := rows_of_trod Try.underlying22 (by kernel_rfl) Try.underlying23 Try.underlying5 (by kernel_rfl) _ _ _ hf0
  obtain rfl : v0 = sl u0 := by simpa using hv0
  have y1 : v1.cells.toList = [v1] := okWide_sl Try.underlying22 (hval 1 22 v1 rfl rfl)
  have hw1 : ∀ z ∈ p1, z.block < W.heap.size := fun z hz => by simpa using hW'.lt z (by simp [hz])
  have k1 := h1
  obtain ⟨fu1, hf1⟩ := h1
  rw [y1] at hf1
  obtain ⟨u1, a1, hv1, x1, w1⟩ := rows_of_trod Try.underlying22 (by kernel_rfl) Try.underlying23 Try.underlying5 (by kernel_rfl) _ _ _ hf1
  obtain rfl : v1 = sl u1 := by simpa using hv1
  clear hA0 hval0
  refine (walk a0 u0 a1 u1 W x0 w0 x1 w1).mono fun e W' ⟨he, bel⟩ => ?_
  subst he
  exact ⟨_, rfl, _, _, _, [], _, [], hW', trodAll_mk1 (shut_bool Try.underlying4 _), (trodAll_cons_mk (Below.trod laidOut (by kernel_rfl) (of_decide_eq_true (by kernel_rfl)) k0 bel hw0) (trodAll_cons_mk (Below.trod laidOut (by kernel_rfl) (of_decide_eq_true (by kernel_rfl)) k1 bel hw1) trodAll_mk0)), rfl, bel.frame _, fun h => by cases h⟩

theorem over : Rows.dfaTailsRow.holds Try.pinned (OpenSpec.ofChange Rows.dfaTailsSpec) :=
  OpenClaim.holds_of_wide 7 Try.f7 rfl rfl rfl rfl rfl rfl rfl ⟨rfl, rfl, rfl, rfl, rfl⟩ rfl rfl rfl rfl rfl (by kernel_rfl) Try.func7 (by kernel_rfl)
    (of_decide_eq_true (by kernel_rfl)) (by unfold Func.isWrapper; first | (rw [if_pos (by decide +kernel)]; kernel_rfl) | (rw [if_neg (by decide +kernel)]; exact ⟨rfl, rfl⟩))
    (fun os started H enc _ => lifted os started H enc)

theorem proved : Rows.DfaTailsSaid := over
#print axioms proved
end Go.Proofs.Ytjappdgehmjomaa.dfaTails
