/-
  Proved here: the statement DfaTells: whatever the input, the law answers true, and its arguments read as before. No condition. (The frame was printed by a program.)
-/
import Derived.Test.YtjappdgehmjomaaRows
import Derived.Test.YtjappdgehmjomaaWalk12
import Derived.Test.YtjappdgehmjomaaDfaTellsP
import Derived.Test.YtjappdgehmjomaaKSl
import Derived.WalkKit
import Derived.ProofKit
import Derived.OpenShut
import Derived.ShutString
import Derived.ChangeOld
import Derived.Below
namespace Go.Proofs.Ytjappdgehmjomaa.dfaTells
open Go.ChangeShapes Go.WideShapes Go.ChangeAt Go.RowKit
open Go.ChangeMaps (open_string shut_string)

theorem own : ownKnob Try.prog.godebug = none := by kernel_rfl

theorem walk (a0 : Int) (a1 : List (List Int)) (u1 : SLV) (a2 : List Int) (u2 : SLV) (w : World) (w0 : -9223372036854775808 ≤ a0 ∧ a0 ≤ 9223372036854775807) (x1 : SRd (RSl (RI .u8)) (fun _ => False) w (sl u1) a1) (w1 : ∀ v ∈ a1, ∀ b ∈ v, 0 ≤ b ∧ b < 256) (x2 : SRd (RI .u8) (fun _ => False) w (sl u2) a2) (w2 : ∀ b ∈ a2, 0 ≤ b ∧ b < 256) :
    Calls Try.prog 3 #[.int .i64 a0, sl u1, sl u2] w fun e w' => e = .returned (.bool true) ∧ Below w.heap.size w w' := by
  have t0 := sat_start w
  have n0 := noM_start w
  have t1 := t0.add (new := imm (RSl (RI .u8)) [sl u2] a2) rfl (x2.mv (mv_start n0)).rsl
  have n1 : NoM _ := noM_cons (it := imm (RSl (RI .u8)) [sl u2] a2) rfl n0
  have t2 := t1.add (new := imm (RSl (RSl (RI .u8))) [sl u1] a1) rfl (x1.mv (mv_start n1)).rsl
  have n2 : NoM _ := noM_cons (it := imm (RSl (RSl (RI .u8))) [sl u1] a1) rfl n1
  refine Calls.mono (scrutinylaw09_DfaTells_ok t2 (Df.tells_true a0 a1 a2 w0 w1 w2)) ?_
  intro e w' h
  cases e with
  | returned v => exact ⟨by rw [h.1], below_end (i := 0) h.2 rfl⟩
  | panicked c => exact h.elim
  | outgrown => exact h.elim

theorem laidOut : laidOutB Try.prog = true := by kernel_rfl
set_option maxRecDepth 100000 in
theorem lifted (os : Os) (started : os.Started) (H : Type) (enc : TypeId × Value → H) :
    ReturnsInHanded {} Try.checked os 3 .any (Rows.dfaTellsSpec.pre6 enc Try.prog Try.f3 Rows.dfaTellsRow.domain false) (Rows.dfaTellsSpec.post enc Try.prog Try.f3 false true false false) := by
  refine returnsInHanded_of_change (C := Try.checked) own started (by kernel_rfl) Try.func3
    (ChangeSpec.witness6 (enc := enc) (C := Try.checked) false ⟨#[], #[.int .i64 0, .slice none 0 0, .slice none 0 0], []⟩ 8 (by kernel_rfl) (by kernel_rfl) (by kernel_rfl) (by kernel_rfl)) ?_
  intro W base args ds gs before hval0 hW hcnd _
  have hval : ∀ (j : Nat) t v, Try.f3.params[j]? = some t → args[j]? = some v → Value.okWide Try.prog W .any base t v := hval0
  have hW' := hW
  obtain ⟨p, q, hA0, hV, rfl, hfz, hnd⟩ := hW
  have hA : DataW.TrodAll enc Try.prog W 0 (fun _ => true) true Try.f3.params.toList args.toList ds p := hA0
  rw [Try.params3] at hA hval
  obtain ⟨v0, vs0, d0, ds0, p0, q0, hargs, rfl, rfl, h0, r0⟩ := trodAll_cons hA
  obtain ⟨v1, vs1, d1, ds1, p1, q1, rfl, rfl, rfl, h1, r1⟩ := trodAll_cons r0
  obtain ⟨v2, vs2, d2, ds2, p2, q2, rfl, rfl, rfl, h2, r2⟩ := trodAll_cons r1
  obtain ⟨rfl, rfl, rfl⟩ := trodAll_nil r2
  obtain rfl : args = #[v0, v1, v2] := by cases args; simp_all
  obtain ⟨rfl, rfl⟩ := trodVars_none hV
  obtain ⟨a0, rfl, rfl, rfl, w0⟩ := open_int Try.underlying3 (hval 0 3 v0 rfl rfl) h0
  have y1 : v1.cells.toList = [v1] := okWide_sl Try.underlying22 (hval 1 22 v1 rfl rfl)
  have hw1 : ∀ z ∈ p1, z.block < W.heap.size := fun z hz => by simpa using hW'.lt z (by simp [hz])
  have k1 := h1
  obtain ⟨fu1, hf1⟩ := h1
  rw [y1] at hf1
  obtain ⟨u1, a1, hv1, x1, w1⟩ := rows_of_trod Try.underlying22 (by kernel_rfl) Try.underlying23 Try.underlying5 (by kernel_rfl) _ _ _ hf1
  obtain rfl : v1 = sl u1 := by simpa using hv1
  have y2 : v2.cells.toList = [v2] := okWide_sl Try.underlying23 (hval 2 23 v2 rfl rfl)
  have hw2 : ∀ z ∈ p2, z.block < W.heap.size := fun z hz => by simpa using hW'.lt z (by simp [hz])
  have k2 := h2
  obtain ⟨fu2, hf2⟩ := h2
  rw [y2] at hf2
  obtain ⟨u2, a2, hv2, x2, w2⟩ := bytes_of_trod Try.underlying23 Try.underlying5 (by kernel_rfl) _ _ _ hf2
  obtain rfl : v2 = sl u2 := by simpa using hv2
  clear hA0 hval0
  refine (walk a0 a1 u1 a2 u2 W (by have h := w0; simp only [Lit.wf, Bool.and_eq_true, decide_eq_true_eq] at h; exact h) x1 w1 x2 w2).mono fun e W' ⟨he, bel⟩ => ?_
  subst he
  exact ⟨_, rfl, _, _, _, [], _, [], hW', trodAll_mk1 (shut_bool Try.underlying4 _), (trodAll_cons_mk (shut_int Try.underlying3 w0) (trodAll_cons_mk (Below.trod laidOut (by kernel_rfl) (of_decide_eq_true (by kernel_rfl)) k1 bel hw1) (trodAll_cons_mk (Below.trod laidOut (by kernel_rfl) (of_decide_eq_true (by kernel_rfl)) k2 bel hw2) trodAll_mk0))), rfl, bel.frame _, fun h => by cases h⟩

theorem over : Rows.dfaTellsRow.holds Try.pinned (OpenSpec.ofChange Rows.dfaTellsSpec) :=
  OpenClaim.holds_of_wide 3 Try.f3 rfl rfl rfl rfl rfl rfl rfl ⟨rfl, rfl, rfl, rfl, rfl⟩ rfl rfl rfl rfl rfl (by kernel_rfl) Try.func3 (by kernel_rfl)
    (of_decide_eq_true (by kernel_rfl)) (by unfold Func.isWrapper; first | (rw [if_pos (by decide +kernel)]; kernel_rfl) | (rw [if_neg (by decide +kernel)]; exact ⟨rfl, rfl⟩))
    (fun os started H enc _ => lifted os started H enc)

theorem proved : Rows.DfaTellsSaid := over
#print axioms proved
end Go.Proofs.Ytjappdgehmjomaa.dfaTells
