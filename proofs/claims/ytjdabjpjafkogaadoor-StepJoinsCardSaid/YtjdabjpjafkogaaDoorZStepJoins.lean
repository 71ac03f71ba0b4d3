/-
  Proved here: the statement StepJoins: whatever the input, the law answers true, and its arguments read as before; the package variables of its row are tied to the program's text. (The frame was printed by a program.)
-/
import Derived.Test.YtjdabjpjafkogaaDoorStepJoinsA
import Derived.Test.YtjdabjpjafkogaaDoorStepJoinsB
import Derived.Test.YtjdabjpjafkogaaDoorStepJoinsC
import Derived.Test.YtjdabjpjafkogaaDoorStepJoinsD
import Derived.Test.YtjdabjpjafkogaaDoorStepJoinsE
import Derived.Test.YtjdabjpjafkogaaDoorStepJoinsF
import Derived.Test.YtjdabjpjafkogaaDoorCards
import Derived.Test.YtjdabjpjafkogaaDoorTie
import Derived.WalkKit
import Derived.ProofKit
import Derived.OpenShut
import Derived.ShutString
import Derived.Deep.DeepHandedRow
import Derived.Lib.LaidTab

namespace Go.Proofs.YtjdabjpjafkogaaDoor.stepJoins
open Go.ChangeShapes Go.WideShapes Go.ChangeAt Go.RowKit
open Go.ChangeMaps (open_string shut_string)

theorem own : ownKnob Tryd.prog.godebug = none := by kernel_rfl
theorem mixed : True := trivial

/-- what the row's list gives -/
theorem start {W : World} (h : laidMetH Tryd.prog Rows.stepJoinsRow.laid W) : Sat [gl 0 (pow10L.map (Value.int .u64)), kept W (fun _ => False)] W := by
  have hL := laidMet_of (by rfl) h
  have h0 := sat_start W
  have n0 := noM_start W
  have h1 := h0.add (new := gl 0 (pow10L.map (Value.int .u64))) rfl (gl_ints (kd := .u64) (zs := pow10L) hL 2 (by kernel_rfl) (show Tryd.prog.globalNamed "internal/strconv.uint64pow10" = some 0 by kernel_rfl) (show (Tryd.prog.globals[0]?).map (·.type) = some 137 by kernel_rfl) Tryd.underlying137 Tryd.underlying131 (by kernel_rfl) (show Tryd.prog.cellsOf 137 = 20 by kernel_rfl) (n0 _))
  have n1 : NoM _ := noM_cons (it := gl 0 (pow10L.map (Value.int .u64))) rfl n0
  exact h1

theorem laidOut : laidOutB Tryd.prog = true := by kernel_rfl

theorem walk (a0 : Str) (a1 : List Int) (u1 : SLV) (a2 : Int) (w : World) (w0 : a0.length ≤ 9223372036854775807) (x1 : SRd (RI .i64) (fun _ => False) w (sl u1) a1) (w2 : 0 ≤ a2 ∧ a2 ≤ 255) (hL : laidMetH Tryd.prog Rows.stepJoinsRow.laid w) :
    Calls Tryd.prog 8 #[S a0, sl u1, .int .u8 a2] w fun e w' => e = .returned (.bool true) ∧ Below w.heap.size w w' := by
  have t0 := start hL
  have n0 := noM_start w
  have n1 : NoM _ := noM_cons (it := gl 0 (pow10L.map (Value.int .u64))) rfl n0
  have t1 := t0.add (new := imm (RSl (RI .i64)) [sl u1] a1) rfl (x1.mv (mv_start n1)).rsl
  have n2 : NoM _ := noM_cons (it := imm (RSl (RI .i64)) [sl u1] a1) rfl n1
  refine Calls.mono (scrutinylaw15_StepJoins_ok t1 (Sp.stepJoins_t a0 a1 a2 w0 w2)) ?_
  intro e w' h
  cases e with
  | returned v => exact ⟨by rw [h.1], below_end (i := 0) h.2 rfl⟩
  | panicked c => exact h.elim
  | outgrown => exact h.elim

set_option maxRecDepth 100000 in
/-- WHAT THE WALK GIVES, FOR EVERY ARGUMENT AND EVERY WORLD THAT HOLDS THE TABLES -/
theorem contract (H : Type) (enc : TypeId × Value → H) (W : World) (base : Nat) (args : Array Value) (ds gs : List (DataW H)) (before : List MemPlace)
    (hval : ∀ (j : Nat) t v, Tryd.f8.params[j]? = some t → args[j]? = some v → Value.okWide Tryd.prog W .any base t v)
    (hW : DataW.Whole enc Tryd.prog Tryd.f8.params.toList Rows.stepJoinsSpec.vars false W args.toList ds gs before) (hL : laidMetH Tryd.prog Rows.stepJoinsRow.laid W) :
    Calls Tryd.prog 8 args W fun e W' => ∃ v, e = .returned v ∧ Rows.stepJoinsSpec.post enc Tryd.prog Tryd.f8 false true false false W args v W' := by
  have hW' := hW
  obtain ⟨p, q, hA0, hV, rfl, hfz, hnd⟩ := hW
  have hA : DataW.TrodAll enc Tryd.prog W 0 (fun _ => true) true Tryd.f8.params.toList args.toList ds p := hA0
  rw [Tryd.params8] at hA hval
  obtain ⟨v0, vs0, d0, ds0, p0, q0, hargs, rfl, rfl, h0, r0⟩ := trodAll_cons hA
  obtain ⟨v1, vs1, d1, ds1, p1, q1, rfl, rfl, rfl, h1, r1⟩ := trodAll_cons r0
  obtain ⟨v2, vs2, d2, ds2, p2, q2, rfl, rfl, rfl, h2, r2⟩ := trodAll_cons r1
  obtain ⟨rfl, rfl, rfl⟩ := trodAll_nil r2
  obtain rfl : args = #[v0, v1, v2] := by cases args; simp_all
  obtain ⟨rfl, rfl⟩ := trodVars_none hV
  obtain ⟨⟨⟨a0⟩⟩, rfl, rfl, rfl, w0⟩ := open_string Tryd.underlying9 (hval 0 9 v0 rfl rfl) h0
  have y1 : v1.cells.toList = [v1] := okWide_sl Tryd.underlying22 (hval 1 22 v1 rfl rfl)
  have hw1 : ∀ z ∈ p1, z.block < W.heap.size := fun z hz => by simpa using hW'.lt z (by simp [hz])
  have k1 := h1
  obtain ⟨fu1, hf1⟩ := h1
  rw [y1] at hf1
  obtain ⟨u1, a1, hv1, x1⟩ := nums_of_trod Tryd.underlying22 Tryd.underlying3 (by kernel_rfl) _ _ _ hf1
  obtain rfl : v1 = sl u1 := by simpa using hv1
  obtain ⟨a2, rfl, rfl, rfl, w2⟩ := open_int Tryd.underlying5 (hval 2 5 v2 rfl rfl) h2
  clear hA0
  refine (walk a0 a1 u1 a2 W w0 x1 (by have h := w2; simp only [Lit.wf, Bool.and_eq_true, decide_eq_true_eq] at h; exact h) hL).mono fun e W' ⟨he, bel⟩ => ?_
  subst he
  exact ⟨_, rfl, _, _, _, [], _, [], hW', trodAll_mk1 (shut_bool Tryd.underlying4 _), (trodAll_cons_mk (shut_string Tryd.underlying9 w0) (trodAll_cons_mk (Below.trod laidOut (by kernel_rfl) (of_decide_eq_true (by kernel_rfl)) k1 bel hw1) (trodAll_cons_mk (shut_int Tryd.underlying5 w2) trodAll_mk0))), rfl, bel.frame _, fun h => by cases h⟩

/-- a world for the witness: the settled one, with what the program's text lays -/
noncomputable def laidWorld (os : Os) : World :=
  { World.holding Tryd.prog os ⟨#[], #[], []⟩ with heap := ((((World.holding Tryd.prog os ⟨#[], #[], []⟩).heap.modify 1 fun
      | .cells _ t frozen => .cells #[.int .u8 0, .int .u8 1, .int .u8 28, .int .u8 2, .int .u8 29, .int .u8 14, .int .u8 24, .int .u8 3, .int .u8 30, .int .u8 22, .int .u8 20, .int .u8 15, .int .u8 25, .int .u8 17, .int .u8 4, .int .u8 8, .int .u8 31, .int .u8 27, .int .u8 13, .int .u8 23, .int .u8 21, .int .u8 19, .int .u8 16, .int .u8 7, .int .u8 26, .int .u8 12, .int .u8 18, .int .u8 6, .int .u8 11, .int .u8 5, .int .u8 10, .int .u8 9] t frozen
      | o => o).modify 2 fun
      | .cells _ t frozen => .cells #[.int .u8 0, .int .u8 1, .int .u8 56, .int .u8 2, .int .u8 57, .int .u8 49, .int .u8 28, .int .u8 3, .int .u8 61, .int .u8 58, .int .u8 42, .int .u8 50, .int .u8 38, .int .u8 29, .int .u8 17, .int .u8 4, .int .u8 62, .int .u8 47, .int .u8 59, .int .u8 36, .int .u8 45, .int .u8 43, .int .u8 51, .int .u8 22, .int .u8 53, .int .u8 39, .int .u8 33, .int .u8 30, .int .u8 24, .int .u8 18, .int .u8 12, .int .u8 5, .int .u8 63, .int .u8 55, .int .u8 48, .int .u8 27, .int .u8 60, .int .u8 41, .int .u8 37, .int .u8 16, .int .u8 46, .int .u8 35, .int .u8 44, .int .u8 21, .int .u8 52, .int .u8 32, .int .u8 23, .int .u8 11, .int .u8 54, .int .u8 26, .int .u8 40, .int .u8 15, .int .u8 34, .int .u8 20, .int .u8 31, .int .u8 10, .int .u8 25, .int .u8 14, .int .u8 19, .int .u8 9, .int .u8 13, .int .u8 8, .int .u8 7, .int .u8 6] t frozen
      | o => o).modify 0 fun
      | .cells _ t frozen => .cells #[.int .u64 1, .int .u64 10, .int .u64 100, .int .u64 1000, .int .u64 10000, .int .u64 100000, .int .u64 1000000, .int .u64 10000000, .int .u64 100000000, .int .u64 1000000000, .int .u64 10000000000, .int .u64 100000000000, .int .u64 1000000000000, .int .u64 10000000000000, .int .u64 100000000000000, .int .u64 1000000000000000, .int .u64 10000000000000000, .int .u64 100000000000000000, .int .u64 1000000000000000000, .int .u64 10000000000000000000] t frozen
      | o => o) }
set_option maxRecDepth 100000 in
theorem laid_met (os : Os) : laidMet Tryd.prog Rows.stepJoinsRow.laid ((laidWorld os).forCall (fun _ _ => 0) ⟨#[], #[.string ByteArray.empty, .slice none 0 0, .int .u8 0], []⟩).memory :=
  laidMet_of_run' 8 (by kernel_rfl) (by kernel_rfl)
theorem reads (os : Os) {H : Type} (enc : TypeId × Value → H) : ∃ places, DataW.whole enc Tryd.prog ((laidWorld os).forCall (fun _ _ => 0) ⟨#[], #[.string ByteArray.empty, .slice none 0 0, .int .u8 0], []⟩).memory Tryd.f8.params.toList Rows.stepJoinsSpec.vars false (#[.string ByteArray.empty, .slice none 0 0, .int .u8 0] : Array Value).toList 8 = some ([.lit (.string []), .nil, .lit (.int .u8 0)], [], places) :=
  ⟨[], by kernel_rfl⟩

set_option maxRecDepth 100000 in
theorem lifted (os : Os) (started : os.Started) (H : Type) (enc : TypeId × Value → H) (F : Stop.Interp) :
    ReturnsInHanded {} Tryd.checked os 8 .any ((OpenSpec.ofChange Rows.stepJoinsSpec).preRow enc Tryd.prog Tryd.f8 Rows.stepJoinsRow.domain false Rows.stepJoinsRow.laid) (((OpenSpec.ofChange Rows.stepJoinsSpec).at F).post enc Tryd.prog Tryd.f8 false true false false) := by
  obtain ⟨places, hx⟩ := reads os enc
  refine returnsInHanded_of_row (C := Tryd.checked) (s := OpenSpec.ofChange Rows.stepJoinsSpec) own started (by kernel_rfl) Tryd.func8
    (witness_row_at (enc := enc) (C := Tryd.checked) false (laidWorld os) #[.string ByteArray.empty, .slice none 0 0, .int .u8 0] rfl (by kernel_rfl) (by kernel_rfl) (by kernel_rfl)
      (OpenSpec.preRow_of_cond 8 hx (by kernel_rfl) (fun k hk => by cases hk) (by kernel_rfl) (laid_met os))) ?_
  intro W base args ds gs before hval hW _ _ _ hL _ _
  exact contract H enc W base args ds gs before hval hW hL

theorem said : Rows.StepJoinsSaid :=
  OpenClaim.holds_of_cond 8 Tryd.f8 rfl rfl rfl rfl rfl rfl rfl ⟨rfl, rfl, rfl, rfl, rfl⟩ rfl rfl rfl rfl rfl (by kernel_rfl) Tryd.func8 (by kernel_rfl)
    (of_decide_eq_true (by kernel_rfl)) (by unfold Func.isWrapper; first | (rw [if_pos (by decide +kernel)]; kernel_rfl) | (rw [if_neg (by decide +kernel)]; exact ⟨rfl, rfl⟩))
    (fun os started H enc _ F => by rw [OpenClaim.pre_eq_preRow]; exact lifted os started H enc F)

theorem plain (f : FuncId) (fn : Func) (hf : Tryd.pinned.checked.prog.funcNamed "scrutiny/scrutinylaw15.StepJoins" = some f) (hfn : Tryd.pinned.checked.prog.funcs[f]? = some fn) :
    false = Tryd.pinned.checked.prog.looks [] ∧ ∀ (j : Nat) t, fn.params[j]? = some t → Tryd.pinned.checked.prog.wantsStandIn t = false := by
  obtain rfl : f = 8 := Option.some.inj ((show Tryd.prog.funcNamed "scrutiny/scrutinylaw15.StepJoins" = some 8 by kernel_rfl).symm.trans hf) |>.symm
  obtain rfl : fn = Tryd.f8 := (Option.some.inj (Tryd.func8.symm.trans hfn)).symm
  refine ⟨by kernel_rfl, fun j t ht => ?_⟩
  rw [Tryd.params8] at ht
  have hm := Array.mem_of_getElem? ht
  simp only [List.mem_toArray, List.mem_cons, List.not_mem_nil, or_false] at hm
  rcases hm with rfl | rfl | rfl
  · exact (show Tryd.prog.wantsStandIn 9 = false by kernel_rfl)
  · exact (show Tryd.prog.wantsStandIn 22 = false by kernel_rfl)
  · exact (show Tryd.prog.wantsStandIn 5 = false by kernel_rfl)

/-- THE CARD -/
theorem proved : Rows.StepJoinsCardSaid :=
  Claim7.holds_tied_plain_at .later [] _ _ _ _ said (fun _ h => by cases h) (by kernel_rfl) (fun _ h => by cases h) stepJoins_row_tie rfl ⟨rfl, rfl⟩ (by kernel_rfl) rfl plain (by kernel_rfl)
#print axioms proved
end Go.Proofs.YtjdabjpjafkogaaDoor.stepJoins

