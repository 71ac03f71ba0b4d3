/-
  Proved here: the statement ModelTells: whatever the input, the law answers true, and its arguments read as before; the package variables of its row are tied to the program's text. (The frame was printed by a program.)
-/
import Derived.Test.YtdhgpnejphlfpaaGreatDoorModelTellsA
import Derived.Test.YtdhgpnejphlfpaaGreatDoorModelTellsB
import Derived.Test.YtdhgpnejphlfpaaGreatDoorModelTellsC
import Derived.Test.YtdhgpnejphlfpaaGreatDoorModelTellsD
import Derived.Test.YtdhgpnejphlfpaaGreatDoorModelTellsE
import Derived.Test.YtdhgpnejphlfpaaGreatDoorModelTellsF
import Derived.Test.YtdhgpnejphlfpaaGreatDoorModelTellsG
import Derived.Test.YtdhgpnejphlfpaaGreatDoorCards
import Derived.Test.YtdhgpnejphlfpaaGreatDoorTie
import Derived.WalkKit
import Derived.ProofKit
import Derived.OpenShut
import Derived.ShutString
import Derived.Deep.DeepHandedRow
import Derived.Lib.LaidTab


namespace Go.Proofs.YtdhgpnejphlfpaaGreatDoor.modelTells
open Go.ChangeShapes Go.WideShapes Go.ChangeAt Go.RowKit
open Go.ChangeMaps (open_string shut_string)

theorem own : ownKnob Tryz.prog.godebug = none := by kernel_rfl
theorem mixed : True := trivial

/-- what the row's list gives -/
theorem start {W : World} (h : laidMetH Tryz.prog Rows.modelTellsRow.laid W) : Sat [gl 0 (vN.map S), gl 1 (mZ.map S), kept W (fun _ => False)] W := by
  have hL := Hw (by rfl) h
  have h0 := Jh W
  have n0 := Jd W
  have h1 := h0.add (new := gl 1 (mZ.map S)) rfl (F0 (zs := mZ) hL 1 (by kernel_rfl) (show Tryz.prog.globalNamed "scrutiny/expr.texts" = some 1 by kernel_rfl) (show (Tryz.prog.globals[1]?).map (·.type) = some 130 by kernel_rfl) Tryz.underlying130 Tryz.underlying9 (by kernel_rfl) (show Tryz.prog.cellsOf 130 = 25 by kernel_rfl) (n0 _))
  have n1 : NoM _ := zu (it := gl 1 (mZ.map S)) rfl n0
  have h2 := h1.add (new := gl 0 (vN.map S)) rfl (F0 (zs := vN) hL 0 (by kernel_rfl) (show Tryz.prog.globalNamed "scrutiny/expr.keys" = some 0 by kernel_rfl) (show (Tryz.prog.globals[0]?).map (·.type) = some 109 by kernel_rfl) Tryz.underlying109 Tryz.underlying9 (by kernel_rfl) (show Tryz.prog.cellsOf 109 = 9 by kernel_rfl) (n1 _))
  have n2 : NoM _ := zu (it := gl 0 (vN.map S)) rfl n1
  exact h2

theorem walk (a0 : Str) (a1 : Str) (w : World) (w0 : a0.length ≤ 9223372036854775807) (w1 : a1.length ≤ 9223372036854775807) (hL : laidMetH Tryz.prog Rows.modelTellsRow.laid w) :
    Calls Tryz.prog 3 #[S a0, S a1] w fun e w' => e = .returned (.bool true) ∧ Below w.heap.size w w' := by
  refine Calls.mono (pZ (Φ := [kept w (fun _ => False)]) (start hL) (Mo.z8 a0 a1 w0 w1)) ?_
  intro e w' h
  cases e with
  | returned v => exact ⟨by rw [h.1], Iz (i := 0) h.2 rfl⟩
  | panicked c => exact h.elim
  | outgrown => exact h.elim

set_option maxRecDepth 100000 in
/-- WHAT THE WALK GIVES, FOR EVERY ARGUMENT AND EVERY WORLD THAT HOLDS THE TABLES -/
theorem contract (H : Type) (enc : TypeId × Value → H) (W : World) (base : Nat) (args : Array Value) (ds gs : List (DataW H)) (before : List MemPlace)
    (hval : ∀ (j : Nat) t v, Tryz.f3.params[j]? = some t → args[j]? = some v → Value.okWide Tryz.prog W .any base t v)
    (hW : DataW.Whole enc Tryz.prog Tryz.f3.params.toList Rows.modelTellsSpec.vars false W args.toList ds gs before) (hL : laidMetH Tryz.prog Rows.modelTellsRow.laid W) :
    Calls Tryz.prog 3 args W fun e W' => ∃ v, e = .returned v ∧ Rows.modelTellsSpec.post enc Tryz.prog Tryz.f3 false true false false W args v W' := by
  have hW' := hW
  obtain ⟨p, q, hA0, hV, rfl, hfz, hnd⟩ := hW
  have hA : DataW.TrodAll enc Tryz.prog W 0 (fun _ => true) true Tryz.f3.params.toList args.toList ds p := hA0
  rw [Tryz.params3] at hA hval
  obtain ⟨v0, vs0, d0, ds0, p0, q0, hargs, rfl, rfl, h0, r0⟩ := trodAll_cons hA
  obtain ⟨v1, vs1, d1, ds1, p1, q1, rfl, rfl, rfl, h1, r1⟩ := trodAll_cons r0
  obtain ⟨rfl, rfl, rfl⟩ := trodAll_nil r1
  obtain rfl : args = #[v0, v1] := by cases args; simp_all
  obtain ⟨rfl, rfl⟩ := trodVars_none hV
  obtain ⟨⟨⟨a0⟩⟩, rfl, rfl, rfl, w0⟩ := open_string Tryz.underlying9 (hval 0 9 v0 rfl rfl) h0
  obtain ⟨⟨⟨a1⟩⟩, rfl, rfl, rfl, w1⟩ := open_string Tryz.underlying9 (hval 1 9 v1 rfl rfl) h1
  clear hA0
  refine (walk a0 a1 W w0 w1 hL).mono fun e W' ⟨he, bel⟩ => ?_
  subst he
  exact ⟨_, rfl, _, _, _, [], _, [], hW', trodAll_mk1 (shut_bool Tryz.underlying4 _), (trodAll_cons_mk (shut_string Tryz.underlying9 w0) (trodAll_cons_mk (shut_string Tryz.underlying9 w1) trodAll_mk0)), rfl, bel.frame _, fun h => by cases h⟩

/-- a world for the witness: the settled one, with what the program's text lays -/
noncomputable def laidWorld (os : Os) : World :=
  { World.holding Tryz.prog os ⟨#[], #[], []⟩ with heap := (((World.holding Tryz.prog os ⟨#[], #[], []⟩).heap.modify 0 fun
      | .cells _ t frozen => .cells #[.string ⟨#[116, 114, 117, 101]⟩, .string ⟨#[102, 97, 108, 115, 101]⟩, .string ⟨#[88]⟩, .string ⟨#[70]⟩, .string ⟨#[71]⟩, .string ⟨#[85]⟩, .string ⟨#[82]⟩, .string ⟨#[118, 97, 114]⟩, .string ⟨#[112, 114, 111, 99]⟩] t frozen
      | o => o).modify 1 fun
      | .cells _ t frozen => .cells #[.string ⟨#[]⟩, .string ⟨#[]⟩, .string ⟨#[]⟩, .string ⟨#[43]⟩, .string ⟨#[45]⟩, .string ⟨#[42]⟩, .string ⟨#[45]⟩, .string ⟨#[61, 61]⟩, .string ⟨#[33, 61]⟩, .string ⟨#[60]⟩, .string ⟨#[60, 61]⟩, .string ⟨#[62]⟩, .string ⟨#[62, 61]⟩, .string ⟨#[116, 114, 117, 101]⟩, .string ⟨#[102, 97, 108, 115, 101]⟩, .string ⟨#[33]⟩, .string ⟨#[38]⟩, .string ⟨#[124]⟩, .string ⟨#[45, 62]⟩, .string ⟨#[60, 45, 62]⟩, .string ⟨#[88]⟩, .string ⟨#[70]⟩, .string ⟨#[71]⟩, .string ⟨#[85]⟩, .string ⟨#[82]⟩] t frozen
      | o => o) }
set_option maxRecDepth 100000 in
theorem laid_met (os : Os) : laidMet Tryz.prog Rows.modelTellsRow.laid ((laidWorld os).forCall (fun _ _ => 0) ⟨#[], #[.string ByteArray.empty, .string ByteArray.empty], []⟩).memory :=
  laidMet_of_run' 8 (by kernel_rfl) (by kernel_rfl)
theorem reads (os : Os) {H : Type} (enc : TypeId × Value → H) : ∃ places, DataW.whole enc Tryz.prog ((laidWorld os).forCall (fun _ _ => 0) ⟨#[], #[.string ByteArray.empty, .string ByteArray.empty], []⟩).memory Tryz.f3.params.toList Rows.modelTellsSpec.vars false (#[.string ByteArray.empty, .string ByteArray.empty] : Array Value).toList 8 = some ([.lit (.string []), .lit (.string [])], [], places) :=
  ⟨[], by kernel_rfl⟩

set_option maxRecDepth 100000 in
theorem lifted (os : Os) (started : os.Started) (H : Type) (enc : TypeId × Value → H) (F : Stop.Interp) :
    ReturnsInHanded {} Tryz.checked os 3 .any ((OpenSpec.ofChange Rows.modelTellsSpec).preRow enc Tryz.prog Tryz.f3 Rows.modelTellsRow.domain false Rows.modelTellsRow.laid) (((OpenSpec.ofChange Rows.modelTellsSpec).at F).post enc Tryz.prog Tryz.f3 false true false false) := by
  obtain ⟨places, hx⟩ := reads os enc
  refine returnsInHanded_of_row (C := Tryz.checked) (s := OpenSpec.ofChange Rows.modelTellsSpec) own started (by kernel_rfl) Tryz.func3
    (witness_row_at (enc := enc) (C := Tryz.checked) false (laidWorld os) #[.string ByteArray.empty, .string ByteArray.empty] rfl (by kernel_rfl) (by kernel_rfl) (by kernel_rfl)
      (OpenSpec.preRow_of_cond 8 hx (by kernel_rfl) (fun k hk => by cases hk) (by kernel_rfl) (laid_met os))) ?_
  intro W base args ds gs before hval hW _ _ _ hL _ _
  exact contract H enc W base args ds gs before hval hW hL

theorem said : Rows.ModelTellsSaid :=
  OpenClaim.holds_of_cond 3 Tryz.f3 rfl rfl rfl rfl rfl rfl rfl ⟨rfl, rfl, rfl, rfl, rfl⟩ rfl rfl rfl rfl rfl (by kernel_rfl) Tryz.func3 (by kernel_rfl)
    (of_decide_eq_true (by kernel_rfl)) (by unfold Func.isWrapper; first | (rw [if_pos (by decide +kernel)]; kernel_rfl) | (rw [if_neg (by decide +kernel)]; exact ⟨rfl, rfl⟩))
    (fun os started H enc _ F => by rw [OpenClaim.pre_eq_preRow]; exact lifted os started H enc F)

theorem plain (f : FuncId) (fn : Func) (hf : Tryz.pinned.checked.prog.funcNamed "scrutiny/scrutinylaw14.ModelTells" = some f) (hfn : Tryz.pinned.checked.prog.funcs[f]? = some fn) :
    true = Tryz.pinned.checked.prog.looks [] ∧ ∀ (j : Nat) t, fn.params[j]? = some t → Tryz.pinned.checked.prog.wantsStandIn t = false := by
  obtain rfl : f = 3 := Option.some.inj ((show Tryz.prog.funcNamed "scrutiny/scrutinylaw14.ModelTells" = some 3 by kernel_rfl).symm.trans hf) |>.symm
  obtain rfl : fn = Tryz.f3 := (Option.some.inj (Tryz.func3.symm.trans hfn)).symm
  refine ⟨by kernel_rfl, fun j t ht => ?_⟩
  rw [Tryz.params3] at ht
  have hm := Array.mem_of_getElem? ht
  simp only [List.mem_toArray, List.mem_cons, List.not_mem_nil, or_false] at hm
  rcases hm with rfl | rfl
  · exact (show Tryz.prog.wantsStandIn 9 = false by kernel_rfl)
  · exact (show Tryz.prog.wantsStandIn 9 = false by kernel_rfl)

/-- THE CARD -/
theorem proved : Rows.ModelTellsCardSaid :=
  Claim7.holds_tied_plain_at .later [] _ _ _ _ said (fun _ h => by cases h) (by kernel_rfl) (fun _ h => by cases h) modelTells_row_tie rfl ⟨rfl, rfl⟩ (by kernel_rfl) rfl plain (by kernel_rfl)
#print axioms proved
end Go.Proofs.YtdhgpnejphlfpaaGreatDoor.modelTells

