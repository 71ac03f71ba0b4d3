/-
  Proved here: the statement ModelJoins: whatever the input, the law answers true, and its arguments read as before; the package variables of its row are tied to the program's text. (The frame was printed by a program.)
-/
import Derived.Test.YtdhgpnejphlfpaaDoorModelJoinsA
import Derived.Test.YtdhgpnejphlfpaaDoorModelJoinsB
import Derived.Test.YtdhgpnejphlfpaaDoorModelJoinsC
import Derived.Test.YtdhgpnejphlfpaaDoorModelJoinsD
import Derived.Test.YtdhgpnejphlfpaaDoorModelJoinsE
import Derived.Test.YtdhgpnejphlfpaaDoorModelJoinsF
import Derived.Test.YtdhgpnejphlfpaaDoorModelJoinsG
import Derived.Test.YtdhgpnejphlfpaaDoorCards
import Derived.Test.YtdhgpnejphlfpaaDoorTie
import Derived.WalkKit
import Derived.ProofKit
import Derived.OpenShut
import Derived.ShutString
import Derived.Deep.DeepHandedRow
import Derived.Lib.LaidTab
namespace Go.Proofs.YtdhgpnejphlfpaaDoor.modelJoins
open Go.ChangeShapes Go.WideShapes Go.ChangeAt Go.RowKit

theorem own : ownKnob Tryd.prog.godebug = none := by kernel_rfl
theorem mixed : True := trivial

/-- what the row's list gives -/
theorem start {W : World} (h : laidMetH Tryd.prog Rows.modelJoinsRow.laid W) : Sat [gl 0 (sH.map S), gl 1 (kP.map S), kept W (fun _ => False)] W ∧ NoM [gl 0 (sH.map S), gl 1 (kP.map S), kept W (fun _ => False)] := by
  have hL := HH (by rfl) h
  have h0 := Jk W
  have n0 := Jo W
  have h1 := h0.add (new := gl 1 (kP.map S)) rfl (Fv (zs := kP) hL 1 (by kernel_rfl) (show Tryd.prog.globalNamed "scrutiny/expr.texts" = some 1 by kernel_rfl) (show (Tryd.prog.globals[1]?).map (·.type) = some 124 by kernel_rfl) Tryd.underlying124 Tryd.underlying9 (by kernel_rfl) (show Tryd.prog.cellsOf 124 = 25 by kernel_rfl) (n0 _))
  have n1 : NoM _ := yA (it := gl 1 (kP.map S)) rfl n0
  have h2 := h1.add (new := gl 0 (sH.map S)) rfl (Fv (zs := sH) hL 0 (by kernel_rfl) (show Tryd.prog.globalNamed "scrutiny/expr.keys" = some 0 by kernel_rfl) (show (Tryd.prog.globals[0]?).map (·.type) = some 104 by kernel_rfl) Tryd.underlying104 Tryd.underlying9 (by kernel_rfl) (show Tryd.prog.cellsOf 104 = 9 by kernel_rfl) (n1 _))
  have n2 : NoM _ := yA (it := gl 0 (sH.map S)) rfl n1
  exact ⟨h2, n2⟩

set_option maxRecDepth 100000 in
theorem laidOut : laidOutB Tryd.prog = true := by kernel_rfl
set_option maxRecDepth 100000 in
theorem walk {v0 v1 : Value} {a0 : Ty.T .s} {a1 : Ty.T .s} (w : World) (x0 : Arg w .s v0 a0) (y0 : Dom (fun _ => True) .s a0) (x1 : Arg w .s v1 a1) (y1 : Dom (fun _ => True) .s a1) (hL : laidMetH Tryd.prog Rows.modelJoinsRow.laid w) :
    Calls Tryd.prog 7 #[v0, v1] w fun e w' => e = .returned (.bool true) ∧ Below w.heap.size w w' := by
  obtain ⟨I, N', hS, g⟩ := (Br x0 (Br x1 Mj)) []
  have h0 := K2 g (start hL).2 (start hL).1
  have h := nZ.2 (a0, a1) true (Mo.OA a0 a1 y0 y1) [v0, v1] N' I [] _ w hS h0 (fun it hit => List.mem_append_left [kept w (fun _ => False)] hit)
  refine Calls.mono h fun e w' he => ?_
  cases e with
  | returned v =>
    obtain ⟨N1, N2, D1, D2, I1, I2, X1, X2, ⟨x, h1, h2, h3, _, _⟩, ⟨h4, h5, _, _⟩, hD, hs'⟩ := he
    subst h1 h2 h3 h4 h5
    have e1 : x = true := by
      have hD' : [(⟨.bo, x⟩ : Dyn)] = [⟨.bo, true⟩] := hD
      injection hD' with hD' _
      injection hD' with _ hD'
    have hs2 := Sat.qn (A := X0.Γ) (Sat.qn (A := ez I) hs')
    exact ⟨by rw [e1], Jm (i := 0) hs2 rfl⟩
  | panicked c => exact he.elim
  | outgrown => exact he.elim

set_option maxRecDepth 100000 in
/-- WHAT THE WALK GIVES, FOR EVERY ARGUMENT AND EVERY WORLD THAT HOLDS THE TABLES -/
theorem contract (H : Type) (enc : TypeId × Value → H) (W : World) (base : Nat) (args : Array Value) (ds gs : List (DataW H)) (before : List MemPlace)
    (hval : ∀ (j : Nat) t v, Tryd.f7.params[j]? = some t → args[j]? = some v → Value.okWide Tryd.prog W .any base t v)
    (hW : DataW.Whole enc Tryd.prog Tryd.f7.params.toList Rows.modelJoinsSpec.vars false W args.toList ds gs before) (hL : laidMetH Tryd.prog Rows.modelJoinsRow.laid W) :
    Calls Tryd.prog 7 args W fun e W' => ∃ v, e = .returned v ∧ Rows.modelJoinsSpec.post enc Tryd.prog Tryd.f7 false true false false W args v W' := by
  have hW' := hW
  obtain ⟨p, q, hA0, hV, rfl, hfz, hnd⟩ := hW
  have hA : DataW.TrodAll enc Tryd.prog W 0 (fun _ => true) true Tryd.f7.params.toList args.toList ds p := hA0
  rw [Tryd.params7] at hA hval
  obtain ⟨v0, vs0, d0, ds0, p0, q0, hargs, rfl, rfl, h0, r0⟩ := trodAll_cons hA
  obtain ⟨v1, vs1, d1, ds1, p1, q1, rfl, rfl, rfl, h1, r1⟩ := trodAll_cons r0
  obtain ⟨rfl, rfl, rfl⟩ := trodAll_nil r1
  obtain rfl : args = #[v0, v1] := by cases args; simp_all
  obtain ⟨rfl, rfl⟩ := trodVars_none hV
  have hw0 : ∀ z ∈ p0, z.block < W.heap.size := fun z hz => by simpa using hW'.lt z (by simp [hz])
  obtain ⟨a0, x0, y0⟩ := yc (n := 20) (Q := (fun _ => True)) .s (by kernel_rfl) (hval 0 9 v0 rfl rfl) (fun _ _ => trivial) h0
  have hw1 : ∀ z ∈ p1, z.block < W.heap.size := fun z hz => by simpa using hW'.lt z (by simp [hz])
  obtain ⟨a1, x1, y1⟩ := yc (n := 20) (Q := (fun _ => True)) .s (by kernel_rfl) (hval 1 9 v1 rfl rfl) (fun _ _ => trivial) h1
  clear hA0
  refine (walk W x0 y0 x1 y1 hL).mono fun e W' ⟨he, bel⟩ => ?_
  subst he
  exact ⟨_, rfl, _, _, _, [], _, [], hW', trodAll_mk1 (shut_bool Tryd.underlying4 _), (trodAll_cons_mk (Below.trod laidOut (by kernel_rfl) (of_decide_eq_true (by kernel_rfl)) h0 bel hw0) (trodAll_cons_mk (Below.trod laidOut (by kernel_rfl) (of_decide_eq_true (by kernel_rfl)) h1 bel hw1) trodAll_mk0)), rfl, bel.frame _, fun h => by cases h⟩

/-- a world for the witness: the settled one, with what the program's text lays -/
noncomputable def laidWorld (os : Os) : World :=
  { World.holding Tryd.prog os ⟨#[], #[], []⟩ with heap := (((World.holding Tryd.prog os ⟨#[], #[], []⟩).heap.modify 0 fun
      | .cells _ t frozen => .cells #[.string ⟨#[116, 114, 117, 101]⟩, .string ⟨#[102, 97, 108, 115, 101]⟩, .string ⟨#[88]⟩, .string ⟨#[70]⟩, .string ⟨#[71]⟩, .string ⟨#[85]⟩, .string ⟨#[82]⟩, .string ⟨#[118, 97, 114]⟩, .string ⟨#[112, 114, 111, 99]⟩] t frozen
      | o => o).modify 1 fun
      | .cells _ t frozen => .cells #[.string ⟨#[]⟩, .string ⟨#[]⟩, .string ⟨#[]⟩, .string ⟨#[43]⟩, .string ⟨#[45]⟩, .string ⟨#[42]⟩, .string ⟨#[45]⟩, .string ⟨#[61, 61]⟩, .string ⟨#[33, 61]⟩, .string ⟨#[60]⟩, .string ⟨#[60, 61]⟩, .string ⟨#[62]⟩, .string ⟨#[62, 61]⟩, .string ⟨#[116, 114, 117, 101]⟩, .string ⟨#[102, 97, 108, 115, 101]⟩, .string ⟨#[33]⟩, .string ⟨#[38]⟩, .string ⟨#[124]⟩, .string ⟨#[45, 62]⟩, .string ⟨#[60, 45, 62]⟩, .string ⟨#[88]⟩, .string ⟨#[70]⟩, .string ⟨#[71]⟩, .string ⟨#[85]⟩, .string ⟨#[82]⟩] t frozen
      | o => o) }
set_option maxRecDepth 100000 in
theorem laid_met (os : Os) : laidMet Tryd.prog Rows.modelJoinsRow.laid ((laidWorld os).forCall (fun _ _ => 0) ⟨#[], #[.string ByteArray.empty, .string ByteArray.empty], []⟩).memory :=
  laidMet_of_run' 8 (by kernel_rfl) (by kernel_rfl)
theorem reads (os : Os) {H : Type} (enc : TypeId × Value → H) : ∃ places, DataW.whole enc Tryd.prog ((laidWorld os).forCall (fun _ _ => 0) ⟨#[], #[.string ByteArray.empty, .string ByteArray.empty], []⟩).memory Tryd.f7.params.toList Rows.modelJoinsSpec.vars false (#[.string ByteArray.empty, .string ByteArray.empty] : Array Value).toList 8 = some ([.lit (.string []), .lit (.string [])], [], places) :=
  ⟨[], by kernel_rfl⟩

set_option maxRecDepth 100000 in
theorem lifted (os : Os) (started : os.Started) (H : Type) (enc : TypeId × Value → H) (F : Stop.Interp) :
    ReturnsInHanded {} Tryd.checked os 7 .any ((OpenSpec.ofChange Rows.modelJoinsSpec).preRow enc Tryd.prog Tryd.f7 Rows.modelJoinsRow.domain false Rows.modelJoinsRow.laid) (((OpenSpec.ofChange Rows.modelJoinsSpec).at F).post enc Tryd.prog Tryd.f7 false true false false) := by
  obtain ⟨places, hx⟩ := reads os enc
  refine returnsInHanded_of_row (C := Tryd.checked) (s := OpenSpec.ofChange Rows.modelJoinsSpec) own started (by kernel_rfl) Tryd.func7
    (witness_row_at (enc := enc) (C := Tryd.checked) false (laidWorld os) #[.string ByteArray.empty, .string ByteArray.empty] rfl (by kernel_rfl) (by kernel_rfl) (by kernel_rfl)
      (OpenSpec.preRow_of_cond 8 hx (by kernel_rfl) (fun k hk => by cases hk) (by kernel_rfl) (laid_met os))) ?_
  intro W base args ds gs before hval hW _ _ _ hL _ _
  exact contract H enc W base args ds gs before hval hW hL

theorem said : Rows.ModelJoinsSaid :=
  OpenClaim.holds_of_cond 7 Tryd.f7 rfl rfl rfl rfl rfl rfl rfl ⟨rfl, rfl, rfl, rfl, rfl⟩ rfl rfl rfl rfl rfl (by kernel_rfl) Tryd.func7 (by kernel_rfl)
    (of_decide_eq_true (by kernel_rfl)) (by unfold Func.isWrapper; first | (rw [if_pos (by decide +kernel)]; kernel_rfl) | (rw [if_neg (by decide +kernel)]; exact ⟨rfl, rfl⟩))
    (fun os started H enc _ F => by rw [OpenClaim.pre_eq_preRow]; exact lifted os started H enc F)

theorem plain (f : FuncId) (fn : Func) (hf : Tryd.pinned.checked.prog.funcNamed "scrutiny/scrutinylaw14.ModelJoins" = some f) (hfn : Tryd.pinned.checked.prog.funcs[f]? = some fn) :
    true = Tryd.pinned.checked.prog.looks [] ∧ ∀ (j : Nat) t, fn.params[j]? = some t → Tryd.pinned.checked.prog.wantsStandIn t = false := by
  obtain rfl : f = 7 := Option.some.inj ((show Tryd.prog.funcNamed "scrutiny/scrutinylaw14.ModelJoins" = some 7 by kernel_rfl).symm.trans hf) |>.symm
  obtain rfl : fn = Tryd.f7 := (Option.some.inj (Tryd.func7.symm.trans hfn)).symm
  refine ⟨by kernel_rfl, fun j t ht => ?_⟩
  rw [Tryd.params7] at ht
  have hm := Array.mem_of_getElem? ht
  simp only [List.mem_toArray, List.mem_cons, List.not_mem_nil, or_false] at hm
  rcases hm with rfl | rfl
  · exact (show Tryd.prog.wantsStandIn 9 = false by kernel_rfl)
  · exact (show Tryd.prog.wantsStandIn 9 = false by kernel_rfl)

/-- THE CARD -/
theorem proved : Rows.ModelJoinsCardSaid :=
  Claim7.holds_tied_plain_at .later [] _ _ _ _ said (fun _ h => by cases h) (by kernel_rfl) (fun _ h => by cases h) modelJoins_row_tie rfl ⟨rfl, rfl⟩ (by kernel_rfl) rfl plain (by kernel_rfl)
#print axioms proved
end Go.Proofs.YtdhgpnejphlfpaaDoor.modelJoins

