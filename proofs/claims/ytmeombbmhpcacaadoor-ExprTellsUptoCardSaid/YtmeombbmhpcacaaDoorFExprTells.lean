/-
  Proved here: the statement ExprTells: whatever the input, the law answers true, and its arguments read as before; the package variables of its row are tied to the program's text. (The frame was printed by a program.)
-/
import Derived.Test.YtmeombbmhpcacaaDoorCards
import Derived.Test.YtmeombbmhpcacaaDoorTie
import Derived.Test.YtmeombbmhpcacaaDoorWalk16
import Derived.Test.YtmeombbmhpcacaaDoorExprTellsP
import Derived.Test.YtmeombbmhpcacaaDoorKFr
import Derived.Test.YtmeombbmhpcacaaDoorKFv
import Derived.WalkKit
import Derived.ProofKit
import Derived.OpenShut
import Derived.ShutString
import Derived.Deep.DeepHandedRow
import Derived.Lib.LaidTab
namespace Go.Proofs.YtmeombbmhpcacaaDoor.exprTells
open Go.ChangeShapes Go.WideShapes Go.ChangeAt Go.RowKit
open Go.ChangeMaps (open_string shut_string)

theorem own : ownKnob Tryd.prog.godebug = none := by kernel_rfl
theorem mixed : True := trivial

/-- what the row's list gives -/
theorem start {W : World} (h : laidMetH Tryd.prog Rows.exprTellsUptoRow.laid W) : Sat [gl 0 (keysL.map S), gl 1 (textsL.map S), gl 2 (pow10L.map (Value.int .u64)), kept W (fun _ => False)] W := by
  have hL := laidMet_of (by rfl) h
  have h0 := sat_start W
  have n0 := noM_start W
  have h1 := h0.add (new := gl 2 (pow10L.map (Value.int .u64))) rfl (gl_ints (kd := .u64) (zs := pow10L) hL 2 (by kernel_rfl) (show Tryd.prog.globalNamed "internal/strconv.uint64pow10" = some 2 by kernel_rfl) (show (Tryd.prog.globals[2]?).map (·.type) = some 91 by kernel_rfl) Tryd.underlying91 Tryd.underlying84 (by kernel_rfl) (show Tryd.prog.cellsOf 91 = 20 by kernel_rfl) (n0 _))
  have n1 : NoM _ := noM_cons (it := gl 2 (pow10L.map (Value.int .u64))) rfl n0
  have h2 := h1.add (new := gl 1 (textsL.map S)) rfl (gl_strs (zs := textsL) hL 4 (by kernel_rfl) (show Tryd.prog.globalNamed "scrutiny/expr.texts" = some 1 by kernel_rfl) (show (Tryd.prog.globals[1]?).map (·.type) = some 65 by kernel_rfl) Tryd.underlying65 Tryd.underlying9 (by kernel_rfl) (show Tryd.prog.cellsOf 65 = 25 by kernel_rfl) (n1 _))
  have n2 : NoM _ := noM_cons (it := gl 1 (textsL.map S)) rfl n1
  have h3 := h2.add (new := gl 0 (keysL.map S)) rfl (gl_strs (zs := keysL) hL 3 (by kernel_rfl) (show Tryd.prog.globalNamed "scrutiny/expr.keys" = some 0 by kernel_rfl) (show (Tryd.prog.globals[0]?).map (·.type) = some 62 by kernel_rfl) Tryd.underlying62 Tryd.underlying9 (by kernel_rfl) (show Tryd.prog.cellsOf 62 = 9 by kernel_rfl) (n2 _))
  have n3 : NoM _ := noM_cons (it := gl 0 (keysL.map S)) rfl n2
  exact h3

theorem exLaid : ExLaid Tryd.prog 24 := ⟨⟨_, _, _, _, _, Tryd.underlying24, rfl, rfl, rfl, rfl, rfl, ⟨rfl, Tryd.underlying3, by kernel_rfl⟩, ⟨rfl, Tryd.underlying3, by kernel_rfl⟩, ⟨rfl, Tryd.underlying3, by kernel_rfl⟩, ⟨rfl, Tryd.underlying22, by kernel_rfl⟩⟩, by kernel_rfl⟩
theorem laidOut : laidOutB Tryd.prog = true := by kernel_rfl

theorem walk (a0_0 : Ex) (ua0_0 : SLV) (a0_1 : Ex) (ua0_1 : SLV) (a0_2 : List Int) (ua0_2 : SLV) (a0_3 : Str) (w : World) (wa0_0 : a0_0.sz ≤ 1048576) (xa0_0 : SRd RExpr (fun _ => False) w (sl ua0_0) a0_0.l) (wa0_1 : a0_1.sz ≤ 1048576) (xa0_1 : SRd RExpr (fun _ => False) w (sl ua0_1) a0_1.l) (xa0_2 : SRd (RI .i64) (fun _ => False) w (sl ua0_2) a0_2) (wa0_3 : a0_3.length ≤ 9223372036854775807) (hL : laidMetH Tryd.prog Rows.exprTellsUptoRow.laid w) :
    Calls Tryd.prog 3 #[.agg #[.int .i64 a0_0.op, .int .i64 a0_0.n, .int .i64 a0_0.at_, sl ua0_0, .int .i64 a0_1.op, .int .i64 a0_1.n, .int .i64 a0_1.at_, sl ua0_1, sl ua0_2, S a0_3]] w fun e w' => e = .returned (.bool true) ∧ Below w.heap.size w w' := by
  have t0 := start hL
  have n0 := noM_start w
  have n1 : NoM _ := noM_cons (it := gl 2 (pow10L.map (Value.int .u64))) rfl n0
  have n2 : NoM _ := noM_cons (it := gl 1 (textsL.map S)) rfl n1
  have n3 : NoM _ := noM_cons (it := gl 0 (keysL.map S)) rfl n2
  have t1 := t0.add (new := imm (RSl (RI .i64)) [sl ua0_2] a0_2) rfl (xa0_2.mv (mv_start n3)).rsl
  have n4 : NoM _ := noM_cons (it := imm (RSl (RI .i64)) [sl ua0_2] a0_2) rfl n3
  have t2 := t1.add (new := imm (RSl RExpr) [sl ua0_1] a0_1.l) rfl (xa0_1.mv (mv_start n4)).rsl
  have n5 : NoM _ := noM_cons (it := imm (RSl RExpr) [sl ua0_1] a0_1.l) rfl n4
  have t3 := t2.add (new := imm (RSl RExpr) [sl ua0_0] a0_0.l) rfl (xa0_0.mv (mv_start n5)).rsl
  have n6 : NoM _ := noM_cons (it := imm (RSl RExpr) [sl ua0_0] a0_0.l) rfl n5
  refine Calls.mono (scrutinylaw13_ExprTells_ok (with_ := (a0_0, a0_1, a0_2, a0_3)) t3 (tells_true a0_0 a0_1 a0_2 a0_3 (Nat.lt_of_le_of_lt wa0_0 (by decide)) (Nat.lt_of_le_of_lt wa0_1 (by decide)) wa0_3)) ?_
  intro e w' h
  cases e with
  | returned v => exact ⟨by rw [h.1], below_end (i := 0) h.2 rfl⟩
  | panicked c => exact h.elim
  | outgrown => exact h.elim

set_option maxRecDepth 100000 in
/-- WHAT THE WALK GIVES, FOR EVERY ARGUMENT AND EVERY WORLD THAT HOLDS THE TABLES -/
theorem contract (H : Type) (enc : TypeId × Value → H) (W : World) (base : Nat) (args : Array Value) (ds gs : List (DataW H)) (before : List MemPlace)
    (hval : ∀ (j : Nat) t v, Tryd.f3.params[j]? = some t → args[j]? = some v → Value.okWide Tryd.prog W .any base t v)
    (hW : DataW.Whole enc Tryd.prog Tryd.f3.params.toList Rows.exprTellsSpec.vars false W args.toList ds gs before) (hL : laidMetH Tryd.prog Rows.exprTellsUptoRow.laid W) (hk : Rows.uptoBulkAll (ds ++ gs) ≤ 1048576) :
    Calls Tryd.prog 3 args W fun e W' => ∃ v, e = .returned v ∧ Rows.exprTellsSpec.post enc Tryd.prog Tryd.f3 false true false false W args v W' := by
  have hW' := hW
  obtain ⟨p, q, hA0, hV, rfl, hfz, hnd⟩ := hW
  have hA : DataW.TrodAll enc Tryd.prog W 0 (fun _ => true) true Tryd.f3.params.toList args.toList ds p := hA0
  rw [Tryd.params3] at hA hval
  obtain ⟨v0, vs0, d0, ds0, p0, q0, hargs, rfl, rfl, h0, r0⟩ := trodAll_cons hA
  obtain ⟨rfl, rfl, rfl⟩ := trodAll_nil r0
  obtain rfl : args = #[v0] := by cases args; simp_all
  obtain ⟨rfl, rfl⟩ := trodVars_none hV
  have hb0 : Rows.uptoBulk d0 ≤ 1048576 := Nat.le_trans (bulk_part (by simp)) hk
  have hw0 : ∀ z ∈ p0, z.block < W.heap.size := fun z hz => by simpa using hW'.lt z (by simp [hz])
  have k0 := h0
  obtain ⟨fu0, hf0⟩ := h0
  obtain ⟨cs0, rfl, hcs0, _⟩ : ∃ cs, v0 = .agg cs ∧ cs.size = Tryd.prog.cellsOf 27 ∧ Row.okWide Tryd.prog W .any base 27 cs := by
    have h := hval 0 27 v0 rfl rfl
    exact agg_of Tryd.underlying27 h
  rw [show Tryd.prog.cellsOf 27 = 10 by kernel_rfl] at hcs0
  have hf0 : DataW.trod enc Tryd.prog W 0 (fun _ => true) true fu0 27 cs0.toList = some (d0, p0) := hf0
  obtain ⟨xs0, nn0, _, hd0, _, hxs0, hfd0⟩ := DataW.trod_struct Tryd.underlying27 hf0
  have hdb0 : Rows.uptoBulkAll (xs0.map (·.1)) ≤ 1048576 := by
    have h1 : d0 = .agg (xs0.map (·.1)) := congrArg Prod.fst hd0
    rw [h1] at hb0
    simp only [Rows.uptoBulk] at hb0
    omega
  have hxl0 : xs0.length = 4 := hxs0
  have qe0 : cs0.toList.drop 10 = [] := List.drop_eq_nil_of_le (by simp; omega)
  have ta0_0 : DataW.trod enc Tryd.prog W 0 (fun _ => true) true nn0 24 ((cs0.toList.drop 0).take (Tryd.prog.cellsOf 24)) = xs0[0]? := hfd0 0 _ rfl
  rw [show Tryd.prog.cellsOf 24 = 4 by kernel_rfl] at ta0_0
  obtain ⟨ya0_0, hya0_0⟩ : ∃ y, xs0[0]? = some y := ⟨xs0[0]'(by omega), List.getElem?_eq_getElem _⟩
  rw [hya0_0] at ta0_0
  have ba0_0 : Rows.uptoBulk ya0_0.1 ≤ 1048576 := Nat.le_trans (bulk_part (List.mem_map.2 ⟨ya0_0, List.mem_of_getElem? hya0_0, rfl⟩)) hdb0
  obtain ⟨a0_0, ea0_0, za0_0⟩ := ex_of_trod exLaid nn0 _ _ ta0_0
  obtain ⟨ua0_0, va0_0, ra0_0⟩ := RExpr_open ea0_0
  have qa0_0 : cs0.toList.drop 0 = (cs0.toList.drop 0).take 4 ++ cs0.toList.drop 4 := drop_cut cs0.toList 0 4
  rw [va0_0] at qa0_0
  have ta0_1 : DataW.trod enc Tryd.prog W 0 (fun _ => true) true nn0 24 ((cs0.toList.drop 4).take (Tryd.prog.cellsOf 24)) = xs0[1]? := hfd0 1 _ rfl
  rw [show Tryd.prog.cellsOf 24 = 4 by kernel_rfl] at ta0_1
  obtain ⟨ya0_1, hya0_1⟩ : ∃ y, xs0[1]? = some y := ⟨xs0[1]'(by omega), List.getElem?_eq_getElem _⟩
  rw [hya0_1] at ta0_1
  have ba0_1 : Rows.uptoBulk ya0_1.1 ≤ 1048576 := Nat.le_trans (bulk_part (List.mem_map.2 ⟨ya0_1, List.mem_of_getElem? hya0_1, rfl⟩)) hdb0
  obtain ⟨a0_1, ea0_1, za0_1⟩ := ex_of_trod exLaid nn0 _ _ ta0_1
  obtain ⟨ua0_1, va0_1, ra0_1⟩ := RExpr_open ea0_1
  have qa0_1 : cs0.toList.drop 4 = (cs0.toList.drop 4).take 4 ++ cs0.toList.drop 8 := drop_cut cs0.toList 4 4
  rw [va0_1] at qa0_1
  have ta0_2 : DataW.trod enc Tryd.prog W 0 (fun _ => true) true nn0 25 ((cs0.toList.drop 8).take (Tryd.prog.cellsOf 25)) = xs0[2]? := hfd0 2 _ rfl
  rw [show Tryd.prog.cellsOf 25 = 1 by kernel_rfl] at ta0_2
  obtain ⟨ya0_2, hya0_2⟩ : ∃ y, xs0[2]? = some y := ⟨xs0[2]'(by omega), List.getElem?_eq_getElem _⟩
  rw [hya0_2] at ta0_2
  have ba0_2 : Rows.uptoBulk ya0_2.1 ≤ 1048576 := Nat.le_trans (bulk_part (List.mem_map.2 ⟨ya0_2, List.mem_of_getElem? hya0_2, rfl⟩)) hdb0
  obtain ⟨ua0_2, a0_2, va0_2, ra0_2⟩ := ints_of_trod Tryd.underlying25 Tryd.underlying3 (by kernel_rfl) ta0_2
  have qa0_2 : cs0.toList.drop 8 = (cs0.toList.drop 8).take 1 ++ cs0.toList.drop 9 := drop_cut cs0.toList 8 1
  rw [va0_2] at qa0_2
  have ta0_3 : DataW.trod enc Tryd.prog W 0 (fun _ => true) true nn0 9 ((cs0.toList.drop 9).take (Tryd.prog.cellsOf 9)) = xs0[3]? := hfd0 3 _ rfl
  rw [show Tryd.prog.cellsOf 9 = 1 by kernel_rfl] at ta0_3
  obtain ⟨ya0_3, hya0_3⟩ : ∃ y, xs0[3]? = some y := ⟨xs0[3]'(by omega), List.getElem?_eq_getElem _⟩
  rw [hya0_3] at ta0_3
  have ba0_3 : Rows.uptoBulk ya0_3.1 ≤ 1048576 := Nat.le_trans (bulk_part (List.mem_map.2 ⟨ya0_3, List.mem_of_getElem? hya0_3, rfl⟩)) hdb0
  obtain ⟨⟨⟨a0_3⟩⟩, va0_3, _, wa0_3⟩ := DataW.trod_string Tryd.underlying9 ta0_3
  have qa0_3 : cs0.toList.drop 9 = (cs0.toList.drop 9).take 1 ++ cs0.toList.drop 10 := drop_cut cs0.toList 9 1
  rw [va0_3] at qa0_3
  rw [qe0] at qa0_3
  rw [qa0_3] at qa0_2
  rw [qa0_2] at qa0_1
  rw [qa0_1] at qa0_0
  obtain rfl : cs0 = #[.int .i64 a0_0.op, .int .i64 a0_0.n, .int .i64 a0_0.at_, sl ua0_0, .int .i64 a0_1.op, .int .i64 a0_1.n, .int .i64 a0_1.at_, sl ua0_1, sl ua0_2, S a0_3] := by
    apply Array.toList_inj.1
    exact qa0_0
  clear hA0
  refine (walk a0_0 ua0_0 a0_1 ua0_1 a0_2 ua0_2 a0_3 W (Nat.le_trans za0_0 ba0_0) ra0_0 (Nat.le_trans za0_1 ba0_1) ra0_1 ra0_2 wa0_3 hL).mono fun e W' ⟨he, bel⟩ => ?_
  subst he
  exact ⟨_, rfl, _, _, _, [], _, [], hW', trodAll_mk1 (shut_bool Tryd.underlying4 _), (trodAll_cons_mk (Below.trod laidOut (by kernel_rfl) (of_decide_eq_true (by kernel_rfl)) k0 bel hw0) trodAll_mk0), rfl, bel.frame _, fun h => by cases h⟩

/-- a world for the witness: the settled one, with what the program's text lays -/
noncomputable def laidWorld (os : Os) : World :=
  { World.holding Tryd.prog os ⟨#[], #[], []⟩ with heap := ((((((World.holding Tryd.prog os ⟨#[], #[], []⟩).heap.modify 3 fun
      | .cells _ t frozen => .cells #[.int .u8 0, .int .u8 1, .int .u8 28, .int .u8 2, .int .u8 29, .int .u8 14, .int .u8 24, .int .u8 3, .int .u8 30, .int .u8 22, .int .u8 20, .int .u8 15, .int .u8 25, .int .u8 17, .int .u8 4, .int .u8 8, .int .u8 31, .int .u8 27, .int .u8 13, .int .u8 23, .int .u8 21, .int .u8 19, .int .u8 16, .int .u8 7, .int .u8 26, .int .u8 12, .int .u8 18, .int .u8 6, .int .u8 11, .int .u8 5, .int .u8 10, .int .u8 9] t frozen
      | o => o).modify 4 fun
      | .cells _ t frozen => .cells #[.int .u8 0, .int .u8 1, .int .u8 56, .int .u8 2, .int .u8 57, .int .u8 49, .int .u8 28, .int .u8 3, .int .u8 61, .int .u8 58, .int .u8 42, .int .u8 50, .int .u8 38, .int .u8 29, .int .u8 17, .int .u8 4, .int .u8 62, .int .u8 47, .int .u8 59, .int .u8 36, .int .u8 45, .int .u8 43, .int .u8 51, .int .u8 22, .int .u8 53, .int .u8 39, .int .u8 33, .int .u8 30, .int .u8 24, .int .u8 18, .int .u8 12, .int .u8 5, .int .u8 63, .int .u8 55, .int .u8 48, .int .u8 27, .int .u8 60, .int .u8 41, .int .u8 37, .int .u8 16, .int .u8 46, .int .u8 35, .int .u8 44, .int .u8 21, .int .u8 52, .int .u8 32, .int .u8 23, .int .u8 11, .int .u8 54, .int .u8 26, .int .u8 40, .int .u8 15, .int .u8 34, .int .u8 20, .int .u8 31, .int .u8 10, .int .u8 25, .int .u8 14, .int .u8 19, .int .u8 9, .int .u8 13, .int .u8 8, .int .u8 7, .int .u8 6] t frozen
      | o => o).modify 2 fun
      | .cells _ t frozen => .cells #[.int .u64 1, .int .u64 10, .int .u64 100, .int .u64 1000, .int .u64 10000, .int .u64 100000, .int .u64 1000000, .int .u64 10000000, .int .u64 100000000, .int .u64 1000000000, .int .u64 10000000000, .int .u64 100000000000, .int .u64 1000000000000, .int .u64 10000000000000, .int .u64 100000000000000, .int .u64 1000000000000000, .int .u64 10000000000000000, .int .u64 100000000000000000, .int .u64 1000000000000000000, .int .u64 10000000000000000000] t frozen
      | o => o).modify 0 fun
      | .cells _ t frozen => .cells #[.string ⟨#[116, 114, 117, 101]⟩, .string ⟨#[102, 97, 108, 115, 101]⟩, .string ⟨#[88]⟩, .string ⟨#[70]⟩, .string ⟨#[71]⟩, .string ⟨#[85]⟩, .string ⟨#[82]⟩, .string ⟨#[118, 97, 114]⟩, .string ⟨#[112, 114, 111, 99]⟩] t frozen
      | o => o).modify 1 fun
      | .cells _ t frozen => .cells #[.string ⟨#[]⟩, .string ⟨#[]⟩, .string ⟨#[]⟩, .string ⟨#[43]⟩, .string ⟨#[45]⟩, .string ⟨#[42]⟩, .string ⟨#[45]⟩, .string ⟨#[61, 61]⟩, .string ⟨#[33, 61]⟩, .string ⟨#[60]⟩, .string ⟨#[60, 61]⟩, .string ⟨#[62]⟩, .string ⟨#[62, 61]⟩, .string ⟨#[116, 114, 117, 101]⟩, .string ⟨#[102, 97, 108, 115, 101]⟩, .string ⟨#[33]⟩, .string ⟨#[38]⟩, .string ⟨#[124]⟩, .string ⟨#[45, 62]⟩, .string ⟨#[60, 45, 62]⟩, .string ⟨#[88]⟩, .string ⟨#[70]⟩, .string ⟨#[71]⟩, .string ⟨#[85]⟩, .string ⟨#[82]⟩] t frozen
      | o => o) }
set_option maxRecDepth 100000 in
theorem laid_met (os : Os) : laidMet Tryd.prog Rows.exprTellsUptoRow.laid ((laidWorld os).forCall (fun _ _ => 0) ⟨#[], #[.agg #[.int .i64 0, .int .i64 0, .int .i64 0, .slice none 0 0, .int .i64 0, .int .i64 0, .int .i64 0, .slice none 0 0, .slice none 0 0, .string ByteArray.empty]], []⟩).memory :=
  laidMet_of_run' 8 (by kernel_rfl) (by kernel_rfl)
theorem reads (os : Os) {H : Type} (enc : TypeId × Value → H) : ∃ places, DataW.whole enc Tryd.prog ((laidWorld os).forCall (fun _ _ => 0) ⟨#[], #[.agg #[.int .i64 0, .int .i64 0, .int .i64 0, .slice none 0 0, .int .i64 0, .int .i64 0, .int .i64 0, .slice none 0 0, .slice none 0 0, .string ByteArray.empty]], []⟩).memory Tryd.f3.params.toList Rows.exprTellsSpec.vars false (#[.agg #[.int .i64 0, .int .i64 0, .int .i64 0, .slice none 0 0, .int .i64 0, .int .i64 0, .int .i64 0, .slice none 0 0, .slice none 0 0, .string ByteArray.empty]] : Array Value).toList 8 = some ([.agg [.agg [.lit (.int .i64 0), .lit (.int .i64 0), .lit (.int .i64 0), .nil], .agg [.lit (.int .i64 0), .lit (.int .i64 0), .lit (.int .i64 0), .nil], .nil, .lit (.string [])]], [], places) :=
  ⟨[], by kernel_rfl⟩

set_option maxRecDepth 100000 in
theorem lifted (os : Os) (started : os.Started) (H : Type) (enc : TypeId × Value → H) (F : Stop.Interp) :
    ReturnsInHanded {} Tryd.checked os 3 .any ((Rows.OpenSpec.upto Rows.exprTellsSpec).preRow enc Tryd.prog Tryd.f3 Rows.exprTellsUptoRow.domain false Rows.exprTellsUptoRow.laid) (((Rows.OpenSpec.upto Rows.exprTellsSpec).at F).post enc Tryd.prog Tryd.f3 false true false false) := by
  obtain ⟨places, hx⟩ := reads os enc
  refine returnsInHanded_of_row (C := Tryd.checked) (s := Rows.OpenSpec.upto Rows.exprTellsSpec) own started (by kernel_rfl) Tryd.func3
    (witness_row_at (enc := enc) (C := Tryd.checked) false (laidWorld os) #[.agg #[.int .i64 0, .int .i64 0, .int .i64 0, .slice none 0 0, .int .i64 0, .int .i64 0, .int .i64 0, .slice none 0 0, .slice none 0 0, .string ByteArray.empty]] rfl (by kernel_rfl) (by kernel_rfl) (by kernel_rfl)
      (OpenSpec.preRow_of_cond 8 hx (by kernel_rfl) (fun k hk => by cases hk; kernel_rfl) (by kernel_rfl) (laid_met os))) ?_
  intro W base args ds gs before hval hW _ hcond _ hL _ _
  exact contract H enc W base args ds gs before hval hW hL (of_decide_eq_true (hcond _ rfl))

theorem said : Rows.ExprTellsUptoSaid :=
  OpenClaim.holds_of_cond 3 Tryd.f3 rfl rfl rfl rfl rfl rfl rfl ⟨rfl, rfl, rfl, rfl, rfl⟩ rfl rfl rfl rfl rfl (by kernel_rfl) Tryd.func3 (by kernel_rfl)
    (of_decide_eq_true (by kernel_rfl)) (by unfold Func.isWrapper; first | (rw [if_pos (by decide +kernel)]; kernel_rfl) | (rw [if_neg (by decide +kernel)]; exact ⟨rfl, rfl⟩))
    (fun os started H enc _ F => by rw [OpenClaim.pre_eq_preRow]; exact lifted os started H enc F)

theorem plain (f : FuncId) (fn : Func) (hf : Tryd.pinned.checked.prog.funcNamed "scrutiny/scrutinylaw13.ExprTells" = some f) (hfn : Tryd.pinned.checked.prog.funcs[f]? = some fn) :
    false = Tryd.pinned.checked.prog.looks [] ∧ ∀ (j : Nat) t, fn.params[j]? = some t → Tryd.pinned.checked.prog.wantsStandIn t = false := by
  obtain rfl : f = 3 := Option.some.inj ((show Tryd.prog.funcNamed "scrutiny/scrutinylaw13.ExprTells" = some 3 by kernel_rfl).symm.trans hf) |>.symm
  obtain rfl : fn = Tryd.f3 := (Option.some.inj (Tryd.func3.symm.trans hfn)).symm
  refine ⟨by kernel_rfl, fun j t ht => ?_⟩
  rw [Tryd.params3] at ht
  have hm := Array.mem_of_getElem? ht
  simp only [List.mem_toArray, List.mem_cons, List.not_mem_nil, or_false] at hm
  obtain rfl := hm
  exact (show Tryd.prog.wantsStandIn 27 = false by kernel_rfl)

/-- THE CARD -/
theorem proved : Rows.ExprTellsUptoCardSaid :=
  Claim7.holds_tied_plain_at .later [] _ _ _ _ said (fun _ h => by cases h) (by kernel_rfl) (fun _ h => by cases h) exprTellsUpto_row_tie rfl ⟨rfl, rfl⟩ (by kernel_rfl) rfl plain (by kernel_rfl)
#print axioms proved
end Go.Proofs.YtmeombbmhpcacaaDoor.exprTells
