/- Printed by a program: the walks. -/
import Derived.Test.YtiambejbilkgmaaWalk6
namespace Go.Proofs.Ytiambejbilkgmaa
open Go.Proofs

theorem scrutinylaw12_LexNumbers_ok (w0 : World) {n0 : Int} {noughts1 : Int} {long2 : Int} {r : Bool} (hm : scrutinylaw12_LexNumbers n0 noughts1 long2 = some r) :
    CallsR Try.prog 6 [(.int .u32 n0), (.int .u8 noughts1), (.int .u8 long2)] w0 (fun v w' => Ext w0 w' ∧ v = (.bool r)) := by
  obtain ⟨M0, hM⟩ : ∃ M0 : Nat → Prop, ∀ b, M0 b → b < w0.heap.size := ⟨fun _ => False, fun _ h => h.elim⟩
  have hS : St w0 [] w0 := St.start w0 0
  refine CallsR_enter Try.func6 rfl Try.ntmps6 rfl ?_
  unfold scrutinylaw12_LexNumbers at hm
  refine WC_seq ?_
  refine WC_region ?_
  refine WL_op (Run_assign Opd.c) rfl rfl rfl <| ?_
  refine WL_nil ?_
  refine At_then ?_
  refine WC_seq ?_
  refine WC_region ?_
  obtain ⟨r1, hr2, hm⟩ := bind_some' hm
  refine WL_call (f := 10) (first := []) (cap := []) (xs := []) (vs := []) (args := []) Try.call10 Opd.f .nil rfl rfl (scrutinylaw12_shown_ok w0 hr2) ?_
  rintro _ w4 ⟨hx3, rfl⟩
  replace hS := hS.ext hx3
  refine WL_op (Run_assign (Opd.t rfl)) rfl rfl rfl <| ?_
  refine WL_nil ?_
  refine At_then ?_
  refine WC_seq ?_
  refine WC_region ?_
  refine WL_op (Run_move (Opd.t rfl)) rfl rfl rfl <| WL_op (Run_conv Try.underlying36 Try.underlying3 (Opd.t rfl)) rfl rfl rfl <| WL_op (Run_assign (Opd.t rfl)) rfl rfl rfl <| ?_
  refine WL_nil ?_
  refine At_then ?_
  refine WC_seq ?_
  refine WC_region ?_
  refine WL_op (Run_assign Opd.c) rfl rfl rfl <| ?_
  refine WL_nil ?_
  refine At_then ?_
  refine WC_seq ?_
  refine WC_seq ?_
  refine WC_region ?_
  refine WL_op (Run_move (Opd.t rfl)) rfl rfl rfl <| WL_op (Run_assign (Opd.t rfl)) rfl rfl rfl <| ?_
  refine WL_nil ?_
  refine At_then ?_
  refine WC_block ?_
  refine WC_loop (σ := Str × Int) (γ := Unit) (F := (scrutinylaw12_LexNumbers_L1 n0 noughts1 long2 r1)) (N := FUEL) (s0 := ([], (IntKind.i64.wrap n0))) (r := r) (fun ⟨s5, v6⟩ (_ : Unit) w7 => St w0 [] w7) (fun ⟨s5, v6⟩ (_ : Unit) => [(1, true, (.int .u8 noughts1)), (2, true, (.int .u8 long2)), (7, true, (.bool r1)), (8, true, (.int .i64 (IntKind.i64.wrap n0))), (9, true, (S s5)), (10, true, (.int .i64 v6))]) hm () hS rfl ?_
  rintro again8 ⟨s5, v6⟩ _ w7 hm hS
  unfold scrutinylaw12_LexNumbers_L1 at hm
  dsimp only at hm
  refine WC_seq ?_
  refine WC_seq ?_
  refine WC_region ?_
  obtain ⟨b9, e10, hm⟩ := letv_some hm
  obtain ⟨b11, e12, hm⟩ := letv_some hm
  obtain ⟨b13, e14, hm⟩ := letv_some hm
  refine WL_op (Run_move (Opd.t rfl)) rfl rfl rfl <| WL_op (Run.eqB (Run_gtI (Opd.t rfl) Opd.c) e10) rfl rfl rfl <| WL_op (Run_move (Opd.t rfl)) rfl rfl rfl <| WL_opG rfl rfl rfl rfl guard_neg (Run_move (Opd.t rfl)) rfl rfl <| WL_opG rfl rfl rfl rfl guard_neg (Run.eqB (Run_eqS (Opd.g rfl id) Opd.c) e12) rfl rfl <| WL_op (Run.eqB (Run_or (Opd.t rfl) (Opd.g rfl id)) e14) rfl rfl rfl <| ?_
  refine WL_nil ?_
  refine At_then ?_
  refine WC_cond (Opd.t rfl) (fun hc15 => ?_) (fun hc15 => ?_)
  ·
    replace hm := bif_t hc15 hm
    refine WC_skip ?_
    refine At_then ?_
    refine WC_seq ?_
    refine WC_block ?_
    refine WC_region ?_
    refine WL_op (Run_move (Opd.t rfl)) rfl rfl rfl <| WL_op (Run_rem (Opd.t rfl) Opd.c (by rfl)) rfl rfl rfl <| WL_op (Run_add Opd.c (Opd.t rfl)) rfl rfl rfl <| WL_op (Run_conv Try.underlying3 Try.underlying5 (Opd.t rfl)) rfl rfl rfl <| ?_
    obtain ⟨b16, hb17⟩ : ∃ b, w7.heap.size = b := ⟨_, rfl⟩
    refine WL_buildSlice (zs := [(.int .u8 0)]) (cells := [(.int .u8 (IntKind.u8.wrap (IntKind.i64.wrap (48 + (Int.tmod v6 10)))))]) (parts := [(0, (.tmp 35))]) Try.underlying37 ti5 rfl rfl rfl (.cons (Opd.t rfl) .nil) (by kernel_rfl) hb17 rfl ?_
    intro w18 hx19 hB20
    have hf22 : ¬ Mine [] M0 b16 := newB_free hS hM hb17
    replace hS := hS.ext hx19
    have h21 : SRd (RI .u8) (Mine [] M0) w18 (.slice (some ⟨b16, 0, none⟩) 1 1) ([(IntKind.u8.wrap (IntKind.i64.wrap (48 + (Int.tmod v6 10))))] : List Int) := SRd.fresh (cells := [(.int .u8 (IntKind.u8.wrap (IntKind.i64.wrap (48 + (Int.tmod v6 10)))))]) hB20 hf22 rfl (ARd.cons (c := [(.int .u8 (IntKind.u8.wrap (IntKind.i64.wrap (48 + (Int.tmod v6 10)))))]) rfl ARd.nil)
    obtain ⟨k23, hm⟩ := chk_some hm
    refine WL_op (Run_b2s Try.underlying37 Try.underlying5 Try.underlying9 (Opd.t rfl) (fun _ => h21)) rfl rfl rfl <| WL_op (Run_move (Opd.t rfl)) rfl rfl rfl <| WL_op (Run_cat (Opd.t rfl) (Opd.t rfl) (fun _ => k23)) rfl rfl rfl <| WL_op (Run_assign (Opd.t rfl)) rfl rfl rfl <| ?_
    refine WL_nil ?_
    refine At_blk_normal ?_
    refine At_then ?_
    refine WC_region ?_
    refine WL_op (Run_move (Opd.t rfl)) rfl rfl rfl <| WL_op (Run_quo (Opd.t rfl) Opd.c (by rfl)) rfl rfl rfl <| WL_op (Run_assign (Opd.t rfl)) rfl rfl rfl <| ?_
    refine WL_nil ?_
    exact At_again (((strOf ([(IntKind.u8.wrap (IntKind.i64.wrap (48 + (Int.tmod v6 10))))] : List Int)) ++ s5), (IntKind.i64.wrap (Int.tdiv v6 10))) () hm hS rfl
  ·
    replace hm := bif_f hc15 hm
    refine WC_exit ?_
    refine At_then_exit <| At_then_exit <| At_blk_here <| ?_
    refine At_then ?_
    refine WC_seq ?_
    refine WC_seq ?_
    refine WC_region ?_
    refine WL_op (Run_assign Opd.c) rfl rfl rfl <| ?_
    refine WL_nil ?_
    refine At_then ?_
    refine WC_block ?_
    refine WC_loop (σ := Str × Int) (γ := Unit) (F := (scrutinylaw12_LexNumbers_L2 n0 noughts1 long2 r1)) (N := FUEL) (s0 := (s5, 0)) (r := r) (fun ⟨s24, i25⟩ (_ : Unit) w26 => St w0 [] w26) (fun ⟨s24, i25⟩ (_ : Unit) => [(1, true, (.int .u8 noughts1)), (2, true, (.int .u8 long2)), (7, true, (.bool r1)), (8, true, (.int .i64 (IntKind.i64.wrap n0))), (9, true, (S s24)), (11, true, (.int .i64 i25))]) hm () hS rfl ?_
    rintro again27 ⟨s24, i25⟩ _ w26 hm hS
    unfold scrutinylaw12_LexNumbers_L2 at hm
    dsimp only at hm
    refine WC_seq ?_
    refine WC_seq ?_
    refine WC_region ?_
    refine WL_op (Run_move (Opd.t rfl)) rfl rfl rfl <| WL_op (Run_move (Opd.t rfl)) rfl rfl rfl <| WL_op (Run_conv Try.underlying5 Try.underlying3 (Opd.t rfl)) rfl rfl rfl <| WL_op (Run_rem (Opd.t rfl) Opd.c (by rfl)) rfl rfl rfl <| WL_op (Run_ltI (Opd.t rfl) (Opd.t rfl)) rfl rfl rfl <| ?_
    refine WL_nil ?_
    refine At_then ?_
    refine WC_cond (Opd.t rfl) (fun hc28 => ?_) (fun hc28 => ?_)
    ·
      replace hm := bif_t hc28 hm
      refine WC_skip ?_
      refine At_then ?_
      refine WC_seq ?_
      refine WC_block ?_
      refine WC_region ?_
      obtain ⟨k29, hm⟩ := chk_some hm
      refine WL_op (Run_move (Opd.t rfl)) rfl rfl rfl <| WL_op (Run_cat Opd.c (Opd.t rfl) (fun _ => k29)) rfl rfl rfl <| WL_op (Run_assign (Opd.t rfl)) rfl rfl rfl <| ?_
      refine WL_nil ?_
      refine At_blk_normal ?_
      refine At_then ?_
      refine WC_region ?_
      refine WL_op (Run_move (Opd.t rfl)) rfl rfl rfl <| WL_op (Run_add (Opd.t rfl) Opd.c) rfl rfl rfl <| WL_op (Run_assign (Opd.t rfl)) rfl rfl rfl <| ?_
      refine WL_nil ?_
      exact At_again (([48] ++ s24), (IntKind.i64.wrap (i25 + 1))) () hm hS rfl
    ·
      replace hm := bif_f hc28 hm
      refine WC_exit ?_
      refine At_then_exit <| At_then_exit <| At_blk_here <| ?_
      refine At_then ?_
      refine WC_seq ?_
      refine WC_region ?_
      refine WL_op (Run_move (Opd.t rfl)) rfl rfl rfl <| ?_
      obtain ⟨r30, hr31, hm⟩ := bind_some' hm
      refine WL_call (f := 11) (first := []) (cap := []) (xs := [(.tmp 50)]) (vs := [(S s24)]) (args := [(S s24)]) Try.call11 Opd.f (.cons (Opd.t rfl) .nil) rfl rfl (lex_Tokens_ok w26 (Mine [] M0) (mine_lt hS hM) hr31) ?_
      rintro _ w35 ⟨hx34, v32, rfl, h33⟩
      replace hS := hS.ext hx34
      refine WL_op (Run_move (Opd.t rfl)) rfl rfl rfl <| WL_op (Run_extract (vs := [v32, (.int .i64 r30.2.1), (.int .i64 r30.2.2)]) (Opd.t rfl) rfl) rfl rfl rfl <| WL_op (Run_extract (vs := [v32, (.int .i64 r30.2.1), (.int .i64 r30.2.2)]) (Opd.t rfl) rfl) rfl rfl rfl <| WL_op (Run_extract (vs := [v32, (.int .i64 r30.2.1), (.int .i64 r30.2.2)]) (Opd.t rfl) rfl) rfl rfl rfl <| WL_op (Run_assign (Opd.t rfl)) rfl rfl rfl <| WL_op (Run_assign (Opd.t rfl)) rfl rfl rfl <| WL_op (Run_assign (Opd.t rfl)) rfl rfl rfl <| ?_
      refine WL_nil ?_
      refine At_then ?_
      refine WC_seq ?_
      refine WC_region ?_
      refine WL_op (Run_assign Opd.c) rfl rfl rfl <| ?_
      refine WL_nil ?_
      refine At_then ?_
      refine WC_seq ?_
      refine WC_seq ?_
      refine WC_region ?_
      refine WL_op (Run_assign Opd.c) rfl rfl rfl <| ?_
      refine WL_nil ?_
      refine At_then ?_
      refine WC_block ?_
      refine WC_loop (σ := Str × Int) (γ := Unit) (F := (scrutinylaw12_LexNumbers_L3 n0 long2 r1 s24 r30)) (N := FUEL) (s0 := ([], 0)) (r := r) (fun ⟨name36, i37⟩ (_ : Unit) w38 => St w0 [] w38 ∧ SRd (RP (RI .i64) (RP RS (RP (RI .i64) (RI .i64)))) (Mine [] M0) w38 v32 r30.1) (fun ⟨name36, i37⟩ (_ : Unit) => [(2, true, (.int .u8 long2)), (7, true, (.bool r1)), (8, true, (.int .i64 (IntKind.i64.wrap n0))), (9, true, (S s24)), (12, true, v32), (13, true, (.int .i64 r30.2.1)), (14, true, (.int .i64 r30.2.2)), (15, true, (S name36)), (16, true, (.int .i64 i37))]) hm () ⟨hS, h33⟩ rfl ?_
      rintro again39 ⟨name36, i37⟩ _ w38 hm ⟨hS, h33⟩
      unfold scrutinylaw12_LexNumbers_L3 at hm
      dsimp only at hm
      refine WC_seq ?_
      refine WC_seq ?_
      refine WC_region ?_
      refine WL_op (Run_move (Opd.t rfl)) rfl rfl rfl <| WL_op (Run_move (Opd.t rfl)) rfl rfl rfl <| WL_op (Run_conv Try.underlying5 Try.underlying3 (Opd.t rfl)) rfl rfl rfl <| WL_op (Run_rem (Opd.t rfl) Opd.c (by rfl)) rfl rfl rfl <| WL_op (Run_leI (Opd.t rfl) (Opd.t rfl)) rfl rfl rfl <| ?_
      refine WL_nil ?_
      refine At_then ?_
      refine WC_cond (Opd.t rfl) (fun hc40 => ?_) (fun hc40 => ?_)
      ·
        replace hm := bif_t hc40 hm
        refine WC_skip ?_
        refine At_then ?_
        refine WC_seq ?_
        refine WC_block ?_
        refine WC_region ?_
        obtain ⟨k41, hm⟩ := chk_some hm
        refine WL_op (Run_move (Opd.t rfl)) rfl rfl rfl <| WL_op (Run_cat (Opd.t rfl) Opd.c (fun _ => k41)) rfl rfl rfl <| WL_op (Run_assign (Opd.t rfl)) rfl rfl rfl <| ?_
        refine WL_nil ?_
        refine At_blk_normal ?_
        refine At_then ?_
        refine WC_region ?_
        refine WL_op (Run_move (Opd.t rfl)) rfl rfl rfl <| WL_op (Run_add (Opd.t rfl) Opd.c) rfl rfl rfl <| WL_op (Run_assign (Opd.t rfl)) rfl rfl rfl <| ?_
        refine WL_nil ?_
        exact At_again ((name36 ++ [97]), (IntKind.i64.wrap (i37 + 1))) () hm ⟨hS, h33⟩ rfl
      ·
        replace hm := bif_f hc40 hm
        refine WC_exit ?_
        refine At_then_exit <| At_then_exit <| At_blk_here <| ?_
        refine At_then ?_
        refine WC_seq ?_
        refine WC_region ?_
        obtain ⟨k42, hm⟩ := chk_some hm
        obtain ⟨k43, hm⟩ := chk_some hm
        refine WL_op (Run_move (Opd.t rfl)) rfl rfl rfl <| WL_op (Run_cat Opd.c (Opd.t rfl) (fun _ => k42)) rfl rfl rfl <| WL_op (Run_cat (Opd.t rfl) Opd.c (fun _ => k43)) rfl rfl rfl <| ?_
        obtain ⟨r44, hr45, hm⟩ := bind_some' hm
        refine WL_call (f := 11) (first := []) (cap := []) (xs := [(.tmp 67)]) (vs := [(S (([32] ++ name36) ++ [40]))]) (args := [(S (([32] ++ name36) ++ [40]))]) Try.call11 Opd.f (.cons (Opd.t rfl) .nil) rfl rfl (lex_Tokens_ok w38 (Mine [] M0) (mine_lt hS hM) hr45) ?_
        rintro _ w49 ⟨hx48, v46, rfl, h47⟩
        replace h33 := h33.mv (hx48.mv _)
        replace hS := hS.ext hx48
        refine WL_op (Run_move (Opd.t rfl)) rfl rfl rfl <| WL_op (Run_extract (vs := [v46, (.int .i64 r44.2.1), (.int .i64 r44.2.2)]) (Opd.t rfl) rfl) rfl rfl rfl <| WL_op (Run_extract (vs := [v46, (.int .i64 r44.2.1), (.int .i64 r44.2.2)]) (Opd.t rfl) rfl) rfl rfl rfl <| WL_op (Run_extract (vs := [v46, (.int .i64 r44.2.1), (.int .i64 r44.2.2)]) (Opd.t rfl) rfl) rfl rfl rfl <| WL_op (Run_assign (Opd.t rfl)) rfl rfl rfl <| WL_op (Run_assign (Opd.t rfl)) rfl rfl rfl <| WL_op (Run_assign (Opd.t rfl)) rfl rfl rfl <| ?_
        refine WL_nil ?_
        refine At_then ?_
        refine WC_seq ?_
        refine WC_seq ?_
        refine WC_region ?_
        obtain ⟨b50, e51, hm⟩ := letv_some hm
        obtain ⟨b52, e53, hm⟩ := letv_some hm
        obtain ⟨b54, e55, hm⟩ := letv_some hm
        refine WL_op (Run_move (Opd.t rfl)) rfl rfl rfl <| WL_op (Run.eqB (Run_eqI (Opd.t rfl) Opd.c) e51) rfl rfl rfl <| WL_op (Run_move (Opd.t rfl)) rfl rfl rfl <| WL_op (Run_lenS Try.underlying9 (Opd.t rfl)) rfl rfl rfl <| WL_op (Run.eqB (Run_leI (Opd.t rfl) Opd.c) e53) rfl rfl rfl <| WL_op (Run.eqB (Run_neB Try.underlying4 (Opd.t rfl) (Opd.t rfl)) e55) rfl rfl rfl <| WL_op (Run_move (Opd.t rfl)) rfl rfl rfl <| WL_opG rfl rfl rfl rfl guard_neg (Run_move (Opd.t rfl)) rfl rfl <| ?_
        obtain ⟨b56, e57, hm⟩ := letv_some hm
        obtain ⟨b58, e59, hm⟩ := letv_some hm
        obtain ⟨b60, e61, hm⟩ := letv_some hm
        obtain ⟨b62, e63, hm⟩ := letv_some hm
        refine WL_opG rfl rfl rfl rfl guard_neg (Run.eqB (Run_neI (Opd.g rfl id) Opd.c) e57) rfl rfl <| WL_opG rfl rfl rfl rfl guard_neg (Run_move (Opd.g rfl id)) rfl rfl <| WL_opG rfl rfl rfl rfl guard_pos' (Run_move (Opd.t rfl)) rfl rfl <| WL_opG rfl rfl rfl rfl guard_pos' (Run.eqB (Run_neI (Opd.g rfl id) Opd.c) e59) rfl rfl <| WL_opG rfl rfl rfl rfl guard_pos' (Run_move (Opd.g rfl id)) rfl rfl <| WL_opG rfl rfl rfl rfl guard_neg' (Run_move (Opd.t rfl)) rfl rfl <| WL_opG rfl rfl rfl rfl guard_neg' (Run.eqB (Run_neI (Opd.g rfl id) Opd.c) e61) rfl rfl <| WL_opG rfl rfl rfl rfl guard_pos' (Run.eqB (Run_or (Opd.g rfl id) (Opd.g rfl id)) e63) rfl rfl <| ?_
        obtain ⟨b64, e65, hm⟩ := letv_some hm
        obtain ⟨b66, e67, hm⟩ := letv_some hm
        obtain ⟨b68, e69, hm⟩ := letv_some hm
        refine WL_opG rfl rfl rfl rfl guard_neg (Run.eqB (Run_and (Opd.g rfl id) (Opd.g rfl id)) e65) rfl rfl <| WL_op (Run.eqB (Run_or (Opd.t rfl) (Opd.g rfl id)) e67) rfl rfl rfl <| WL_op (Run_move (Opd.t rfl)) rfl rfl rfl <| WL_opG rfl rfl rfl rfl guard_neg (Run_move (Opd.t rfl)) rfl rfl <| WL_opG rfl rfl rfl rfl guard_neg (Run.eqB (Run_eqI (Opd.g rfl id) Opd.c) e69) rfl rfl <| WL_opG rfl rfl rfl rfl guard_neg (Run_move (Opd.g rfl id)) rfl rfl <| WL_opG rfl rfl rfl rfl guard_pos' (Run_move (Opd.t rfl)) rfl rfl <| WL_opG rfl rfl rfl rfl guard_pos' (Run_lenSl Try.underlying23 (Opd.g rfl id) h47.len) rfl rfl <| ?_
        obtain ⟨b70, e71, hm⟩ := letv_some hm
        obtain ⟨e72, he73, -, hm⟩ := callG_some hm
        obtain ⟨p74, vs75, hE76, hC77, hR78⟩ := SRd.atG (fun _ => h47) he73
        replace hC77 : (((!b66) && b68) && !b70) = true → CellsAt w49 p74 [(.int .i64 e72.1), (S e72.2.1), (.int .i64 e72.2.2.1), (.int .i64 e72.2.2.2)] := fun hg => openT34 (hR78 hg) ▸ hC77 hg
        obtain ⟨b79, e80, hm⟩ := letv_some hm
        refine WL_opG rfl rfl rfl rfl guard_pos' (Run.eqB (Run_neI (Opd.g rfl id) Opd.c) e71) rfl rfl <| WL_opG rfl rfl rfl rfl guard_pos' (Run_move (Opd.g rfl id)) rfl rfl <| WL_opG rfl rfl rfl rfl guard_neg' (Run_move (Opd.t rfl)) rfl rfl <| WL_opG rfl rfl rfl rfl guard_neg' (Run_idxAddr Try.underlying23 ti34 (Opd.g rfl id) Opd.c hE76) rfl rfl <| WL_opG rfl rfl rfl rfl guard_neg' (Run_fieldAddr fo34_1 (Opd.g rfl id)) rfl rfl <| WL_opG rfl rfl rfl rfl guard_neg' (Run_load1 (v := (S e72.2.1)) Try.underlying9 rfl (Opd.g rfl id) (fun hg => ((hC77 hg).sub 1 rfl))) rfl rfl <| WL_opG rfl rfl rfl rfl guard_neg' (Run_move (Opd.t rfl)) rfl rfl <| WL_opG rfl rfl rfl rfl guard_neg' (Run.eqB (Run_neS (Opd.g rfl id) (Opd.g rfl id)) e80) rfl rfl <| ?_
        obtain ⟨b81, e82, hm⟩ := letv_some hm
        obtain ⟨b83, e84, hm⟩ := letv_some hm
        obtain ⟨b85, e86, hm⟩ := letv_some hm
        refine WL_opG rfl rfl rfl rfl guard_pos' (Run.eqB (Run_or (Opd.g rfl id) (Opd.g rfl id)) e82) rfl rfl <| WL_opG rfl rfl rfl rfl guard_neg (Run.eqB (Run_and (Opd.g rfl id) (Opd.g rfl id)) e84) rfl rfl <| WL_op (Run.eqB (Run_or (Opd.t rfl) (Opd.g rfl id)) e86) rfl rfl rfl <| ?_
        refine WL_nil ?_
        refine At_then ?_
        refine WC_cond (Opd.t rfl) (fun hc87 => ?_) (fun hc87 => ?_)
        ·
          replace hm := bif_t hc87 hm
          refine WC_seq ?_
          refine WC_region ?_
          refine WL_op (Run_assign Opd.c) rfl rfl rfl <| ?_
          refine WL_nil ?_
          refine At_then ?_
          refine WC_ret ?_
          refine At_then_ret <| ?_
          refine At_r1 rfl (ResIs.t rfl) ?_
          cases hm
          exact ⟨hS.toExt, rfl⟩
        ·
          replace hm := bif_f hc87 hm
          refine WC_skip ?_
          refine At_then ?_
          refine WC_seq ?_
          refine WC_seq ?_
          refine WC_region ?_
          refine WL_op (Run_move (Opd.t rfl)) rfl rfl rfl <| WL_op (Run_gtI (Opd.t rfl) Opd.c) rfl rfl rfl <| ?_
          refine WL_nil ?_
          refine At_then ?_
          refine WC_cond (Opd.t rfl) (fun hc88 => ?_) (fun hc88 => ?_)
          ·
            replace hm := bif_t hc88 hm
            refine WC_seq ?_
            refine WC_region ?_
            obtain ⟨b89, e90, hm⟩ := letv_some hm
            obtain ⟨b91, e92, hm⟩ := letv_some hm
            obtain ⟨b93, e94, hm⟩ := letv_some hm
            refine WL_op (Run_move (Opd.t rfl)) rfl rfl rfl <| WL_op (Run_move (Opd.t rfl)) rfl rfl rfl <| WL_opG rfl rfl rfl rfl guard_pos (Run_move (Opd.t rfl)) rfl rfl <| WL_opG rfl rfl rfl rfl guard_pos (Run.eqB (Run_eqI (Opd.g rfl id) Opd.c) e90) rfl rfl <| WL_op (Run.eqB (Run_and (Opd.t rfl) (Opd.g rfl id)) e92) rfl rfl rfl <| WL_op (Run_move (Opd.t rfl)) rfl rfl rfl <| WL_opG rfl rfl rfl rfl guard_pos (Run_move (Opd.t rfl)) rfl rfl <| WL_opG rfl rfl rfl rfl guard_pos (Run.eqB (Run_eqI (Opd.g rfl id) Opd.c) e94) rfl rfl <| ?_
            obtain ⟨b95, e96, hm⟩ := letv_some hm
            refine WL_op (Run.eqB (Run_and (Opd.t rfl) (Opd.g rfl id)) e96) rfl rfl rfl <| WL_op (Run_assign (Opd.t rfl)) rfl rfl rfl <| ?_
            refine WL_nil ?_
            refine At_then ?_
            refine WC_ret ?_
            refine At_then_ret <| ?_
            refine At_r1 rfl (ResIs.t rfl) ?_
            cases hm
            exact ⟨hS.toExt, rfl⟩
          ·
            replace hm := bif_f hc88 hm
            refine WC_skip ?_
            refine At_then ?_
            refine WC_seq ?_
            refine WC_region ?_
            obtain ⟨b97, e98, hm⟩ := letv_some hm
            obtain ⟨b99, e100, hm⟩ := letv_some hm
            refine WL_op (Run_move (Opd.t rfl)) rfl rfl rfl <| WL_op (Run_move (Opd.t rfl)) rfl rfl rfl <| WL_opG rfl rfl rfl rfl guard_pos (Run_move (Opd.t rfl)) rfl rfl <| WL_opG rfl rfl rfl rfl guard_pos (Run.eqB (Run_eqI (Opd.g rfl id) Opd.c) e98) rfl rfl <| WL_op (Run.eqB (Run_and (Opd.t rfl) (Opd.g rfl id)) e100) rfl rfl rfl <| WL_op (Run_move (Opd.t rfl)) rfl rfl rfl <| WL_opG rfl rfl rfl rfl guard_pos (Run_move (Opd.t rfl)) rfl rfl <| WL_opG rfl rfl rfl rfl guard_pos (Run_lenSl Try.underlying23 (Opd.g rfl id) h33.len) rfl rfl <| ?_
            obtain ⟨b101, e102, hm⟩ := letv_some hm
            obtain ⟨b103, e104, hm⟩ := letv_some hm
            obtain ⟨e105, he106, -, hm⟩ := callG_some hm
            obtain ⟨p107, vs108, hE109, hC110, hR111⟩ := SRd.atG (fun _ => h33) he106
            replace hC110 : b103 = true → CellsAt w49 p107 [(.int .i64 e105.1), (S e105.2.1), (.int .i64 e105.2.2.1), (.int .i64 e105.2.2.2)] := fun hg => openT34 (hR111 hg) ▸ hC110 hg
            refine WL_opG rfl rfl rfl rfl guard_pos (Run.eqB (Run_eqI (Opd.g rfl id) Opd.c) e102) rfl rfl <| WL_op (Run.eqB (Run_and (Opd.t rfl) (Opd.g rfl id)) e104) rfl rfl rfl <| WL_op (Run_move (Opd.t rfl)) rfl rfl rfl <| WL_opG rfl rfl rfl rfl guard_pos (Run_move (Opd.t rfl)) rfl rfl <| WL_opG rfl rfl rfl rfl guard_pos (Run_idxAddr Try.underlying23 ti34 (Opd.g rfl id) Opd.c hE109) rfl rfl <| WL_opG rfl rfl rfl rfl guard_pos (Run_fieldAddr fo34_2 (Opd.g rfl id)) rfl rfl <| WL_opG rfl rfl rfl rfl guard_pos (Run_load1 (v := (.int .i64 e105.2.2.1)) Try.underlying3 rfl (Opd.g rfl id) (fun hg => ((hC110 hg).sub 2 rfl))) rfl rfl <| WL_opG rfl rfl rfl rfl guard_pos (Run_move (Opd.t rfl)) rfl rfl <| ?_
            obtain ⟨b112, e113, hm⟩ := letv_some hm
            obtain ⟨b114, e115, hm⟩ := letv_some hm
            obtain ⟨e116, he117, -, hm⟩ := callG_some hm
            obtain ⟨p118, vs119, hE120, hC121, hR122⟩ := SRd.atG (fun _ => h33) he117
            replace hC121 : b114 = true → CellsAt w49 p118 [(.int .i64 e116.1), (S e116.2.1), (.int .i64 e116.2.2.1), (.int .i64 e116.2.2.2)] := fun hg => openT34 (hR122 hg) ▸ hC121 hg
            refine WL_opG rfl rfl rfl rfl guard_pos (Run.eqB (Run_eqI (Opd.g rfl id) (Opd.g rfl id)) e113) rfl rfl <| WL_op (Run.eqB (Run_and (Opd.t rfl) (Opd.g rfl id)) e115) rfl rfl rfl <| WL_op (Run_move (Opd.t rfl)) rfl rfl rfl <| WL_opG rfl rfl rfl rfl guard_pos (Run_move (Opd.t rfl)) rfl rfl <| WL_opG rfl rfl rfl rfl guard_pos (Run_idxAddr Try.underlying23 ti34 (Opd.g rfl id) Opd.c hE120) rfl rfl <| WL_opG rfl rfl rfl rfl guard_pos (Run_fieldAddr fo34_1 (Opd.g rfl id)) rfl rfl <| WL_opG rfl rfl rfl rfl guard_pos (Run_load1 (v := (S e116.2.1)) Try.underlying9 rfl (Opd.g rfl id) (fun hg => ((hC121 hg).sub 1 rfl))) rfl rfl <| WL_opG rfl rfl rfl rfl guard_pos (Run_move (Opd.t rfl)) rfl rfl <| ?_
            obtain ⟨b123, e124, hm⟩ := letv_some hm
            obtain ⟨b125, e126, hm⟩ := letv_some hm
            obtain ⟨e127, he128, -, hm⟩ := callG_some hm
            obtain ⟨p129, vs130, hE131, hC132, hR133⟩ := SRd.atG (fun _ => h33) he128
            replace hC132 : b125 = true → CellsAt w49 p129 [(.int .i64 e127.1), (S e127.2.1), (.int .i64 e127.2.2.1), (.int .i64 e127.2.2.2)] := fun hg => openT34 (hR133 hg) ▸ hC132 hg
            obtain ⟨b134, e135, hm⟩ := letv_some hm
            refine WL_opG rfl rfl rfl rfl guard_pos (Run.eqB (Run_eqS (Opd.g rfl id) (Opd.g rfl id)) e124) rfl rfl <| WL_op (Run.eqB (Run_and (Opd.t rfl) (Opd.g rfl id)) e126) rfl rfl rfl <| WL_op (Run_move (Opd.t rfl)) rfl rfl rfl <| WL_opG rfl rfl rfl rfl guard_pos (Run_move (Opd.t rfl)) rfl rfl <| WL_opG rfl rfl rfl rfl guard_pos (Run_idxAddr Try.underlying23 ti34 (Opd.g rfl id) Opd.c hE131) rfl rfl <| WL_opG rfl rfl rfl rfl guard_pos (Run_fieldAddr fo34_0 (Opd.g rfl id)) rfl rfl <| WL_opG rfl rfl rfl rfl guard_pos (Run_load1 (v := (.int .i64 e127.1)) Try.underlying3 rfl (Opd.g rfl id) (fun hg => ((hC132 hg).sub 0 rfl))) rfl rfl <| WL_opG rfl rfl rfl rfl guard_pos (Run.eqB (Run_eqI (Opd.g rfl id) Opd.c) e135) rfl rfl <| ?_
            obtain ⟨b136, e137, hm⟩ := letv_some hm
            refine WL_op (Run.eqB (Run_and (Opd.t rfl) (Opd.g rfl id)) e137) rfl rfl rfl <| WL_op (Run_assign (Opd.t rfl)) rfl rfl rfl <| ?_
            refine WL_nil ?_
            refine At_then ?_
            refine WC_ret ?_
            refine At_r1 rfl (ResIs.t rfl) ?_
            cases hm
            exact ⟨hS.toExt, rfl⟩

theorem scrutinylaw12_LexJoins_ok (w0 : World) {a0 : Str} {b1 : Str} {r : Bool} (hm : scrutinylaw12_LexJoins a0 b1 = some r) :
    CallsR Try.prog 7 [(S a0), (S b1)] w0 (fun v w' => Ext w0 w' ∧ v = (.bool r)) := by
  obtain ⟨M0, hM⟩ : ∃ M0 : Nat → Prop, ∀ b, M0 b → b < w0.heap.size := ⟨fun _ => False, fun _ h => h.elim⟩
  have hS : St w0 [[]] w0 := St.start w0 1
  refine CallsR_enter Try.func7 rfl Try.ntmps7 rfl ?_
  unfold scrutinylaw12_LexJoins at hm
  refine WC_seq ?_
  refine WC_region ?_
  refine WL_op (Run_assign Opd.c) rfl rfl rfl <| ?_
  refine WL_nil ?_
  refine At_then ?_
  refine WC_seq ?_
  refine WC_region ?_
  obtain ⟨r1, hr2, hm⟩ := bind_some' hm
  refine WL_call (f := 10) (first := []) (cap := []) (xs := []) (vs := []) (args := []) Try.call10 Opd.f .nil rfl rfl (scrutinylaw12_shown_ok w0 hr2) ?_
  rintro _ w4 ⟨hx3, rfl⟩
  replace hS := hS.ext hx3
  refine WL_op (Run_assign (Opd.t rfl)) rfl rfl rfl <| ?_
  refine WL_nil ?_
  refine At_then ?_
  refine WC_seq ?_
  refine WC_seq ?_
  refine WC_region ?_
  obtain ⟨b5, e6, hm⟩ := letv_some hm
  obtain ⟨b7, e8, hm⟩ := letv_some hm
  obtain ⟨b9, e10, hm⟩ := letv_some hm
  refine WL_op (Run_move (Opd.t rfl)) rfl rfl rfl <| WL_op (Run_lenS Try.underlying9 (Opd.t rfl)) rfl rfl rfl <| WL_op (Run.eqB (Run_gtI (Opd.t rfl) Opd.c) e6) rfl rfl rfl <| WL_op (Run_move (Opd.t rfl)) rfl rfl rfl <| WL_opG rfl rfl rfl rfl guard_neg (Run_move (Opd.t rfl)) rfl rfl <| WL_opG rfl rfl rfl rfl guard_neg (Run_lenS Try.underlying9 (Opd.g rfl id)) rfl rfl <| WL_opG rfl rfl rfl rfl guard_neg (Run.eqB (Run_gtI (Opd.g rfl id) Opd.c) e8) rfl rfl <| WL_op (Run.eqB (Run_or (Opd.t rfl) (Opd.g rfl id)) e10) rfl rfl rfl <| ?_
  refine WL_nil ?_
  refine At_then ?_
  refine WC_cond (Opd.t rfl) (fun hc11 => ?_) (fun hc11 => ?_)
  ·
    replace hm := bif_t hc11 hm
    refine WC_seq ?_
    refine WC_region ?_
    refine WL_op (Run_move (Opd.t rfl)) rfl rfl rfl <| WL_op (Run_assign (Opd.t rfl)) rfl rfl rfl <| ?_
    refine WL_nil ?_
    refine At_then ?_
    refine WC_ret ?_
    refine At_then_ret <| ?_
    refine At_r1 rfl (ResIs.t rfl) ?_
    cases hm
    exact ⟨hS.toExt, rfl⟩
  ·
    replace hm := bif_f hc11 hm
    refine WC_skip ?_
    refine At_then ?_
    refine WC_seq ?_
    refine WC_region ?_
    refine WL_op (Run_move (Opd.t rfl)) rfl rfl rfl <| ?_
    obtain ⟨r12, hr13, hm⟩ := bind_some' hm
    refine WL_call (f := 11) (first := []) (cap := []) (xs := [(.tmp 28)]) (vs := [(S a0)]) (args := [(S a0)]) Try.call11 Opd.f (.cons (Opd.t rfl) .nil) rfl rfl (lex_Tokens_ok w4 (Mine [[]] M0) (mine_lt hS hM) hr13) ?_
    rintro _ w17 ⟨hx16, v14, rfl, h15⟩
    replace hS := hS.ext hx16
    refine WL_op (Run_move (Opd.t rfl)) rfl rfl rfl <| WL_op (Run_extract (vs := [v14, (.int .i64 r12.2.1), (.int .i64 r12.2.2)]) (Opd.t rfl) rfl) rfl rfl rfl <| WL_op (Run_extract (vs := [v14, (.int .i64 r12.2.1), (.int .i64 r12.2.2)]) (Opd.t rfl) rfl) rfl rfl rfl <| WL_op (Run_extract (vs := [v14, (.int .i64 r12.2.1), (.int .i64 r12.2.2)]) (Opd.t rfl) rfl) rfl rfl rfl <| WL_op (Run_assign (Opd.t rfl)) rfl rfl rfl <| WL_op (Run_assign (Opd.t rfl)) rfl rfl rfl <| WL_op (Run_assign (Opd.t rfl)) rfl rfl rfl <| ?_
    refine WL_nil ?_
    refine At_then ?_
    refine WC_seq ?_
    refine WC_region ?_
    refine WL_op (Run_move (Opd.t rfl)) rfl rfl rfl <| ?_
    obtain ⟨r18, hr19, hm⟩ := bind_some' hm
    refine WL_call (f := 11) (first := []) (cap := []) (xs := [(.tmp 34)]) (vs := [(S b1)]) (args := [(S b1)]) Try.call11 Opd.f (.cons (Opd.t rfl) .nil) rfl rfl (lex_Tokens_ok w17 (Mine [[]] M0) (mine_lt hS hM) hr19) ?_
    rintro _ w23 ⟨hx22, v20, rfl, h21⟩
    replace h15 := h15.mv (hx22.mv _)
    replace hS := hS.ext hx22
    refine WL_op (Run_move (Opd.t rfl)) rfl rfl rfl <| WL_op (Run_extract (vs := [v20, (.int .i64 r18.2.1), (.int .i64 r18.2.2)]) (Opd.t rfl) rfl) rfl rfl rfl <| WL_op (Run_extract (vs := [v20, (.int .i64 r18.2.1), (.int .i64 r18.2.2)]) (Opd.t rfl) rfl) rfl rfl rfl <| WL_op (Run_extract (vs := [v20, (.int .i64 r18.2.1), (.int .i64 r18.2.2)]) (Opd.t rfl) rfl) rfl rfl rfl <| WL_op (Run_assign (Opd.t rfl)) rfl rfl rfl <| WL_op (Run_assign (Opd.t rfl)) rfl rfl rfl <| WL_op (Run_assign (Opd.t rfl)) rfl rfl rfl <| ?_
    refine WL_nil ?_
    refine At_then ?_
    refine WC_seq ?_
    refine WC_region ?_
    obtain ⟨k24, hm⟩ := chk_some hm
    obtain ⟨k25, hm⟩ := chk_some hm
    refine WL_op (Run_move (Opd.t rfl)) rfl rfl rfl <| WL_op (Run_cat (Opd.t rfl) Opd.c (fun _ => k24)) rfl rfl rfl <| WL_op (Run_move (Opd.t rfl)) rfl rfl rfl <| WL_op (Run_cat (Opd.t rfl) (Opd.t rfl) (fun _ => k25)) rfl rfl rfl <| ?_
    obtain ⟨r26, hr27, hm⟩ := bind_some' hm
    refine WL_call (f := 11) (first := []) (cap := []) (xs := [(.tmp 43)]) (vs := [(S ((a0 ++ [10]) ++ b1))]) (args := [(S ((a0 ++ [10]) ++ b1))]) Try.call11 Opd.f (.cons (Opd.t rfl) .nil) rfl rfl (lex_Tokens_ok w23 (Mine [[]] M0) (mine_lt hS hM) hr27) ?_
    rintro _ w31 ⟨hx30, v28, rfl, h29⟩
    replace h15 := h15.mv (hx30.mv _)
    replace h21 := h21.mv (hx30.mv _)
    replace hS := hS.ext hx30
    refine WL_op (Run_move (Opd.t rfl)) rfl rfl rfl <| WL_op (Run_extract (vs := [v28, (.int .i64 r26.2.1), (.int .i64 r26.2.2)]) (Opd.t rfl) rfl) rfl rfl rfl <| WL_op (Run_extract (vs := [v28, (.int .i64 r26.2.1), (.int .i64 r26.2.2)]) (Opd.t rfl) rfl) rfl rfl rfl <| WL_op (Run_extract (vs := [v28, (.int .i64 r26.2.1), (.int .i64 r26.2.2)]) (Opd.t rfl) rfl) rfl rfl rfl <| WL_op (Run_assign (Opd.t rfl)) rfl rfl rfl <| WL_op (Run_assign (Opd.t rfl)) rfl rfl rfl <| WL_op (Run_assign (Opd.t rfl)) rfl rfl rfl <| ?_
    refine WL_nil ?_
    refine At_then ?_
    refine WC_seq ?_
    refine WC_seq ?_
    refine WC_region ?_
    refine WL_op (Run_move (Opd.t rfl)) rfl rfl rfl <| WL_op (Run_neI (Opd.t rfl) Opd.c) rfl rfl rfl <| ?_
    refine WL_nil ?_
    refine At_then ?_
    refine WC_cond (Opd.t rfl) (fun hc32 => ?_) (fun hc32 => ?_)
    ·
      replace hm := bif_t hc32 hm
      refine WC_seq ?_
      refine WC_region ?_
      obtain ⟨b33, e34, hm⟩ := letv_some hm
      obtain ⟨b35, e36, hm⟩ := letv_some hm
      refine WL_op (Run_move (Opd.t rfl)) rfl rfl rfl <| WL_op (Run_move (Opd.t rfl)) rfl rfl rfl <| WL_opG rfl rfl rfl rfl guard_pos (Run_move (Opd.t rfl)) rfl rfl <| WL_opG rfl rfl rfl rfl guard_pos (Run_move (Opd.t rfl)) rfl rfl <| WL_opG rfl rfl rfl rfl guard_pos (Run.eqB (Run_eqI (Opd.g rfl id) (Opd.g rfl id)) e34) rfl rfl <| WL_op (Run.eqB (Run_and (Opd.t rfl) (Opd.g rfl id)) e36) rfl rfl rfl <| WL_op (Run_move (Opd.t rfl)) rfl rfl rfl <| WL_opG rfl rfl rfl rfl guard_pos (Run_move (Opd.t rfl)) rfl rfl <| ?_
      obtain ⟨b37, e38, hm⟩ := letv_some hm
      obtain ⟨b39, e40, hm⟩ := letv_some hm
      obtain ⟨b41, e42, hm⟩ := letv_some hm
      obtain ⟨b43, e44, hm⟩ := letv_some hm
      refine WL_opG rfl rfl rfl rfl guard_pos (Run_move (Opd.t rfl)) rfl rfl <| WL_opG rfl rfl rfl rfl guard_pos (Run.eqB (Run_eqI (Opd.g rfl id) (Opd.g rfl id)) e38) rfl rfl <| WL_op (Run.eqB (Run_and (Opd.t rfl) (Opd.g rfl id)) e40) rfl rfl rfl <| WL_op (Run_move (Opd.t rfl)) rfl rfl rfl <| WL_opG rfl rfl rfl rfl guard_pos (Run_move (Opd.t rfl)) rfl rfl <| WL_opG rfl rfl rfl rfl guard_pos (Run_lenSl Try.underlying23 (Opd.g rfl id) h29.len) rfl rfl <| WL_opG rfl rfl rfl rfl guard_pos (Run.eqB (Run_eqI (Opd.g rfl id) Opd.c) e42) rfl rfl <| WL_op (Run.eqB (Run_and (Opd.t rfl) (Opd.g rfl id)) e44) rfl rfl rfl <| ?_
      refine WL_op (Run_assign (Opd.t rfl)) rfl rfl rfl <| ?_
      refine WL_nil ?_
      refine At_then ?_
      refine WC_ret ?_
      refine At_then_ret <| ?_
      refine At_r1 rfl (ResIs.t rfl) ?_
      cases hm
      exact ⟨hS.toExt, rfl⟩
    ·
      replace hm := bif_f hc32 hm
      refine WC_skip ?_
      refine At_then ?_
      refine WC_seq ?_
      refine WC_seq ?_
      refine WC_region ?_
      refine WL_op (Run_move (Opd.t rfl)) rfl rfl rfl <| WL_op (Run_neI (Opd.t rfl) Opd.c) rfl rfl rfl <| ?_
      refine WL_nil ?_
      refine At_then ?_
      refine WC_cond (Opd.t rfl) (fun hc45 => ?_) (fun hc45 => ?_)
      ·
        replace hm := bif_t hc45 hm
        refine WC_seq ?_
        refine WC_region ?_
        obtain ⟨b46, e47, hm⟩ := letv_some hm
        obtain ⟨b48, e49, hm⟩ := letv_some hm
        refine WL_op (Run_move (Opd.t rfl)) rfl rfl rfl <| WL_op (Run_move (Opd.t rfl)) rfl rfl rfl <| WL_opG rfl rfl rfl rfl guard_pos (Run_move (Opd.t rfl)) rfl rfl <| WL_opG rfl rfl rfl rfl guard_pos (Run_move (Opd.t rfl)) rfl rfl <| WL_opG rfl rfl rfl rfl guard_pos (Run.eqB (Run_eqI (Opd.g rfl id) (Opd.g rfl id)) e47) rfl rfl <| WL_op (Run.eqB (Run_and (Opd.t rfl) (Opd.g rfl id)) e49) rfl rfl rfl <| WL_op (Run_move (Opd.t rfl)) rfl rfl rfl <| WL_opG rfl rfl rfl rfl guard_pos (Run_move (Opd.t rfl)) rfl rfl <| ?_
        obtain ⟨b50, e51, hm⟩ := letv_some hm
        obtain ⟨b52, e53, hm⟩ := letv_some hm
        refine WL_opG rfl rfl rfl rfl guard_pos (Run_move (Opd.t rfl)) rfl rfl <| WL_opG rfl rfl rfl rfl guard_pos (Run_lenS Try.underlying9 (Opd.g rfl id)) rfl rfl <| WL_opG rfl rfl rfl rfl guard_pos (Run_add (Opd.g rfl id) Opd.c) rfl rfl <| WL_opG rfl rfl rfl rfl guard_pos (Run_move (Opd.t rfl)) rfl rfl <| WL_opG rfl rfl rfl rfl guard_pos (Run_add (Opd.g rfl id) (Opd.g rfl id)) rfl rfl <| WL_opG rfl rfl rfl rfl guard_pos (Run.eqB (Run_eqI (Opd.g rfl id) (Opd.g rfl id)) e51) rfl rfl <| WL_op (Run.eqB (Run_and (Opd.t rfl) (Opd.g rfl id)) e53) rfl rfl rfl <| WL_op (Run_move (Opd.t rfl)) rfl rfl rfl <| ?_
        obtain ⟨b54, e55, hm⟩ := letv_some hm
        obtain ⟨b56, e57, hm⟩ := letv_some hm
        refine WL_opG rfl rfl rfl rfl guard_pos (Run_move (Opd.t rfl)) rfl rfl <| WL_opG rfl rfl rfl rfl guard_pos (Run_lenSl Try.underlying23 (Opd.g rfl id) h29.len) rfl rfl <| WL_opG rfl rfl rfl rfl guard_pos (Run.eqB (Run_eqI (Opd.g rfl id) Opd.c) e55) rfl rfl <| WL_op (Run.eqB (Run_and (Opd.t rfl) (Opd.g rfl id)) e57) rfl rfl rfl <| WL_op (Run_assign (Opd.t rfl)) rfl rfl rfl <| ?_
        refine WL_nil ?_
        refine At_then ?_
        refine WC_ret ?_
        refine At_then_ret <| ?_
        refine At_r1 rfl (ResIs.t rfl) ?_
        cases hm
        exact ⟨hS.toExt, rfl⟩
      ·
        replace hm := bif_f hc45 hm
        refine WC_skip ?_
        refine At_then ?_
        refine WC_seq ?_
        refine WC_seq ?_
        refine WC_region ?_
        obtain ⟨b58, e59, hm⟩ := letv_some hm
        obtain ⟨b60, e61, hm⟩ := letv_some hm
        obtain ⟨b62, e63, hm⟩ := letv_some hm
        refine WL_op (Run_move (Opd.t rfl)) rfl rfl rfl <| WL_op (Run.eqB (Run_neI (Opd.t rfl) Opd.c) e59) rfl rfl rfl <| WL_op (Run_move (Opd.t rfl)) rfl rfl rfl <| WL_opG rfl rfl rfl rfl guard_neg (Run_move (Opd.t rfl)) rfl rfl <| WL_opG rfl rfl rfl rfl guard_neg (Run_lenSl Try.underlying23 (Opd.g rfl id) h15.len) rfl rfl <| WL_opG rfl rfl rfl rfl guard_neg (Run.eqB (Run_ltI (Opd.g rfl id) Opd.c) e61) rfl rfl <| WL_op (Run.eqB (Run_or (Opd.t rfl) (Opd.g rfl id)) e63) rfl rfl rfl <| WL_op (Run_move (Opd.t rfl)) rfl rfl rfl <| ?_
        refine WL_opG rfl rfl rfl rfl guard_neg (Run_move (Opd.t rfl)) rfl rfl <| WL_opG rfl rfl rfl rfl guard_neg (Run_lenSl Try.underlying23 (Opd.g rfl id) h29.len) rfl rfl <| WL_opG rfl rfl rfl rfl guard_neg (Run_move (Opd.t rfl)) rfl rfl <| WL_opG rfl rfl rfl rfl guard_neg (Run_lenSl Try.underlying23 (Opd.g rfl id) h15.len) rfl rfl <| WL_opG rfl rfl rfl rfl guard_neg (Run_sub (Opd.g rfl id) Opd.c) rfl rfl <| WL_opG rfl rfl rfl rfl guard_neg (Run_move (Opd.t rfl)) rfl rfl <| WL_opG rfl rfl rfl rfl guard_neg (Run_lenSl Try.underlying23 (Opd.g rfl id) h21.len) rfl rfl <| WL_opG rfl rfl rfl rfl guard_neg (Run_add (Opd.g rfl id) (Opd.g rfl id)) rfl rfl <| ?_
        obtain ⟨b64, e65, hm⟩ := letv_some hm
        obtain ⟨b66, e67, hm⟩ := letv_some hm
        refine WL_opG rfl rfl rfl rfl guard_neg (Run.eqB (Run_neI (Opd.g rfl id) (Opd.g rfl id)) e65) rfl rfl <| WL_op (Run.eqB (Run_or (Opd.t rfl) (Opd.g rfl id)) e67) rfl rfl rfl <| ?_
        refine WL_nil ?_
        refine At_then ?_
        refine WC_cond (Opd.t rfl) (fun hc68 => ?_) (fun hc68 => ?_)
        ·
          replace hm := bif_t hc68 hm
          refine WC_seq ?_
          refine WC_region ?_
          refine WL_op (Run_assign Opd.c) rfl rfl rfl <| ?_
          refine WL_nil ?_
          refine At_then ?_
          refine WC_ret ?_
          refine At_then_ret <| ?_
          refine At_r1 rfl (ResIs.t rfl) ?_
          cases hm
          exact ⟨hS.toExt, rfl⟩
        ·
          replace hm := bif_f hc68 hm
          refine WC_skip ?_
          refine At_then ?_
          refine WC_seq ?_
          refine WC_seq ?_
          refine WC_region ?_
          refine WL_op (Run_assign Opd.c) rfl rfl rfl <| ?_
          refine WL_nil ?_
          refine At_then ?_
          refine WC_block ?_
          refine WC_loop (σ := Int) (γ := Unit) (F := (scrutinylaw12_LexJoins_L1 a0 r1 r12 r18 r26)) (N := FUEL) (s0 := 0) (r := r) (fun i69 (_ : Unit) w70 => St w0 [[]] w70 ∧ SRd (RP (RI .i64) (RP RS (RP (RI .i64) (RI .i64)))) (Mine [[]] M0) w70 v14 r12.1 ∧ SRd (RP (RI .i64) (RP RS (RP (RI .i64) (RI .i64)))) (Mine [[]] M0) w70 v20 r18.1 ∧ SRd (RP (RI .i64) (RP RS (RP (RI .i64) (RI .i64)))) (Mine [[]] M0) w70 v28 r26.1) (fun i69 (_ : Unit) => [(0, true, (S a0)), (5, true, (.bool r1)), (6, true, v14), (9, true, v20), (12, true, v28), (15, true, (.int .i64 i69))]) hm () ⟨hS, h15, h21, h29⟩ rfl ?_
          rintro again71 i69 _ w70 hm ⟨hS, h15, h21, h29⟩
          unfold scrutinylaw12_LexJoins_L1 at hm
          refine WC_seq ?_
          refine WC_seq ?_
          refine WC_region ?_
          refine WL_op (Run_move (Opd.t rfl)) rfl rfl rfl <| WL_op (Run_move (Opd.t rfl)) rfl rfl rfl <| WL_op (Run_lenSl Try.underlying23 (Opd.t rfl) h29.len) rfl rfl rfl <| WL_op (Run_ltI (Opd.t rfl) (Opd.t rfl)) rfl rfl rfl <| ?_
          refine WL_nil ?_
          refine At_then ?_
          refine WC_cond (Opd.t rfl) (fun hc72 => ?_) (fun hc72 => ?_)
          ·
            replace hm := bif_t hc72 hm
            refine WC_skip ?_
            refine At_then ?_
            refine WC_seq ?_
            refine WC_block ?_
            refine WC_seq ?_
            refine WC_region ?_
            refine WL_op (Run_build (parts := []) (v := (.agg #[(.int .i64 0), (S ([])), (.int .i64 0), (.int .i64 0)])) .nil (fun _ => by kernel_rfl)) rfl rfl rfl <| ?_
            obtain ⟨b73, hb74⟩ : ∃ b, w70.heap.size = b := ⟨_, rfl⟩
            refine WL_alloc (zs := [(.int .i64 0), (S ([])), (.int .i64 0), (.int .i64 0)]) ti34 rfl hb74 rfl ?_
            intro w75 hx76 hB77
            have mv78 : Mv (Mine [[]] M0) w70 (Mine [[b73]] M0) w75 := Mv.newB hS hM 0 hx76 hb74 hB77.lt
            replace h15 := h15.mv mv78
            replace h21 := h21.mv mv78
            replace h29 := h29.mv mv78
            replace hS : St w0 [[b73]] w75 := hS.newB 0 hx76 hb74 hB77.lt
            refine WL_store (us := [(.int .i64 0), (S ([])), (.int .i64 0), (.int .i64 0)]) (vs' := [(.int .i64 0), (S ([])), (.int .i64 0), (.int .i64 0)]) ti34 (Opd.t rfl) (Opd.t rfl) rfl rfl rfl hB77 rfl rfl ?_
            intro w80 hC81 hz82 hB84
            have mv83 : Mv (Mine [[b73]] M0) w75 (Mine [[b73]] M0) w80 := Mv.wrote hS hM 0 hC81
            replace h15 := h15.mv mv83
            replace h21 := h21.mv mv83
            replace h29 := h29.mv mv83
            replace hS : St w0 [[b73]] w80 := hS.wrote 0 hC81
            refine WL_nil ?_
            refine At_then ?_
            refine WC_seq_cut (γ := Int × Str × Int × Int) (fun ⟨c85, c86, c87, c88⟩ w90 => scrutinylaw12_LexJoins_K2 r26 i69 again71 c85 c86 c87 c88 = some r ∧ St w0 [[b73]] w90 ∧ SRd (RP (RI .i64) (RP RS (RP (RI .i64) (RI .i64)))) (Mine [[b73]] M0) w90 v14 r12.1 ∧ SRd (RP (RI .i64) (RP RS (RP (RI .i64) (RI .i64)))) (Mine [[b73]] M0) w90 v20 r18.1 ∧ SRd (RP (RI .i64) (RP RS (RP (RI .i64) (RI .i64)))) (Mine [[b73]] M0) w90 v28 r26.1 ∧ BoxAt w90 b73 34 [(.int .i64 c85), (S c86), (.int .i64 c87), (.int .i64 c88)]) (fun ⟨c85, c86, c87, c88⟩ => [(0, true, (S a0)), (5, true, (.bool r1)), (6, true, v14), (9, true, v20), (12, true, v28), (15, true, (.int .i64 i69)), (16, true, (.pointer (some ⟨b73, 0, none⟩)))]) ?_ ?_
            ·
              rintro ⟨c85, c86, c87, c88⟩ w90 ⟨hm, hS, h15, h21, h29, hB89⟩
              unfold scrutinylaw12_LexJoins_K2 at hm
              refine WC_seq ?_
              refine WC_region_draw (by kernel_rfl) (by kernel_rfl) ?_
              obtain ⟨e91, he92, hm⟩ := bind_some' hm
              obtain ⟨p93, vs94, hE95, hC96, hR97⟩ := SRd.atG (fun _ => h29) (fun _ => he92)
              replace hC96 : true = true → CellsAt w90 p93 [(.int .i64 e91.1), (S e91.2.1), (.int .i64 e91.2.2.1), (.int .i64 e91.2.2.2)] := fun hg => openT34 (hR97 hg) ▸ hC96 hg
              replace hC96 := hC96 rfl
              refine WQ_op (fun _ hx => (Run_move (Opd.t rfl))) rfl rfl rfl <| WQ_op (fun _ hx => (Run_move (Opd.t rfl))) rfl rfl rfl <| WQ_op (fun _ hx => (Run_idxAddr Try.underlying23 ti34 (Opd.t rfl) (Opd.t rfl) hE95)) rfl rfl rfl <| WQ_op (fun _ hx => (Run_loadA (vs := [(.int .i64 e91.1), (S e91.2.1), (.int .i64 e91.2.2.1), (.int .i64 e91.2.2.2)]) Try.underlying34 rfl ti34 (Opd.t rfl) (fun hg => (((fun _ => hC96) hg).sub 0 rfl).ext hx) rfl)) rfl rfl rfl <| WQ_op (fun _ hx => (Run_loadA (vs := [(.int .i64 c85), (S c86), (.int .i64 c87), (.int .i64 c88)]) Try.underlying34 rfl ti34 (Opd.t rfl) (fun _ => (hB89.part 0 rfl).ext hx) rfl)) rfl rfl rfl <| WQ_op (fun _ hx => (Run_bin (Opd.t rfl) (Opd.t rfl) (run_neT34 _ _ _ _ _ _ _ _ _))) rfl rfl rfl <| ?_
              refine WQ_nil ?_
              intro w98 hx99
              replace h15 := h15.mv (hx99.mv _)
              replace h21 := h21.mv (hx99.mv _)
              replace h29 := h29.mv (hx99.mv _)
              replace hS := hS.ext hx99
              refine At_then ?_
              refine WC_cond (Opd.t rfl) (fun hc100 => ?_) (fun hc100 => ?_)
              ·
                replace hm := bif_t hc100 hm
                refine WC_seq ?_
                refine WC_region ?_
                refine WL_op (Run_assign Opd.c) rfl rfl rfl <| ?_
                refine WL_nil ?_
                refine At_then ?_
                refine WC_ret ?_
                refine At_blk_ret <| At_then_ret <| At_then_ret <| At_blk_ret <| At_then_ret <| ?_
                refine At_r1 rfl (ResIs.t rfl) ?_
                cases hm
                exact ⟨hS.toExt, rfl⟩
              ·
                replace hm := bif_f hc100 hm
                refine WC_skip ?_
                refine At_blk_normal ?_
                refine At_then ?_
                refine WC_region ?_
                refine WL_op (Run_move (Opd.t rfl)) rfl rfl rfl <| WL_op (Run_add (Opd.t rfl) Opd.c) rfl rfl rfl <| WL_op (Run_assign (Opd.t rfl)) rfl rfl rfl <| ?_
                refine WL_nil ?_
                have mv101 : Mv (Mine [[b73]] M0) w98 (Mine [[]] M0) w98 := Mv.drop w98 0
                replace h15 := h15.mv mv101
                replace h21 := h21.mv mv101
                replace h29 := h29.mv mv101
                replace hS : St w0 [[]] w98 := hS.drop 0
                exact At_again (IntKind.i64.wrap (i69 + 1)) () hm ⟨hS, h15, h21, h29⟩ rfl
            ·
              refine WC_seq ?_
              refine WC_region ?_
              refine WL_op (Run_move (Opd.t rfl)) rfl rfl rfl <| WL_op (Run_move (Opd.t rfl)) rfl rfl rfl <| WL_op (Run_lenSl Try.underlying23 (Opd.t rfl) h15.len) rfl rfl rfl <| WL_op (Run_sub (Opd.t rfl) Opd.c) rfl rfl rfl <| WL_op (Run_ltI (Opd.t rfl) (Opd.t rfl)) rfl rfl rfl <| ?_
              refine WL_nil ?_
              refine At_then ?_
              refine WC_cond (Opd.t rfl) (fun hc102 => ?_) (fun hc102 => ?_)
              ·
                replace hm := bif_t hc102 hm
                refine WC_region ?_
                obtain ⟨e103, he104, hm⟩ := bind_some' hm
                obtain ⟨p105, vs106, hE107, hC108, hR109⟩ := SRd.atG (fun _ => h15) (fun _ => he104)
                replace hC108 : true = true → CellsAt w80 p105 [(.int .i64 e103.1), (S e103.2.1), (.int .i64 e103.2.2.1), (.int .i64 e103.2.2.2)] := fun hg => openT34 (hR109 hg) ▸ hC108 hg
                replace hC108 := hC108 rfl
                refine WL_op (Run_move (Opd.t rfl)) rfl rfl rfl <| WL_op (Run_move (Opd.t rfl)) rfl rfl rfl <| WL_op (Run_idxAddr Try.underlying23 ti34 (Opd.t rfl) (Opd.t rfl) hE107) rfl rfl rfl <| WL_op (Run_loadA (vs := [(.int .i64 e103.1), (S e103.2.1), (.int .i64 e103.2.2.1), (.int .i64 e103.2.2.2)]) Try.underlying34 rfl ti34 (Opd.t rfl) (fun hg => (((fun _ => hC108) hg).sub 0 rfl)) rfl) rfl rfl rfl <| ?_
                refine WL_store (us := [(.int .i64 e103.1), (S e103.2.1), (.int .i64 e103.2.2.1), (.int .i64 e103.2.2.2)]) (vs' := [(.int .i64 e103.1), (S e103.2.1), (.int .i64 e103.2.2.1), (.int .i64 e103.2.2.2)]) ti34 (Opd.t rfl) (Opd.t rfl) rfl rfl rfl hB84 rfl rfl ?_
                intro w110 hC111 hz112 hB114
                have mv113 : Mv (Mine [[b73]] M0) w80 (Mine [[b73]] M0) w110 := Mv.wrote hS hM 0 hC111
                replace h15 := h15.mv mv113
                replace h21 := h21.mv mv113
                replace h29 := h29.mv mv113
                replace hS : St w0 [[b73]] w110 := hS.wrote 0 hC111
                refine WL_nil ?_
                exact At_join (e103.1, e103.2.1, e103.2.2.1, e103.2.2.2) ⟨hm, hS, h15, h21, h29, hB114⟩ rfl
              ·
                replace hm := bif_f hc102 hm
                refine WC_seq ?_
                refine WC_region ?_
                obtain ⟨e115, he116, hm⟩ := bind_some' hm
                obtain ⟨p117, vs118, hE119, hC120, hR121⟩ := SRd.atG (fun _ => h21) (fun _ => he116)
                replace hC120 : true = true → CellsAt w80 p117 [(.int .i64 e115.1), (S e115.2.1), (.int .i64 e115.2.2.1), (.int .i64 e115.2.2.2)] := fun hg => openT34 (hR121 hg) ▸ hC120 hg
                replace hC120 := hC120 rfl
                refine WL_op (Run_move (Opd.t rfl)) rfl rfl rfl <| WL_op (Run_move (Opd.t rfl)) rfl rfl rfl <| WL_op (Run_move (Opd.t rfl)) rfl rfl rfl <| WL_op (Run_lenSl Try.underlying23 (Opd.t rfl) h15.len) rfl rfl rfl <| WL_op (Run_sub (Opd.t rfl) (Opd.t rfl)) rfl rfl rfl <| WL_op (Run_add (Opd.t rfl) Opd.c) rfl rfl rfl <| WL_op (Run_idxAddr Try.underlying23 ti34 (Opd.t rfl) (Opd.t rfl) hE119) rfl rfl rfl <| WL_op (Run_loadA (vs := [(.int .i64 e115.1), (S e115.2.1), (.int .i64 e115.2.2.1), (.int .i64 e115.2.2.2)]) Try.underlying34 rfl ti34 (Opd.t rfl) (fun hg => (((fun _ => hC120) hg).sub 0 rfl)) rfl) rfl rfl rfl <| ?_
                refine WL_store (us := [(.int .i64 e115.1), (S e115.2.1), (.int .i64 e115.2.2.1), (.int .i64 e115.2.2.2)]) (vs' := [(.int .i64 e115.1), (S e115.2.1), (.int .i64 e115.2.2.1), (.int .i64 e115.2.2.2)]) ti34 (Opd.t rfl) (Opd.t rfl) rfl rfl rfl hB84 rfl rfl ?_
                intro w122 hC123 hz124 hB126
                have mv125 : Mv (Mine [[b73]] M0) w80 (Mine [[b73]] M0) w122 := Mv.wrote hS hM 0 hC123
                replace h15 := h15.mv mv125
                replace h21 := h21.mv mv125
                replace h29 := h29.mv mv125
                replace hS : St w0 [[b73]] w122 := hS.wrote 0 hC123
                refine WL_nil ?_
                refine At_then ?_
                refine WC_region ?_
                refine WL_op (Run_fieldAddr fo34_3 (Opd.t rfl)) rfl rfl rfl <| WL_op (Run_load1 (v := (.int .i64 e115.2.2.2)) Try.underlying3 rfl (Opd.t rfl) (fun _ => (hB126.part 3 rfl))) rfl rfl rfl <| WL_op (Run_move (Opd.t rfl)) rfl rfl rfl <| WL_op (Run_lenS Try.underlying9 (Opd.t rfl)) rfl rfl rfl <| WL_op (Run_add (Opd.t rfl) (Opd.t rfl)) rfl rfl rfl <| WL_op (Run_add (Opd.t rfl) Opd.c) rfl rfl rfl <| WL_op (Run_fieldAddr fo34_3 (Opd.t rfl)) rfl rfl rfl <| ?_
                refine WL_store (us := [(.int .i64 (IntKind.i64.wrap ((IntKind.i64.wrap (e115.2.2.2 + (List.length a0 : Int))) + 1)))]) (vs' := [(.int .i64 e115.1), (S e115.2.1), (.int .i64 e115.2.2.1), (.int .i64 (IntKind.i64.wrap ((IntKind.i64.wrap (e115.2.2.2 + (List.length a0 : Int))) + 1)))]) ti3 (Opd.t rfl) (Opd.t rfl) rfl rfl rfl hB126 rfl rfl ?_
                intro w127 hC128 hz129 hB131
                have mv130 : Mv (Mine [[b73]] M0) w122 (Mine [[b73]] M0) w127 := Mv.wrote hS hM 0 hC128
                replace h15 := h15.mv mv130
                replace h21 := h21.mv mv130
                replace h29 := h29.mv mv130
                replace hS : St w0 [[b73]] w127 := hS.wrote 0 hC128
                refine WL_nil ?_
                exact At_join (e115.1, e115.2.1, e115.2.2.1, (IntKind.i64.wrap ((IntKind.i64.wrap (e115.2.2.2 + (List.length a0 : Int))) + 1))) ⟨hm, hS, h15, h21, h29, hB131⟩ rfl
          ·
            replace hm := bif_f hc72 hm
            refine WC_exit ?_
            refine At_then_exit <| At_then_exit <| At_blk_here <| ?_
            refine At_then ?_
            refine WC_seq ?_
            refine WC_region ?_
            refine WL_op (Run_move (Opd.t rfl)) rfl rfl rfl <| WL_op (Run_assign (Opd.t rfl)) rfl rfl rfl <| ?_
            refine WL_nil ?_
            refine At_then ?_
            refine WC_ret ?_
            refine At_r1 rfl (ResIs.t rfl) ?_
            cases hm
            exact ⟨hS.toExt, rfl⟩

theorem scrutinylaw12_LexSigns_ok (w0 : World) {i0 : Int} {j1 : Int} {r : Bool} (hm : scrutinylaw12_LexSigns i0 j1 = some r) :
    CallsR Try.prog 8 [(.int .u8 i0), (.int .u8 j1)] w0 (fun v w' => Ext w0 w' ∧ v = (.bool r)) := by
  obtain ⟨M0, hM⟩ : ∃ M0 : Nat → Prop, ∀ b, M0 b → b < w0.heap.size := ⟨fun _ => False, fun _ h => h.elim⟩
  have hS : St w0 [] w0 := St.start w0 0
  refine CallsR_enter Try.func8 rfl Try.ntmps8 rfl ?_
  unfold scrutinylaw12_LexSigns at hm
  refine WC_seq ?_
  refine WC_region ?_
  refine WL_op (Run_assign Opd.c) rfl rfl rfl <| ?_
  refine WL_nil ?_
  refine At_then ?_
  refine WC_seq ?_
  refine WC_region ?_
  obtain ⟨r1, hr2, hm⟩ := bind_some' hm
  refine WL_call (f := 10) (first := []) (cap := []) (xs := []) (vs := []) (args := []) Try.call10 Opd.f .nil rfl rfl (scrutinylaw12_shown_ok w0 hr2) ?_
  rintro _ w4 ⟨hx3, rfl⟩
  replace hS := hS.ext hx3
  refine WL_op (Run_assign (Opd.t rfl)) rfl rfl rfl <| ?_
  refine WL_nil ?_
  refine At_then ?_
  refine WC_seq ?_
  refine WC_region ?_
  obtain ⟨r5, hr6, hm⟩ := bind_some' hm
  refine WL_call (f := 13) (first := []) (cap := []) (xs := []) (vs := []) (args := []) Try.call13 Opd.f .nil rfl rfl (lex_Signs_ok w4 (Mine [] M0) (mine_lt hS hM) hr6) ?_
  rintro v7 w10 ⟨hx9, _, rfl, h8⟩
  replace hS := hS.ext hx9
  refine WL_op (Run_assign (Opd.t rfl)) rfl rfl rfl <| ?_
  refine WL_nil ?_
  refine At_then ?_
  refine WC_seq ?_
  refine WC_seq ?_
  refine WC_region ?_
  refine WL_op (Run_move (Opd.t rfl)) rfl rfl rfl <| WL_op (Run_lenSl Try.underlying29 (Opd.t rfl) h8.len) rfl rfl rfl <| WL_op (Run_neI (Opd.t rfl) Opd.c) rfl rfl rfl <| ?_
  refine WL_nil ?_
  refine At_then ?_
  refine WC_cond (Opd.t rfl) (fun hc11 => ?_) (fun hc11 => ?_)
  ·
    replace hm := bif_t hc11 hm
    refine WC_seq ?_
    refine WC_region ?_
    refine WL_op (Run_assign Opd.c) rfl rfl rfl <| ?_
    refine WL_nil ?_
    refine At_then ?_
    refine WC_ret ?_
    refine At_then_ret <| ?_
    refine At_r1 rfl (ResIs.t rfl) ?_
    cases hm
    exact ⟨hS.toExt, rfl⟩
  ·
    replace hm := bif_f hc11 hm
    refine WC_skip ?_
    refine At_then ?_
    refine WC_seq ?_
    refine WC_region ?_
    obtain ⟨e12, he13, hm⟩ := bind_some' hm
    obtain ⟨p14, vs15, hE16, hC17, hR18⟩ := SRd.atG (fun _ => h8) (fun _ => he13)
    replace hC17 : true = true → CellsAt w10 p14 [(S e12)] := fun hg => openT9 (hR18 hg) ▸ hC17 hg
    replace hC17 := hC17 rfl
    refine WL_op (Run_move (Opd.t rfl)) rfl rfl rfl <| WL_op (Run_move (Opd.t rfl)) rfl rfl rfl <| WL_op (Run_conv Try.underlying5 Try.underlying3 (Opd.t rfl)) rfl rfl rfl <| WL_op (Run_rem (Opd.t rfl) Opd.c (by rfl)) rfl rfl rfl <| WL_op (Run_idxAddr Try.underlying29 ti9 (Opd.t rfl) (Opd.t rfl) hE16) rfl rfl rfl <| WL_op (Run_load1 (v := (S e12)) Try.underlying9 rfl (Opd.t rfl) (fun hg => (((fun _ => hC17) hg).sub 0 rfl))) rfl rfl rfl <| WL_op (Run_assign (Opd.t rfl)) rfl rfl rfl <| ?_
    refine WL_nil ?_
    refine At_then ?_
    refine WC_seq ?_
    refine WC_region ?_
    obtain ⟨e19, he20, hm⟩ := bind_some' hm
    obtain ⟨p21, vs22, hE23, hC24, hR25⟩ := SRd.atG (fun _ => h8) (fun _ => he20)
    replace hC24 : true = true → CellsAt w10 p21 [(S e19)] := fun hg => openT9 (hR25 hg) ▸ hC24 hg
    replace hC24 := hC24 rfl
    refine WL_op (Run_move (Opd.t rfl)) rfl rfl rfl <| WL_op (Run_move (Opd.t rfl)) rfl rfl rfl <| WL_op (Run_conv Try.underlying5 Try.underlying3 (Opd.t rfl)) rfl rfl rfl <| WL_op (Run_rem (Opd.t rfl) Opd.c (by rfl)) rfl rfl rfl <| WL_op (Run_idxAddr Try.underlying29 ti9 (Opd.t rfl) (Opd.t rfl) hE23) rfl rfl rfl <| WL_op (Run_load1 (v := (S e19)) Try.underlying9 rfl (Opd.t rfl) (fun hg => (((fun _ => hC24) hg).sub 0 rfl))) rfl rfl rfl <| WL_op (Run_assign (Opd.t rfl)) rfl rfl rfl <| ?_
    refine WL_nil ?_
    refine At_then ?_
    refine WC_seq ?_
    refine WC_region ?_
    refine WL_op (Run_move (Opd.t rfl)) rfl rfl rfl <| ?_
    obtain ⟨r26, hr27, hm⟩ := bind_some' hm
    refine WL_call (f := 11) (first := []) (cap := []) (xs := [(.tmp 37)]) (vs := [(S e12)]) (args := [(S e12)]) Try.call11 Opd.f (.cons (Opd.t rfl) .nil) rfl rfl (lex_Tokens_ok w10 (Mine [] M0) (mine_lt hS hM) hr27) ?_
    rintro _ w31 ⟨hx30, v28, rfl, h29⟩
    replace h8 := h8.mv (hx30.mv _)
    replace hS := hS.ext hx30
    refine WL_op (Run_move (Opd.t rfl)) rfl rfl rfl <| WL_op (Run_extract (vs := [v28, (.int .i64 r26.2.1), (.int .i64 r26.2.2)]) (Opd.t rfl) rfl) rfl rfl rfl <| WL_op (Run_extract (vs := [v28, (.int .i64 r26.2.1), (.int .i64 r26.2.2)]) (Opd.t rfl) rfl) rfl rfl rfl <| WL_op (Run_extract (vs := [v28, (.int .i64 r26.2.1), (.int .i64 r26.2.2)]) (Opd.t rfl) rfl) rfl rfl rfl <| WL_op (Run_assign (Opd.t rfl)) rfl rfl rfl <| WL_op (Run_assign (Opd.t rfl)) rfl rfl rfl <| WL_op (Run_assign (Opd.t rfl)) rfl rfl rfl <| ?_
    refine WL_nil ?_
    refine At_then ?_
    refine WC_seq ?_
    refine WC_region ?_
    obtain ⟨k32, hm⟩ := chk_some hm
    refine WL_op (Run_move (Opd.t rfl)) rfl rfl rfl <| WL_op (Run_move (Opd.t rfl)) rfl rfl rfl <| WL_op (Run_cat (Opd.t rfl) (Opd.t rfl) (fun _ => k32)) rfl rfl rfl <| ?_
    obtain ⟨r33, hr34, hm⟩ := bind_some' hm
    refine WL_call (f := 11) (first := []) (cap := []) (xs := [(.tmp 45)]) (vs := [(S (e12 ++ e19))]) (args := [(S (e12 ++ e19))]) Try.call11 Opd.f (.cons (Opd.t rfl) .nil) rfl rfl (lex_Tokens_ok w31 (Mine [] M0) (mine_lt hS hM) hr34) ?_
    rintro _ w38 ⟨hx37, v35, rfl, h36⟩
    replace h8 := h8.mv (hx37.mv _)
    replace h29 := h29.mv (hx37.mv _)
    replace hS := hS.ext hx37
    refine WL_op (Run_move (Opd.t rfl)) rfl rfl rfl <| WL_op (Run_extract (vs := [v35, (.int .i64 r33.2.1), (.int .i64 r33.2.2)]) (Opd.t rfl) rfl) rfl rfl rfl <| WL_op (Run_extract (vs := [v35, (.int .i64 r33.2.1), (.int .i64 r33.2.2)]) (Opd.t rfl) rfl) rfl rfl rfl <| WL_op (Run_extract (vs := [v35, (.int .i64 r33.2.1), (.int .i64 r33.2.2)]) (Opd.t rfl) rfl) rfl rfl rfl <| WL_op (Run_assign (Opd.t rfl)) rfl rfl rfl <| WL_op (Run_assign (Opd.t rfl)) rfl rfl rfl <| WL_op (Run_assign (Opd.t rfl)) rfl rfl rfl <| ?_
    refine WL_nil ?_
    refine At_then ?_
    refine WC_seq ?_
    refine WC_seq ?_
    refine WC_region ?_
    obtain ⟨b39, e40, hm⟩ := letv_some hm
    obtain ⟨b41, e42, hm⟩ := letv_some hm
    obtain ⟨b43, e44, hm⟩ := letv_some hm
    refine WL_op (Run_move (Opd.t rfl)) rfl rfl rfl <| WL_op (Run.eqB (Run_neI (Opd.t rfl) Opd.c) e40) rfl rfl rfl <| WL_op (Run_move (Opd.t rfl)) rfl rfl rfl <| WL_opG rfl rfl rfl rfl guard_neg (Run_move (Opd.t rfl)) rfl rfl <| WL_opG rfl rfl rfl rfl guard_neg (Run_lenSl Try.underlying23 (Opd.g rfl id) h29.len) rfl rfl <| WL_opG rfl rfl rfl rfl guard_neg (Run.eqB (Run_neI (Opd.g rfl id) Opd.c) e42) rfl rfl <| WL_op (Run.eqB (Run_or (Opd.t rfl) (Opd.g rfl id)) e44) rfl rfl rfl <| WL_op (Run_move (Opd.t rfl)) rfl rfl rfl <| ?_
    obtain ⟨e45, he46, -, hm⟩ := callG_some hm
    obtain ⟨p47, vs48, hE49, hC50, hR51⟩ := SRd.atG (fun _ => h29) he46
    replace hC50 : (!b43) = true → CellsAt w38 p47 [(.int .i64 e45.1), (S e45.2.1), (.int .i64 e45.2.2.1), (.int .i64 e45.2.2.2)] := fun hg => openT34 (hR51 hg) ▸ hC50 hg
    obtain ⟨b52, e53, hm⟩ := letv_some hm
    obtain ⟨b54, e55, hm⟩ := letv_some hm
    refine WL_opG rfl rfl rfl rfl guard_neg (Run_move (Opd.t rfl)) rfl rfl <| WL_opG rfl rfl rfl rfl guard_neg (Run_idxAddr Try.underlying23 ti34 (Opd.g rfl id) Opd.c hE49) rfl rfl <| WL_opG rfl rfl rfl rfl guard_neg (Run_fieldAddr fo34_1 (Opd.g rfl id)) rfl rfl <| WL_opG rfl rfl rfl rfl guard_neg (Run_load1 (v := (S e45.2.1)) Try.underlying9 rfl (Opd.g rfl id) (fun hg => ((hC50 hg).sub 1 rfl))) rfl rfl <| WL_opG rfl rfl rfl rfl guard_neg (Run_move (Opd.t rfl)) rfl rfl <| WL_opG rfl rfl rfl rfl guard_neg (Run.eqB (Run_neS (Opd.g rfl id) (Opd.g rfl id)) e53) rfl rfl <| WL_op (Run.eqB (Run_or (Opd.t rfl) (Opd.g rfl id)) e55) rfl rfl rfl <| WL_op (Run_move (Opd.t rfl)) rfl rfl rfl <| ?_
    obtain ⟨e56, he57, -, hm⟩ := callG_some hm
    obtain ⟨p58, vs59, hE60, hC61, hR62⟩ := SRd.atG (fun _ => h29) he57
    replace hC61 : (!b54) = true → CellsAt w38 p58 [(.int .i64 e56.1), (S e56.2.1), (.int .i64 e56.2.2.1), (.int .i64 e56.2.2.2)] := fun hg => openT34 (hR62 hg) ▸ hC61 hg
    obtain ⟨b63, e64, hm⟩ := letv_some hm
    obtain ⟨b65, e66, hm⟩ := letv_some hm
    refine WL_opG rfl rfl rfl rfl guard_neg (Run_move (Opd.t rfl)) rfl rfl <| WL_opG rfl rfl rfl rfl guard_neg (Run_idxAddr Try.underlying23 ti34 (Opd.g rfl id) Opd.c hE60) rfl rfl <| WL_opG rfl rfl rfl rfl guard_neg (Run_fieldAddr fo34_0 (Opd.g rfl id)) rfl rfl <| WL_opG rfl rfl rfl rfl guard_neg (Run_load1 (v := (.int .i64 e56.1)) Try.underlying3 rfl (Opd.g rfl id) (fun hg => ((hC61 hg).sub 0 rfl))) rfl rfl <| WL_opG rfl rfl rfl rfl guard_neg (Run.eqB (Run_neI (Opd.g rfl id) Opd.c) e64) rfl rfl <| WL_op (Run.eqB (Run_or (Opd.t rfl) (Opd.g rfl id)) e66) rfl rfl rfl <| ?_
    refine WL_nil ?_
    refine At_then ?_
    refine WC_cond (Opd.t rfl) (fun hc67 => ?_) (fun hc67 => ?_)
    ·
      replace hm := bif_t hc67 hm
      refine WC_seq ?_
      refine WC_region ?_
      refine WL_op (Run_assign Opd.c) rfl rfl rfl <| ?_
      refine WL_nil ?_
      refine At_then ?_
      refine WC_ret ?_
      refine At_then_ret <| ?_
      refine At_r1 rfl (ResIs.t rfl) ?_
      cases hm
      exact ⟨hS.toExt, rfl⟩
    ·
      replace hm := bif_f hc67 hm
      refine WC_skip ?_
      refine At_then ?_
      refine WC_seq ?_
      refine WC_region ?_
      refine WL_op (Run_assign Opd.c) rfl rfl rfl <| ?_
      refine WL_nil ?_
      refine At_then ?_
      refine WC_seq ?_
      refine WC_seq ?_
      refine WC_region ?_
      refine WL_op (Run_assign Opd.c) rfl rfl rfl <| ?_
      refine WL_nil ?_
      refine At_then ?_
      refine WC_block ?_
      refine WC_loop (σ := Str × Int) (γ := Unit) (F := (scrutinylaw12_LexSigns_L1 r1 r5 e12 e19 r33)) (N := FUEL) (s0 := ([], 0)) (r := r) (fun ⟨text68, k69⟩ (_ : Unit) w70 => St w0 [] w70 ∧ SRd RS (Mine [] M0) w70 v7 r5 ∧ SRd (RP (RI .i64) (RP RS (RP (RI .i64) (RI .i64)))) (Mine [] M0) w70 v35 r33.1) (fun ⟨text68, k69⟩ (_ : Unit) => [(5, true, (.bool r1)), (6, true, v7), (7, true, (S e12)), (8, true, (S e19)), (12, true, v35), (13, true, (.int .i64 r33.2.1)), (15, true, (S text68)), (16, true, (.int .i64 k69))]) hm () ⟨hS, h8, h36⟩ rfl ?_
      rintro again71 ⟨text68, k69⟩ _ w70 hm ⟨hS, h8, h36⟩
      unfold scrutinylaw12_LexSigns_L1 at hm
      dsimp only at hm
      refine WC_seq ?_
      refine WC_seq ?_
      refine WC_region ?_
      refine WL_op (Run_move (Opd.t rfl)) rfl rfl rfl <| WL_op (Run_move (Opd.t rfl)) rfl rfl rfl <| WL_op (Run_lenSl Try.underlying23 (Opd.t rfl) h36.len) rfl rfl rfl <| WL_op (Run_ltI (Opd.t rfl) (Opd.t rfl)) rfl rfl rfl <| ?_
      refine WL_nil ?_
      refine At_then ?_
      refine WC_cond (Opd.t rfl) (fun hc72 => ?_) (fun hc72 => ?_)
      ·
        replace hm := bif_t hc72 hm
        refine WC_skip ?_
        refine At_then ?_
        refine WC_seq ?_
        refine WC_block ?_
        refine WC_seq ?_
        refine WC_region ?_
        obtain ⟨e73, he74, hm⟩ := bind_some' hm
        obtain ⟨p75, vs76, hE77, hC78, hR79⟩ := SRd.atG (fun _ => h36) (fun _ => he74)
        replace hC78 : true = true → CellsAt w70 p75 [(.int .i64 e73.1), (S e73.2.1), (.int .i64 e73.2.2.1), (.int .i64 e73.2.2.2)] := fun hg => openT34 (hR79 hg) ▸ hC78 hg
        replace hC78 := hC78 rfl
        obtain ⟨k80, hm⟩ := chk_some hm
        refine WL_op (Run_move (Opd.t rfl)) rfl rfl rfl <| WL_op (Run_move (Opd.t rfl)) rfl rfl rfl <| WL_op (Run_move (Opd.t rfl)) rfl rfl rfl <| WL_op (Run_idxAddr Try.underlying23 ti34 (Opd.t rfl) (Opd.t rfl) hE77) rfl rfl rfl <| WL_op (Run_fieldAddr fo34_1 (Opd.t rfl)) rfl rfl rfl <| WL_op (Run_load1 (v := (S e73.2.1)) Try.underlying9 rfl (Opd.t rfl) (fun hg => (((fun _ => hC78) hg).sub 1 rfl))) rfl rfl rfl <| WL_op (Run_cat (Opd.t rfl) (Opd.t rfl) (fun _ => k80)) rfl rfl rfl <| WL_op (Run_assign (Opd.t rfl)) rfl rfl rfl <| ?_
        refine WL_nil ?_
        refine At_then ?_
        refine WC_seq ?_
        refine WC_region ?_
        refine WL_op (Run_assign Opd.c) rfl rfl rfl <| ?_
        refine WL_nil ?_
        refine At_then ?_
        refine WC_block ?_
        refine WC_loop (σ := Int) (γ := Unit) (F := (scrutinylaw12_LexSigns_L2 r5 e12 e19 r33 text68 k69 again71 e73)) (N := FUEL) (s0 := 0) (r := r) (fun n81 (_ : Unit) w82 => St w0 [] w82 ∧ SRd RS (Mine [] M0) w82 v7 r5 ∧ SRd (RP (RI .i64) (RP RS (RP (RI .i64) (RI .i64)))) (Mine [] M0) w82 v35 r33.1) (fun n81 (_ : Unit) => [(5, true, (.bool r1)), (6, true, v7), (7, true, (S e12)), (8, true, (S e19)), (12, true, v35), (13, true, (.int .i64 r33.2.1)), (15, true, (S (text68 ++ e73.2.1))), (16, true, (.int .i64 k69)), (17, true, (.int .i64 n81))]) hm () ⟨hS, h8, h36⟩ rfl ?_
        rintro again83 n81 _ w82 hm ⟨hS, h8, h36⟩
        unfold scrutinylaw12_LexSigns_L2 at hm
        refine WC_seq ?_
        refine WC_seq ?_
        refine WC_region ?_
        obtain ⟨b84, e85, hm⟩ := letv_some hm
        obtain ⟨e86, he87, -, hm⟩ := callG_some hm
        obtain ⟨p88, vs89, hE90, hC91, hR92⟩ := SRd.atG (fun _ => h36) he87
        replace hC91 : b84 = true → CellsAt w82 p88 [(.int .i64 e86.1), (S e86.2.1), (.int .i64 e86.2.2.1), (.int .i64 e86.2.2.2)] := fun hg => openT34 (hR92 hg) ▸ hC91 hg
        refine WL_op (Run_move (Opd.t rfl)) rfl rfl rfl <| WL_op (Run.eqB (Run_ltI (Opd.t rfl) Opd.c) e85) rfl rfl rfl <| WL_op (Run_move (Opd.t rfl)) rfl rfl rfl <| WL_opG rfl rfl rfl rfl guard_pos (Run_move (Opd.t rfl)) rfl rfl <| WL_opG rfl rfl rfl rfl guard_pos (Run_move (Opd.t rfl)) rfl rfl <| WL_opG rfl rfl rfl rfl guard_pos (Run_idxAddr Try.underlying23 ti34 (Opd.g rfl id) (Opd.g rfl id) hE90) rfl rfl <| WL_opG rfl rfl rfl rfl guard_pos (Run_fieldAddr fo34_0 (Opd.g rfl id)) rfl rfl <| WL_opG rfl rfl rfl rfl guard_pos (Run_load1 (v := (.int .i64 e86.1)) Try.underlying3 rfl (Opd.g rfl id) (fun hg => ((hC91 hg).sub 0 rfl))) rfl rfl <| ?_
        obtain ⟨b93, e94, hm⟩ := letv_some hm
        obtain ⟨b95, e96, hm⟩ := letv_some hm
        refine WL_opG rfl rfl rfl rfl guard_pos (Run.eqB (Run_eqI (Opd.g rfl id) Opd.c) e94) rfl rfl <| WL_op (Run.eqB (Run_and (Opd.t rfl) (Opd.g rfl id)) e96) rfl rfl rfl <| ?_
        refine WL_nil ?_
        refine At_then ?_
        refine WC_cond (Opd.t rfl) (fun hc97 => ?_) (fun hc97 => ?_)
        ·
          replace hm := bif_t hc97 hm
          refine WC_skip ?_
          refine At_then ?_
          refine WC_seq ?_
          refine WC_block ?_
          refine WC_seq ?_
          refine WC_region ?_
          obtain ⟨k98, hm⟩ := chk_some hm
          obtain ⟨e99, he100, hm⟩ := bind_some' hm
          obtain ⟨p101, vs102, hE103, hC104, hR105⟩ := SRd.atG (fun _ => h36) (fun _ => he100)
          replace hC104 : true = true → CellsAt w82 p101 [(.int .i64 e99.1), (S e99.2.1), (.int .i64 e99.2.2.1), (.int .i64 e99.2.2.2)] := fun hg => openT34 (hR105 hg) ▸ hC104 hg
          replace hC104 := hC104 rfl
          refine WL_op (Run_move (Opd.t rfl)) rfl rfl rfl <| WL_op (Run_move (Opd.t rfl)) rfl rfl rfl <| WL_op (Run_cat (Opd.t rfl) (Opd.t rfl) (fun _ => k98)) rfl rfl rfl <| WL_op (Run_move (Opd.t rfl)) rfl rfl rfl <| WL_op (Run_move (Opd.t rfl)) rfl rfl rfl <| WL_op (Run_idxAddr Try.underlying23 ti34 (Opd.t rfl) (Opd.t rfl) hE103) rfl rfl rfl <| WL_op (Run_fieldAddr fo34_3 (Opd.t rfl)) rfl rfl rfl <| WL_op (Run_load1 (v := (.int .i64 e99.2.2.2)) Try.underlying3 rfl (Opd.t rfl) (fun hg => (((fun _ => hC104) hg).sub 3 rfl))) rfl rfl rfl <| ?_
          obtain ⟨k106, hm⟩ := chk_some hm
          refine WL_op (Run_cutS Try.underlying9 (Opd.t rfl) ⟨_, (Opd.t rfl)⟩ rfl (fun _ => k106)) rfl rfl rfl <| WL_op (Run_assign (Opd.t rfl)) rfl rfl rfl <| ?_
          refine WL_nil ?_
          refine At_then ?_
          refine WC_seq ?_
          refine WC_region_draw (by kernel_rfl) (by kernel_rfl) ?_
          obtain ⟨e107, he108, hm⟩ := bind_some' hm
          obtain ⟨p109, vs110, hE111, hC112, hR113⟩ := SRd.atG (fun _ => h8) (fun _ => he108)
          replace hC112 : true = true → CellsAt w82 p109 [(S e107)] := fun hg => openT9 (hR113 hg) ▸ hC112 hg
          replace hC112 := hC112 rfl
          obtain ⟨e114, he115, hm⟩ := bind_some' hm
          obtain ⟨p116, vs117, hE118, hC119, hR120⟩ := SRd.atG (fun _ => h36) (fun _ => he115)
          replace hC119 : true = true → CellsAt w82 p116 [(.int .i64 e114.1), (S e114.2.1), (.int .i64 e114.2.2.1), (.int .i64 e114.2.2.2)] := fun hg => openT34 (hR120 hg) ▸ hC119 hg
          replace hC119 := hC119 rfl
          refine WQ_op (fun _ hx => (Run_move (Opd.t rfl))) rfl rfl rfl <| WQ_op (fun _ hx => (Run_move (Opd.t rfl))) rfl rfl rfl <| WQ_op (fun _ hx => (Run_idxAddr Try.underlying29 ti9 (Opd.t rfl) (Opd.t rfl) hE111)) rfl rfl rfl <| WQ_op (fun _ hx => (Run_load1 (v := (S e107)) Try.underlying9 rfl (Opd.t rfl) (fun hg => (((fun _ => hC112) hg).sub 0 rfl).ext hx))) rfl rfl rfl <| WQ_op (fun _ hx => (Run_lenS Try.underlying9 (Opd.t rfl))) rfl rfl rfl <| WQ_op (fun _ hx => (Run_move (Opd.t rfl))) rfl rfl rfl <| WQ_op (fun _ hx => (Run_move (Opd.t rfl))) rfl rfl rfl <| WQ_op (fun _ hx => (Run_idxAddr Try.underlying23 ti34 (Opd.t rfl) (Opd.t rfl) hE118)) rfl rfl rfl <| ?_
          obtain ⟨b121, e122, hm⟩ := letv_some hm
          obtain ⟨e123, he124, -, hm⟩ := callG_some hm
          obtain ⟨p125, vs126, hE127, hC128, hR129⟩ := SRd.atG (fun _ => h8) he124
          replace hC128 : b121 = true → CellsAt w82 p125 [(S e123)] := fun hg => openT9 (hR129 hg) ▸ hC128 hg
          refine WQ_op (fun _ hx => (Run_fieldAddr fo34_1 (Opd.t rfl))) rfl rfl rfl <| WQ_op (fun _ hx => (Run_load1 (v := (S e114.2.1)) Try.underlying9 rfl (Opd.t rfl) (fun hg => (((fun _ => hC119) hg).sub 1 rfl).ext hx))) rfl rfl rfl <| WQ_op (fun _ hx => (Run_lenS Try.underlying9 (Opd.t rfl))) rfl rfl rfl <| WQ_op (fun _ hx => (Run.eqB (Run_gtI (Opd.t rfl) (Opd.t rfl)) e122)) rfl rfl rfl <| WQ_op (fun _ hx => (Run_move (Opd.t rfl))) rfl rfl rfl <| WQ_opG rfl rfl rfl rfl guard_pos (fun _ hx => (Run_move (Opd.t rfl))) rfl rfl <| WQ_opG rfl rfl rfl rfl guard_pos (fun _ hx => (Run_move (Opd.t rfl))) rfl rfl <| WQ_opG rfl rfl rfl rfl guard_pos (fun _ hx => (Run_idxAddr Try.underlying29 ti9 (Opd.g rfl id) (Opd.g rfl id) hE127)) rfl rfl <| ?_
          obtain ⟨b130, e131, hm⟩ := letv_some hm
          obtain ⟨b132, e133, hm⟩ := letv_some hm
          refine WQ_opG rfl rfl rfl rfl guard_pos (fun _ hx => (Run_load1 (v := (S e123)) Try.underlying9 rfl (Opd.g rfl id) (fun hg => ((hC128 hg).sub 0 rfl).ext hx))) rfl rfl <| WQ_opG rfl rfl rfl rfl guard_pos (fun _ hx => (Run_lenS Try.underlying9 (Opd.g rfl id))) rfl rfl <| WQ_opG rfl rfl rfl rfl guard_pos (fun _ hx => (Run_move (Opd.t rfl))) rfl rfl <| WQ_opG rfl rfl rfl rfl guard_pos (fun _ hx => (Run_lenS Try.underlying9 (Opd.g rfl id))) rfl rfl <| WQ_opG rfl rfl rfl rfl guard_pos (fun _ hx => (Run.eqB (Run_leI (Opd.g rfl id) (Opd.g rfl id)) e131)) rfl rfl <| WQ_op (fun _ hx => (Run.eqB (Run_and (Opd.t rfl) (Opd.g rfl id)) e133)) rfl rfl rfl <| WQ_op (fun _ hx => (Run_move (Opd.t rfl))) rfl rfl rfl <| WQ_opG rfl rfl rfl rfl guard_pos (fun _ hx => (Run_move (Opd.t rfl))) rfl rfl <| ?_
          obtain ⟨e134, he135, -, hm⟩ := callG_some hm
          obtain ⟨p136, vs137, hE138, hC139, hR140⟩ := SRd.atG (fun _ => h8) he135
          replace hC139 : b132 = true → CellsAt w82 p136 [(S e134)] := fun hg => openT9 (hR140 hg) ▸ hC139 hg
          obtain ⟨k141, hm⟩ := chkG_some hm
          refine WQ_opG rfl rfl rfl rfl guard_pos (fun _ hx => (Run_move (Opd.t rfl))) rfl rfl <| WQ_opG rfl rfl rfl rfl guard_pos (fun _ hx => (Run_move (Opd.t rfl))) rfl rfl <| WQ_opG rfl rfl rfl rfl guard_pos (fun _ hx => (Run_idxAddr Try.underlying29 ti9 (Opd.g rfl id) (Opd.g rfl id) hE138)) rfl rfl <| WQ_opG rfl rfl rfl rfl guard_pos (fun _ hx => (Run_load1 (v := (S e134)) Try.underlying9 rfl (Opd.g rfl id) (fun hg => ((hC139 hg).sub 0 rfl).ext hx))) rfl rfl <| WQ_opG rfl rfl rfl rfl guard_pos (fun _ hx => (Run_lenS Try.underlying9 (Opd.g rfl id))) rfl rfl <| WQ_opG rfl rfl rfl rfl guard_pos (fun _ hx => (Run_cutS Try.underlying9 (Opd.g rfl id) rfl ⟨_, (Opd.g rfl id)⟩ k141)) rfl rfl <| WQ_opG rfl rfl rfl rfl guard_pos (fun _ hx => (Run_move (Opd.t rfl))) rfl rfl <| WQ_opG rfl rfl rfl rfl guard_pos (fun _ hx => (Run_move (Opd.t rfl))) rfl rfl <| ?_
          obtain ⟨e142, he143, -, hm⟩ := callG_some hm
          obtain ⟨p144, vs145, hE146, hC147, hR148⟩ := SRd.atG (fun _ => h8) he143
          replace hC147 : b132 = true → CellsAt w82 p144 [(S e142)] := fun hg => openT9 (hR148 hg) ▸ hC147 hg
          obtain ⟨b149, e150, hm⟩ := letv_some hm
          obtain ⟨b151, e152, hm⟩ := letv_some hm
          refine WQ_opG rfl rfl rfl rfl guard_pos (fun _ hx => (Run_idxAddr Try.underlying29 ti9 (Opd.g rfl id) (Opd.g rfl id) hE146)) rfl rfl <| WQ_opG rfl rfl rfl rfl guard_pos (fun _ hx => (Run_load1 (v := (S e142)) Try.underlying9 rfl (Opd.g rfl id) (fun hg => ((hC147 hg).sub 0 rfl).ext hx))) rfl rfl <| WQ_opG rfl rfl rfl rfl guard_pos (fun _ hx => (Run.eqB (Run_eqS (Opd.g rfl id) (Opd.g rfl id)) e150)) rfl rfl <| WQ_op (fun _ hx => (Run.eqB (Run_and (Opd.t rfl) (Opd.g rfl id)) e152)) rfl rfl rfl <| ?_
          refine WQ_nil ?_
          intro w153 hx154
          replace h8 := h8.mv (hx154.mv _)
          replace h36 := h36.mv (hx154.mv _)
          replace hS := hS.ext hx154
          refine At_then ?_
          refine WC_cond (Opd.t rfl) (fun hc155 => ?_) (fun hc155 => ?_)
          ·
            replace hm := bif_t hc155 hm
            refine WC_seq ?_
            refine WC_region ?_
            refine WL_op (Run_assign Opd.c) rfl rfl rfl <| ?_
            refine WL_nil ?_
            refine At_then ?_
            refine WC_ret ?_
            refine At_blk_ret <| At_then_ret <| At_then_ret <| At_blk_ret <| At_blk_ret <| At_then_ret <| At_then_ret <| At_blk_ret <| At_then_ret <| ?_
            refine At_r1 rfl (ResIs.t rfl) ?_
            cases hm
            exact ⟨hS.toExt, rfl⟩
          ·
            replace hm := bif_f hc155 hm
            refine WC_skip ?_
            refine At_blk_normal ?_
            refine At_then ?_
            refine WC_region ?_
            refine WL_op (Run_move (Opd.t rfl)) rfl rfl rfl <| WL_op (Run_add (Opd.t rfl) Opd.c) rfl rfl rfl <| WL_op (Run_assign (Opd.t rfl)) rfl rfl rfl <| ?_
            refine WL_nil ?_
            exact At_again (IntKind.i64.wrap (n81 + 1)) () hm ⟨hS, h8, h36⟩ rfl
        ·
          replace hm := bif_f hc97 hm
          refine WC_exit ?_
          refine At_then_exit <| At_then_exit <| At_blk_here <| ?_
          refine At_blk_normal ?_
          refine At_then ?_
          refine WC_region ?_
          refine WL_op (Run_move (Opd.t rfl)) rfl rfl rfl <| WL_op (Run_add (Opd.t rfl) Opd.c) rfl rfl rfl <| WL_op (Run_assign (Opd.t rfl)) rfl rfl rfl <| ?_
          refine WL_nil ?_
          exact At_again ((text68 ++ e73.2.1), (IntKind.i64.wrap (k69 + 1))) () hm ⟨hS, h8, h36⟩ rfl
      ·
        replace hm := bif_f hc72 hm
        refine WC_exit ?_
        refine At_then_exit <| At_then_exit <| At_blk_here <| ?_
        refine At_then ?_
        refine WC_seq ?_
        refine WC_region ?_
        obtain ⟨b156, e157, hm⟩ := letv_some hm
        refine WL_op (Run_move (Opd.t rfl)) rfl rfl rfl <| WL_op (Run_move (Opd.t rfl)) rfl rfl rfl <| WL_opG rfl rfl rfl rfl guard_pos (Run_move (Opd.t rfl)) rfl rfl <| WL_opG rfl rfl rfl rfl guard_pos (Run.eqB (Run_neI (Opd.g rfl id) Opd.c) e157) rfl rfl <| WL_opG rfl rfl rfl rfl guard_pos (Run_move (Opd.g rfl id)) rfl rfl <| WL_opG rfl rfl rfl rfl guard_neg' (Run_move (Opd.t rfl)) rfl rfl <| WL_opG rfl rfl rfl rfl guard_neg' (Run_move (Opd.t rfl)) rfl rfl <| WL_opG rfl rfl rfl rfl guard_neg' (Run_move (Opd.t rfl)) rfl rfl <| ?_
        obtain ⟨k158, hm⟩ := chkG_some hm
        obtain ⟨b159, e160, hm⟩ := letv_some hm
        obtain ⟨b161, e162, hm⟩ := letv_some hm
        obtain ⟨b163, e164, hm⟩ := letv_some hm
        obtain ⟨b165, e166, hm⟩ := letv_some hm
        refine WL_opG rfl rfl rfl rfl guard_neg' (Run_cat (Opd.g rfl id) (Opd.g rfl id) k158) rfl rfl <| WL_opG rfl rfl rfl rfl guard_neg' (Run.eqB (Run_eqS (Opd.g rfl id) (Opd.g rfl id)) e160) rfl rfl <| WL_opG rfl rfl rfl rfl guard_neg' (Run_move (Opd.g rfl id)) rfl rfl <| WL_opG rfl rfl rfl rfl guard_pos' (Run_move (Opd.t rfl)) rfl rfl <| WL_opG rfl rfl rfl rfl guard_pos' (Run_lenSl Try.underlying23 (Opd.g rfl id) h36.len) rfl rfl <| WL_opG rfl rfl rfl rfl guard_pos' (Run.eqB (Run_geI (Opd.g rfl id) Opd.c) e162) rfl rfl <| WL_opG rfl rfl rfl rfl guard_neg' (Run.eqB (Run_and (Opd.g rfl id) (Opd.g rfl id)) e164) rfl rfl <| WL_opG rfl rfl rfl rfl guard_pos (Run.eqB (Run_or (Opd.g rfl id) (Opd.g rfl id)) e166) rfl rfl <| ?_
        obtain ⟨b167, e168, hm⟩ := letv_some hm
        refine WL_op (Run.eqB (Run_and (Opd.t rfl) (Opd.g rfl id)) e168) rfl rfl rfl <| WL_op (Run_assign (Opd.t rfl)) rfl rfl rfl <| ?_
        refine WL_nil ?_
        refine At_then ?_
        refine WC_ret ?_
        refine At_r1 rfl (ResIs.t rfl) ?_
        cases hm
        exact ⟨hS.toExt, rfl⟩

theorem scrutinylaw12_LexComments_ok (w0 : World) {text0 : Str} {comment1 : Str} {r : Bool} (hm : scrutinylaw12_LexComments text0 comment1 = some r) :
    CallsR Try.prog 9 [(S text0), (S comment1)] w0 (fun v w' => Ext w0 w' ∧ v = (.bool r)) := by
  obtain ⟨M0, hM⟩ : ∃ M0 : Nat → Prop, ∀ b, M0 b → b < w0.heap.size := ⟨fun _ => False, fun _ h => h.elim⟩
  have hS : St w0 [[], []] w0 := St.start w0 2
  refine CallsR_enter Try.func9 rfl Try.ntmps9 rfl ?_
  unfold scrutinylaw12_LexComments at hm
  refine WC_seq ?_
  refine WC_region ?_
  refine WL_op (Run_assign Opd.c) rfl rfl rfl <| ?_
  refine WL_nil ?_
  refine At_then ?_
  refine WC_seq ?_
  refine WC_region ?_
  obtain ⟨r1, hr2, hm⟩ := bind_some' hm
  refine WL_call (f := 10) (first := []) (cap := []) (xs := []) (vs := []) (args := []) Try.call10 Opd.f .nil rfl rfl (scrutinylaw12_shown_ok w0 hr2) ?_
  rintro _ w4 ⟨hx3, rfl⟩
  replace hS := hS.ext hx3
  refine WL_op (Run_assign (Opd.t rfl)) rfl rfl rfl <| ?_
  refine WL_nil ?_
  refine At_then ?_
  refine WC_seq ?_
  refine WC_seq ?_
  refine WC_region ?_
  obtain ⟨b5, e6, hm⟩ := letv_some hm
  obtain ⟨b7, e8, hm⟩ := letv_some hm
  obtain ⟨b9, e10, hm⟩ := letv_some hm
  refine WL_op (Run_move (Opd.t rfl)) rfl rfl rfl <| WL_op (Run_lenS Try.underlying9 (Opd.t rfl)) rfl rfl rfl <| WL_op (Run.eqB (Run_gtI (Opd.t rfl) Opd.c) e6) rfl rfl rfl <| WL_op (Run_move (Opd.t rfl)) rfl rfl rfl <| WL_opG rfl rfl rfl rfl guard_neg (Run_move (Opd.t rfl)) rfl rfl <| WL_opG rfl rfl rfl rfl guard_neg (Run_lenS Try.underlying9 (Opd.g rfl id)) rfl rfl <| WL_opG rfl rfl rfl rfl guard_neg (Run.eqB (Run_gtI (Opd.g rfl id) Opd.c) e8) rfl rfl <| WL_op (Run.eqB (Run_or (Opd.t rfl) (Opd.g rfl id)) e10) rfl rfl rfl <| ?_
  refine WL_nil ?_
  refine At_then ?_
  refine WC_cond (Opd.t rfl) (fun hc11 => ?_) (fun hc11 => ?_)
  ·
    replace hm := bif_t hc11 hm
    refine WC_seq ?_
    refine WC_region ?_
    refine WL_op (Run_move (Opd.t rfl)) rfl rfl rfl <| WL_op (Run_assign (Opd.t rfl)) rfl rfl rfl <| ?_
    refine WL_nil ?_
    refine At_then ?_
    refine WC_ret ?_
    refine At_then_ret <| ?_
    refine At_r1 rfl (ResIs.t rfl) ?_
    cases hm
    exact ⟨hS.toExt, rfl⟩
  ·
    replace hm := bif_f hc11 hm
    refine WC_skip ?_
    refine At_then ?_
    refine WC_seq ?_
    refine WC_seq ?_
    refine WC_region ?_
    refine WL_op (Run_assign Opd.c) rfl rfl rfl <| ?_
    refine WL_nil ?_
    refine At_then ?_
    refine WC_block ?_
    refine WC_loop (σ := Int) (γ := Unit) (F := (scrutinylaw12_LexComments_L1 text0 comment1 r1)) (N := FUEL) (s0 := 0) (r := r) (fun i12 (_ : Unit) w13 => St w0 [[], []] w13) (fun i12 (_ : Unit) => [(0, true, (S text0)), (1, true, (S comment1)), (5, true, (.bool r1)), (6, true, (.int .i64 i12))]) hm () hS rfl ?_
    rintro again14 i12 _ w13 hm hS
    unfold scrutinylaw12_LexComments_L1 at hm
    refine WC_seq ?_
    refine WC_seq ?_
    refine WC_region ?_
    refine WL_op (Run_move (Opd.t rfl)) rfl rfl rfl <| WL_op (Run_move (Opd.t rfl)) rfl rfl rfl <| WL_op (Run_lenS Try.underlying9 (Opd.t rfl)) rfl rfl rfl <| WL_op (Run_ltI (Opd.t rfl) (Opd.t rfl)) rfl rfl rfl <| ?_
    refine WL_nil ?_
    refine At_then ?_
    refine WC_cond (Opd.t rfl) (fun hc15 => ?_) (fun hc15 => ?_)
    ·
      replace hm := bif_t hc15 hm
      refine WC_skip ?_
      refine At_then ?_
      refine WC_seq ?_
      refine WC_block ?_
      refine WC_seq ?_
      refine WC_region ?_
      obtain ⟨k16, hm⟩ := chk_some hm
      refine WL_op (Run_move (Opd.t rfl)) rfl rfl rfl <| WL_op (Run_move (Opd.t rfl)) rfl rfl rfl <| WL_op (Run_idxS Try.underlying9 (Opd.t rfl) (Opd.t rfl) (fun _ => k16)) rfl rfl rfl <| WL_op (Run_eqI (Opd.t rfl) Opd.c) rfl rfl rfl <| ?_
      refine WL_nil ?_
      refine At_then ?_
      refine WC_cond (Opd.t rfl) (fun hc17 => ?_) (fun hc17 => ?_)
      ·
        replace hm := bif_t hc17 hm
        refine WC_seq ?_
        refine WC_region ?_
        refine WL_op (Run_move (Opd.t rfl)) rfl rfl rfl <| WL_op (Run_assign (Opd.t rfl)) rfl rfl rfl <| ?_
        refine WL_nil ?_
        refine At_then ?_
        refine WC_ret ?_
        refine At_blk_ret <| At_then_ret <| At_then_ret <| At_blk_ret <| At_then_ret <| ?_
        refine At_r1 rfl (ResIs.t rfl) ?_
        cases hm
        exact ⟨hS.toExt, rfl⟩
      ·
        replace hm := bif_f hc17 hm
        refine WC_skip ?_
        refine At_blk_normal ?_
        refine At_then ?_
        refine WC_region ?_
        refine WL_op (Run_move (Opd.t rfl)) rfl rfl rfl <| WL_op (Run_add (Opd.t rfl) Opd.c) rfl rfl rfl <| WL_op (Run_assign (Opd.t rfl)) rfl rfl rfl <| ?_
        refine WL_nil ?_
        exact At_again (IntKind.i64.wrap (i12 + 1)) () hm hS rfl
    ·
      replace hm := bif_f hc15 hm
      refine WC_exit ?_
      refine At_then_exit <| At_then_exit <| At_blk_here <| ?_
      refine At_then ?_
      refine WC_seq ?_
      refine WC_region ?_
      refine WL_op (Run_move (Opd.t rfl)) rfl rfl rfl <| ?_
      obtain ⟨r18, hr19, hm⟩ := bind_some' hm
      refine WL_call (f := 11) (first := []) (cap := []) (xs := [(.tmp 42)]) (vs := [(S text0)]) (args := [(S text0)]) Try.call11 Opd.f (.cons (Opd.t rfl) .nil) rfl rfl (lex_Tokens_ok w13 (Mine [[], []] M0) (mine_lt hS hM) hr19) ?_
      rintro _ w23 ⟨hx22, v20, rfl, h21⟩
      replace hS := hS.ext hx22
      refine WL_op (Run_move (Opd.t rfl)) rfl rfl rfl <| WL_op (Run_extract (vs := [v20, (.int .i64 r18.2.1), (.int .i64 r18.2.2)]) (Opd.t rfl) rfl) rfl rfl rfl <| WL_op (Run_extract (vs := [v20, (.int .i64 r18.2.1), (.int .i64 r18.2.2)]) (Opd.t rfl) rfl) rfl rfl rfl <| WL_op (Run_extract (vs := [v20, (.int .i64 r18.2.1), (.int .i64 r18.2.2)]) (Opd.t rfl) rfl) rfl rfl rfl <| WL_op (Run_assign (Opd.t rfl)) rfl rfl rfl <| WL_op (Run_assign (Opd.t rfl)) rfl rfl rfl <| WL_op (Run_assign (Opd.t rfl)) rfl rfl rfl <| ?_
      refine WL_nil ?_
      refine At_then ?_
      refine WC_seq ?_
      refine WC_region ?_
      obtain ⟨k24, hm⟩ := chk_some hm
      obtain ⟨k25, hm⟩ := chk_some hm
      obtain ⟨k26, hm⟩ := chk_some hm
      refine WL_op (Run_move (Opd.t rfl)) rfl rfl rfl <| WL_op (Run_cat Opd.c (Opd.t rfl) (fun _ => k24)) rfl rfl rfl <| WL_op (Run_cat (Opd.t rfl) Opd.c (fun _ => k25)) rfl rfl rfl <| WL_op (Run_move (Opd.t rfl)) rfl rfl rfl <| WL_op (Run_cat (Opd.t rfl) (Opd.t rfl) (fun _ => k26)) rfl rfl rfl <| ?_
      obtain ⟨r27, hr28, hm⟩ := bind_some' hm
      refine WL_call (f := 11) (first := []) (cap := []) (xs := [(.tmp 52)]) (vs := [(S ((([35] ++ comment1) ++ [10]) ++ text0))]) (args := [(S ((([35] ++ comment1) ++ [10]) ++ text0))]) Try.call11 Opd.f (.cons (Opd.t rfl) .nil) rfl rfl (lex_Tokens_ok w23 (Mine [[], []] M0) (mine_lt hS hM) hr28) ?_
      rintro _ w32 ⟨hx31, v29, rfl, h30⟩
      replace h21 := h21.mv (hx31.mv _)
      replace hS := hS.ext hx31
      refine WL_op (Run_move (Opd.t rfl)) rfl rfl rfl <| WL_op (Run_extract (vs := [v29, (.int .i64 r27.2.1), (.int .i64 r27.2.2)]) (Opd.t rfl) rfl) rfl rfl rfl <| WL_op (Run_extract (vs := [v29, (.int .i64 r27.2.1), (.int .i64 r27.2.2)]) (Opd.t rfl) rfl) rfl rfl rfl <| WL_op (Run_extract (vs := [v29, (.int .i64 r27.2.1), (.int .i64 r27.2.2)]) (Opd.t rfl) rfl) rfl rfl rfl <| WL_op (Run_assign (Opd.t rfl)) rfl rfl rfl <| WL_op (Run_assign (Opd.t rfl)) rfl rfl rfl <| WL_op (Run_assign (Opd.t rfl)) rfl rfl rfl <| ?_
      refine WL_nil ?_
      refine At_then ?_
      refine WC_seq ?_
      refine WC_region ?_
      obtain ⟨k33, hm⟩ := chk_some hm
      obtain ⟨k34, hm⟩ := chk_some hm
      refine WL_op (Run_move (Opd.t rfl)) rfl rfl rfl <| WL_op (Run_cat (Opd.t rfl) Opd.c (fun _ => k33)) rfl rfl rfl <| WL_op (Run_move (Opd.t rfl)) rfl rfl rfl <| WL_op (Run_cat (Opd.t rfl) (Opd.t rfl) (fun _ => k34)) rfl rfl rfl <| ?_
      obtain ⟨r35, hr36, hm⟩ := bind_some' hm
      refine WL_call (f := 11) (first := []) (cap := []) (xs := [(.tmp 61)]) (vs := [(S ((text0 ++ [10, 35]) ++ comment1))]) (args := [(S ((text0 ++ [10, 35]) ++ comment1))]) Try.call11 Opd.f (.cons (Opd.t rfl) .nil) rfl rfl (lex_Tokens_ok w32 (Mine [[], []] M0) (mine_lt hS hM) hr36) ?_
      rintro _ w40 ⟨hx39, v37, rfl, h38⟩
      replace h21 := h21.mv (hx39.mv _)
      replace h30 := h30.mv (hx39.mv _)
      replace hS := hS.ext hx39
      refine WL_op (Run_move (Opd.t rfl)) rfl rfl rfl <| WL_op (Run_extract (vs := [v37, (.int .i64 r35.2.1), (.int .i64 r35.2.2)]) (Opd.t rfl) rfl) rfl rfl rfl <| WL_op (Run_extract (vs := [v37, (.int .i64 r35.2.1), (.int .i64 r35.2.2)]) (Opd.t rfl) rfl) rfl rfl rfl <| WL_op (Run_extract (vs := [v37, (.int .i64 r35.2.1), (.int .i64 r35.2.2)]) (Opd.t rfl) rfl) rfl rfl rfl <| WL_op (Run_assign (Opd.t rfl)) rfl rfl rfl <| WL_op (Run_assign (Opd.t rfl)) rfl rfl rfl <| WL_op (Run_assign (Opd.t rfl)) rfl rfl rfl <| ?_
      refine WL_nil ?_
      refine At_then ?_
      refine WC_seq ?_
      refine WC_region ?_
      refine WL_op (Run_move (Opd.t rfl)) rfl rfl rfl <| WL_op (Run_lenS Try.underlying9 (Opd.t rfl)) rfl rfl rfl <| WL_op (Run_add (Opd.t rfl) Opd.c) rfl rfl rfl <| WL_op (Run_assign (Opd.t rfl)) rfl rfl rfl <| ?_
      refine WL_nil ?_
      refine At_then ?_
      refine WC_seq ?_
      refine WC_seq ?_
      refine WC_region ?_
      refine WL_op (Run_move (Opd.t rfl)) rfl rfl rfl <| WL_op (Run_neI (Opd.t rfl) Opd.c) rfl rfl rfl <| ?_
      refine WL_nil ?_
      refine At_then ?_
      refine WC_cond (Opd.t rfl) (fun hc41 => ?_) (fun hc41 => ?_)
      ·
        replace hm := bif_t hc41 hm
        refine WC_seq ?_
        refine WC_region ?_
        obtain ⟨b42, e43, hm⟩ := letv_some hm
        obtain ⟨b44, e45, hm⟩ := letv_some hm
        refine WL_op (Run_move (Opd.t rfl)) rfl rfl rfl <| WL_op (Run_move (Opd.t rfl)) rfl rfl rfl <| WL_opG rfl rfl rfl rfl guard_pos (Run_move (Opd.t rfl)) rfl rfl <| WL_opG rfl rfl rfl rfl guard_pos (Run_move (Opd.t rfl)) rfl rfl <| WL_opG rfl rfl rfl rfl guard_pos (Run.eqB (Run_eqI (Opd.g rfl id) (Opd.g rfl id)) e43) rfl rfl <| WL_op (Run.eqB (Run_and (Opd.t rfl) (Opd.g rfl id)) e45) rfl rfl rfl <| WL_op (Run_move (Opd.t rfl)) rfl rfl rfl <| WL_opG rfl rfl rfl rfl guard_pos (Run_move (Opd.t rfl)) rfl rfl <| ?_
        obtain ⟨b46, e47, hm⟩ := letv_some hm
        obtain ⟨b48, e49, hm⟩ := letv_some hm
        refine WL_opG rfl rfl rfl rfl guard_pos (Run_move (Opd.t rfl)) rfl rfl <| WL_opG rfl rfl rfl rfl guard_pos (Run.eqB (Run_eqI (Opd.g rfl id) (Opd.g rfl id)) e47) rfl rfl <| WL_op (Run.eqB (Run_and (Opd.t rfl) (Opd.g rfl id)) e49) rfl rfl rfl <| WL_op (Run_move (Opd.t rfl)) rfl rfl rfl <| WL_opG rfl rfl rfl rfl guard_pos (Run_move (Opd.t rfl)) rfl rfl <| WL_opG rfl rfl rfl rfl guard_pos (Run_move (Opd.t rfl)) rfl rfl <| WL_opG rfl rfl rfl rfl guard_pos (Run_move (Opd.t rfl)) rfl rfl <| WL_opG rfl rfl rfl rfl guard_pos (Run_add (Opd.g rfl id) (Opd.g rfl id)) rfl rfl <| ?_
        obtain ⟨b50, e51, hm⟩ := letv_some hm
        obtain ⟨b52, e53, hm⟩ := letv_some hm
        obtain ⟨b54, e55, hm⟩ := letv_some hm
        obtain ⟨b56, e57, hm⟩ := letv_some hm
        refine WL_opG rfl rfl rfl rfl guard_pos (Run.eqB (Run_eqI (Opd.g rfl id) (Opd.g rfl id)) e51) rfl rfl <| WL_op (Run.eqB (Run_and (Opd.t rfl) (Opd.g rfl id)) e53) rfl rfl rfl <| WL_op (Run_move (Opd.t rfl)) rfl rfl rfl <| WL_opG rfl rfl rfl rfl guard_pos (Run_move (Opd.t rfl)) rfl rfl <| WL_opG rfl rfl rfl rfl guard_pos (Run_move (Opd.t rfl)) rfl rfl <| WL_opG rfl rfl rfl rfl guard_pos (Run.eqB (Run_eqI (Opd.g rfl id) (Opd.g rfl id)) e55) rfl rfl <| WL_op (Run.eqB (Run_and (Opd.t rfl) (Opd.g rfl id)) e57) rfl rfl rfl <| WL_op (Run_move (Opd.t rfl)) rfl rfl rfl <| ?_
        obtain ⟨b58, e59, hm⟩ := letv_some hm
        obtain ⟨b60, e61, hm⟩ := letv_some hm
        obtain ⟨b62, e63, hm⟩ := letv_some hm
        refine WL_opG rfl rfl rfl rfl guard_pos (Run_move (Opd.t rfl)) rfl rfl <| WL_opG rfl rfl rfl rfl guard_pos (Run_lenSl Try.underlying23 (Opd.g rfl id) h30.len) rfl rfl <| WL_opG rfl rfl rfl rfl guard_pos (Run.eqB (Run_eqI (Opd.g rfl id) Opd.c) e59) rfl rfl <| WL_op (Run.eqB (Run_and (Opd.t rfl) (Opd.g rfl id)) e61) rfl rfl rfl <| WL_op (Run_move (Opd.t rfl)) rfl rfl rfl <| WL_opG rfl rfl rfl rfl guard_pos (Run_move (Opd.t rfl)) rfl rfl <| WL_opG rfl rfl rfl rfl guard_pos (Run_lenSl Try.underlying23 (Opd.g rfl id) h38.len) rfl rfl <| WL_opG rfl rfl rfl rfl guard_pos (Run.eqB (Run_eqI (Opd.g rfl id) Opd.c) e63) rfl rfl <| ?_
        obtain ⟨b64, e65, hm⟩ := letv_some hm
        refine WL_op (Run.eqB (Run_and (Opd.t rfl) (Opd.g rfl id)) e65) rfl rfl rfl <| WL_op (Run_assign (Opd.t rfl)) rfl rfl rfl <| ?_
        refine WL_nil ?_
        refine At_then ?_
        refine WC_ret ?_
        refine At_then_ret <| ?_
        refine At_r1 rfl (ResIs.t rfl) ?_
        cases hm
        exact ⟨hS.toExt, rfl⟩
      ·
        replace hm := bif_f hc41 hm
        refine WC_skip ?_
        refine At_then ?_
        refine WC_seq ?_
        refine WC_seq ?_
        refine WC_region ?_
        obtain ⟨b66, e67, hm⟩ := letv_some hm
        obtain ⟨b68, e69, hm⟩ := letv_some hm
        obtain ⟨b70, e71, hm⟩ := letv_some hm
        refine WL_op (Run_move (Opd.t rfl)) rfl rfl rfl <| WL_op (Run.eqB (Run_neI (Opd.t rfl) Opd.c) e67) rfl rfl rfl <| WL_op (Run_move (Opd.t rfl)) rfl rfl rfl <| WL_opG rfl rfl rfl rfl guard_neg (Run_move (Opd.t rfl)) rfl rfl <| WL_opG rfl rfl rfl rfl guard_neg (Run.eqB (Run_neI (Opd.g rfl id) Opd.c) e69) rfl rfl <| WL_op (Run.eqB (Run_or (Opd.t rfl) (Opd.g rfl id)) e71) rfl rfl rfl <| WL_op (Run_move (Opd.t rfl)) rfl rfl rfl <| WL_opG rfl rfl rfl rfl guard_neg (Run_move (Opd.t rfl)) rfl rfl <| ?_
        obtain ⟨b72, e73, hm⟩ := letv_some hm
        obtain ⟨b74, e75, hm⟩ := letv_some hm
        refine WL_opG rfl rfl rfl rfl guard_neg (Run_lenSl Try.underlying23 (Opd.g rfl id) h21.len) rfl rfl <| WL_opG rfl rfl rfl rfl guard_neg (Run_move (Opd.t rfl)) rfl rfl <| WL_opG rfl rfl rfl rfl guard_neg (Run_lenSl Try.underlying23 (Opd.g rfl id) h30.len) rfl rfl <| WL_opG rfl rfl rfl rfl guard_neg (Run.eqB (Run_neI (Opd.g rfl id) (Opd.g rfl id)) e73) rfl rfl <| WL_op (Run.eqB (Run_or (Opd.t rfl) (Opd.g rfl id)) e75) rfl rfl rfl <| WL_op (Run_move (Opd.t rfl)) rfl rfl rfl <| WL_opG rfl rfl rfl rfl guard_neg (Run_move (Opd.t rfl)) rfl rfl <| WL_opG rfl rfl rfl rfl guard_neg (Run_lenSl Try.underlying23 (Opd.g rfl id) h21.len) rfl rfl <| ?_
        obtain ⟨b76, e77, hm⟩ := letv_some hm
        obtain ⟨b78, e79, hm⟩ := letv_some hm
        refine WL_opG rfl rfl rfl rfl guard_neg (Run_move (Opd.t rfl)) rfl rfl <| WL_opG rfl rfl rfl rfl guard_neg (Run_lenSl Try.underlying23 (Opd.g rfl id) h38.len) rfl rfl <| WL_opG rfl rfl rfl rfl guard_neg (Run.eqB (Run_neI (Opd.g rfl id) (Opd.g rfl id)) e77) rfl rfl <| WL_op (Run.eqB (Run_or (Opd.t rfl) (Opd.g rfl id)) e79) rfl rfl rfl <| ?_
        refine WL_nil ?_
        refine At_then ?_
        refine WC_cond (Opd.t rfl) (fun hc80 => ?_) (fun hc80 => ?_)
        ·
          replace hm := bif_t hc80 hm
          refine WC_seq ?_
          refine WC_region ?_
          refine WL_op (Run_assign Opd.c) rfl rfl rfl <| ?_
          refine WL_nil ?_
          refine At_then ?_
          refine WC_ret ?_
          refine At_then_ret <| ?_
          refine At_r1 rfl (ResIs.t rfl) ?_
          cases hm
          exact ⟨hS.toExt, rfl⟩
        ·
          replace hm := bif_f hc80 hm
          refine WC_skip ?_
          refine At_then ?_
          refine WC_seq ?_
          refine WC_seq ?_
          refine WC_region ?_
          refine WL_op (Run_assign Opd.c) rfl rfl rfl <| ?_
          refine WL_nil ?_
          refine At_then ?_
          refine WC_block ?_
          refine WC_loop (σ := Int) (γ := Unit) (F := (scrutinylaw12_LexComments_L2 comment1 r1 r18 r27 r35)) (N := FUEL) (s0 := 0) (r := r) (fun i81 (_ : Unit) w82 => St w0 [[], []] w82 ∧ SRd (RP (RI .i64) (RP RS (RP (RI .i64) (RI .i64)))) (Mine [[], []] M0) w82 v20 r18.1 ∧ SRd (RP (RI .i64) (RP RS (RP (RI .i64) (RI .i64)))) (Mine [[], []] M0) w82 v29 r27.1 ∧ SRd (RP (RI .i64) (RP RS (RP (RI .i64) (RI .i64)))) (Mine [[], []] M0) w82 v37 r35.1) (fun i81 (_ : Unit) => [(5, true, (.bool r1)), (7, true, v20), (10, true, v29), (13, true, v37), (16, true, (.int .i64 (IntKind.i64.wrap ((List.length comment1 : Int) + 2)))), (17, true, (.int .i64 i81))]) hm () ⟨hS, h21, h30, h38⟩ rfl ?_
          rintro again83 i81 _ w82 hm ⟨hS, h21, h30, h38⟩
          unfold scrutinylaw12_LexComments_L2 at hm
          refine WC_seq ?_
          refine WC_seq ?_
          refine WC_region ?_
          refine WL_op (Run_move (Opd.t rfl)) rfl rfl rfl <| WL_op (Run_move (Opd.t rfl)) rfl rfl rfl <| WL_op (Run_lenSl Try.underlying23 (Opd.t rfl) h21.len) rfl rfl rfl <| WL_op (Run_ltI (Opd.t rfl) (Opd.t rfl)) rfl rfl rfl <| ?_
          refine WL_nil ?_
          refine At_then ?_
          refine WC_cond (Opd.t rfl) (fun hc84 => ?_) (fun hc84 => ?_)
          ·
            replace hm := bif_t hc84 hm
            refine WC_skip ?_
            refine At_then ?_
            refine WC_seq ?_
            refine WC_block ?_
            refine WC_seq ?_
            refine WC_region ?_
            obtain ⟨e85, he86, hm⟩ := bind_some' hm
            obtain ⟨p87, vs88, hE89, hC90, hR91⟩ := SRd.atG (fun _ => h21) (fun _ => he86)
            replace hC90 : true = true → CellsAt w82 p87 [(.int .i64 e85.1), (S e85.2.1), (.int .i64 e85.2.2.1), (.int .i64 e85.2.2.2)] := fun hg => openT34 (hR91 hg) ▸ hC90 hg
            replace hC90 := hC90 rfl
            refine WL_op (Run_move (Opd.t rfl)) rfl rfl rfl <| WL_op (Run_move (Opd.t rfl)) rfl rfl rfl <| WL_op (Run_idxAddr Try.underlying23 ti34 (Opd.t rfl) (Opd.t rfl) hE89) rfl rfl rfl <| WL_op (Run_loadA (vs := [(.int .i64 e85.1), (S e85.2.1), (.int .i64 e85.2.2.1), (.int .i64 e85.2.2.2)]) Try.underlying34 rfl ti34 (Opd.t rfl) (fun hg => (((fun _ => hC90) hg).sub 0 rfl)) rfl) rfl rfl rfl <| ?_
            obtain ⟨b92, hb93⟩ : ∃ b, w82.heap.size = b := ⟨_, rfl⟩
            refine WL_alloc (zs := [(.int .i64 0), (S ([])), (.int .i64 0), (.int .i64 0)]) ti34 rfl hb93 rfl ?_
            intro w94 hx95 hB96
            have mv97 : Mv (Mine [[], []] M0) w82 (Mine [[b92], []] M0) w94 := Mv.newB hS hM 0 hx95 hb93 hB96.lt
            replace h21 := h21.mv mv97
            replace h30 := h30.mv mv97
            replace h38 := h38.mv mv97
            replace hS : St w0 [[b92], []] w94 := hS.newB 0 hx95 hb93 hB96.lt
            refine WL_store (us := [(.int .i64 e85.1), (S e85.2.1), (.int .i64 e85.2.2.1), (.int .i64 e85.2.2.2)]) (vs' := [(.int .i64 e85.1), (S e85.2.1), (.int .i64 e85.2.2.1), (.int .i64 e85.2.2.2)]) ti34 (Opd.t rfl) (Opd.t rfl) rfl rfl rfl hB96 rfl rfl ?_
            intro w99 hC100 hz101 hB103
            have mv102 : Mv (Mine [[b92], []] M0) w94 (Mine [[b92], []] M0) w99 := Mv.wrote hS hM 0 hC100
            replace h21 := h21.mv mv102
            replace h30 := h30.mv mv102
            replace h38 := h38.mv mv102
            replace hS : St w0 [[b92], []] w99 := hS.wrote 0 hC100
            refine WL_nil ?_
            refine At_then ?_
            refine WC_seq ?_
            refine WC_region ?_
            refine WL_op (Run_fieldAddr fo34_3 (Opd.t rfl)) rfl rfl rfl <| WL_op (Run_load1 (v := (.int .i64 e85.2.2.2)) Try.underlying3 rfl (Opd.t rfl) (fun _ => (hB103.part 3 rfl))) rfl rfl rfl <| WL_op (Run_move (Opd.t rfl)) rfl rfl rfl <| WL_op (Run_add (Opd.t rfl) (Opd.t rfl)) rfl rfl rfl <| WL_op (Run_fieldAddr fo34_3 (Opd.t rfl)) rfl rfl rfl <| ?_
            refine WL_store (us := [(.int .i64 (IntKind.i64.wrap (e85.2.2.2 + (IntKind.i64.wrap ((List.length comment1 : Int) + 2)))))]) (vs' := [(.int .i64 e85.1), (S e85.2.1), (.int .i64 e85.2.2.1), (.int .i64 (IntKind.i64.wrap (e85.2.2.2 + (IntKind.i64.wrap ((List.length comment1 : Int) + 2)))))]) ti3 (Opd.t rfl) (Opd.t rfl) rfl rfl rfl hB103 rfl rfl ?_
            intro w104 hC105 hz106 hB108
            have mv107 : Mv (Mine [[b92], []] M0) w99 (Mine [[b92], []] M0) w104 := Mv.wrote hS hM 0 hC105
            replace h21 := h21.mv mv107
            replace h30 := h30.mv mv107
            replace h38 := h38.mv mv107
            replace hS : St w0 [[b92], []] w104 := hS.wrote 0 hC105
            refine WL_nil ?_
            refine At_then ?_
            refine WC_seq ?_
            refine WC_region ?_
            obtain ⟨e109, he110, hm⟩ := bind_some' hm
            obtain ⟨p111, vs112, hE113, hC114, hR115⟩ := SRd.atG (fun _ => h21) (fun _ => he110)
            replace hC114 : true = true → CellsAt w104 p111 [(.int .i64 e109.1), (S e109.2.1), (.int .i64 e109.2.2.1), (.int .i64 e109.2.2.2)] := fun hg => openT34 (hR115 hg) ▸ hC114 hg
            replace hC114 := hC114 rfl
            refine WL_op (Run_move (Opd.t rfl)) rfl rfl rfl <| WL_op (Run_move (Opd.t rfl)) rfl rfl rfl <| WL_op (Run_idxAddr Try.underlying23 ti34 (Opd.t rfl) (Opd.t rfl) hE113) rfl rfl rfl <| WL_op (Run_loadA (vs := [(.int .i64 e109.1), (S e109.2.1), (.int .i64 e109.2.2.1), (.int .i64 e109.2.2.2)]) Try.underlying34 rfl ti34 (Opd.t rfl) (fun hg => (((fun _ => hC114) hg).sub 0 rfl)) rfl) rfl rfl rfl <| ?_
            obtain ⟨b116, hb117⟩ : ∃ b, w104.heap.size = b := ⟨_, rfl⟩
            refine WL_alloc (zs := [(.int .i64 0), (S ([])), (.int .i64 0), (.int .i64 0)]) ti34 rfl hb117 rfl ?_
            intro w118 hx119 hB120
            have mv121 : Mv (Mine [[b92], []] M0) w104 (Mine [[b92], [b116]] M0) w118 := Mv.newB hS hM 1 hx119 hb117 hB120.lt
            replace h21 := h21.mv mv121
            replace h30 := h30.mv mv121
            replace h38 := h38.mv mv121
            replace hB108 := hB108.ext hx119
            replace hS : St w0 [[b92], [b116]] w118 := hS.newB 1 hx119 hb117 hB120.lt
            refine WL_store (us := [(.int .i64 e109.1), (S e109.2.1), (.int .i64 e109.2.2.1), (.int .i64 e109.2.2.2)]) (vs' := [(.int .i64 e109.1), (S e109.2.1), (.int .i64 e109.2.2.1), (.int .i64 e109.2.2.2)]) ti34 (Opd.t rfl) (Opd.t rfl) rfl rfl rfl hB120 rfl rfl ?_
            intro w123 hC124 hz125 hB127
            have mv126 : Mv (Mine [[b92], [b116]] M0) w118 (Mine [[b92], [b116]] M0) w123 := Mv.wrote hS hM 1 hC124
            replace h21 := h21.mv mv126
            replace h30 := h30.mv mv126
            replace h38 := h38.mv mv126
            replace hB108 := hB108.keep (hS.keep (i := 1) (j := 0) rfl (List.mem_singleton.2 rfl) hC124)
            replace hS : St w0 [[b92], [b116]] w123 := hS.wrote 1 hC124
            refine WL_nil ?_
            refine At_then ?_
            refine WC_seq_cut (γ := Int × Str × Int × Int) (fun ⟨c129, c130, c131, c132⟩ w134 => scrutinylaw12_LexComments_K3 comment1 r27 r35 i81 again83 e85 c129 c130 c131 c132 = some r ∧ St w0 [[b92], [b116]] w134 ∧ SRd (RP (RI .i64) (RP RS (RP (RI .i64) (RI .i64)))) (Mine [[b92], [b116]] M0) w134 v20 r18.1 ∧ SRd (RP (RI .i64) (RP RS (RP (RI .i64) (RI .i64)))) (Mine [[b92], [b116]] M0) w134 v29 r27.1 ∧ SRd (RP (RI .i64) (RP RS (RP (RI .i64) (RI .i64)))) (Mine [[b92], [b116]] M0) w134 v37 r35.1 ∧ BoxAt w134 b92 34 [(.int .i64 e85.1), (S e85.2.1), (.int .i64 e85.2.2.1), (.int .i64 (IntKind.i64.wrap (e85.2.2.2 + (IntKind.i64.wrap ((List.length comment1 : Int) + 2)))))] ∧ BoxAt w134 b116 34 [(.int .i64 c129), (S c130), (.int .i64 c131), (.int .i64 c132)]) (fun ⟨c129, c130, c131, c132⟩ => [(5, true, (.bool r1)), (7, true, v20), (10, true, v29), (13, true, v37), (16, true, (.int .i64 (IntKind.i64.wrap ((List.length comment1 : Int) + 2)))), (17, true, (.int .i64 i81)), (18, true, (.pointer (some ⟨b92, 0, none⟩))), (19, true, (.pointer (some ⟨b116, 0, none⟩)))]) ?_ ?_
            ·
              rintro ⟨c129, c130, c131, c132⟩ w134 ⟨hm, hS, h21, h30, h38, hB128, hB133⟩
              unfold scrutinylaw12_LexComments_K3 at hm
              refine WC_seq ?_
              refine WC_region_draw (by kernel_rfl) (by kernel_rfl) ?_
              obtain ⟨e135, he136, hm⟩ := bind_some' hm
              obtain ⟨p137, vs138, hE139, hC140, hR141⟩ := SRd.atG (fun _ => h30) (fun _ => he136)
              replace hC140 : true = true → CellsAt w134 p137 [(.int .i64 e135.1), (S e135.2.1), (.int .i64 e135.2.2.1), (.int .i64 e135.2.2.2)] := fun hg => openT34 (hR141 hg) ▸ hC140 hg
              replace hC140 := hC140 rfl
              obtain ⟨b142, e143, hm⟩ := letv_some hm
              refine WQ_op (fun _ hx => (Run_move (Opd.t rfl))) rfl rfl rfl <| WQ_op (fun _ hx => (Run_move (Opd.t rfl))) rfl rfl rfl <| WQ_op (fun _ hx => (Run_idxAddr Try.underlying23 ti34 (Opd.t rfl) (Opd.t rfl) hE139)) rfl rfl rfl <| WQ_op (fun _ hx => (Run_loadA (vs := [(.int .i64 e135.1), (S e135.2.1), (.int .i64 e135.2.2.1), (.int .i64 e135.2.2.2)]) Try.underlying34 rfl ti34 (Opd.t rfl) (fun hg => (((fun _ => hC140) hg).sub 0 rfl).ext hx) rfl)) rfl rfl rfl <| WQ_op (fun _ hx => (Run_loadA (vs := [(.int .i64 e85.1), (S e85.2.1), (.int .i64 e85.2.2.1), (.int .i64 (IntKind.i64.wrap (e85.2.2.2 + (IntKind.i64.wrap ((List.length comment1 : Int) + 2)))))]) Try.underlying34 rfl ti34 (Opd.t rfl) (fun _ => (hB128.part 0 rfl).ext hx) rfl)) rfl rfl rfl <| WQ_op (fun _ hx => (Run.eqB (Run_bin (Opd.t rfl) (Opd.t rfl) (run_neT34 _ _ _ _ _ _ _ _ _)) e143)) rfl rfl rfl <| WQ_op (fun _ hx => (Run_move (Opd.t rfl))) rfl rfl rfl <| WQ_opG rfl rfl rfl rfl guard_neg (fun _ hx => (Run_move (Opd.t rfl))) rfl rfl <| ?_
              obtain ⟨e144, he145, -, hm⟩ := callG_some hm
              obtain ⟨p146, vs147, hE148, hC149, hR150⟩ := SRd.atG (fun _ => h38) he145
              replace hC149 : (!b142) = true → CellsAt w134 p146 [(.int .i64 e144.1), (S e144.2.1), (.int .i64 e144.2.2.1), (.int .i64 e144.2.2.2)] := fun hg => openT34 (hR150 hg) ▸ hC149 hg
              obtain ⟨b151, e152, hm⟩ := letv_some hm
              obtain ⟨b153, e154, hm⟩ := letv_some hm
              refine WQ_opG rfl rfl rfl rfl guard_neg (fun _ hx => (Run_move (Opd.t rfl))) rfl rfl <| WQ_opG rfl rfl rfl rfl guard_neg (fun _ hx => (Run_idxAddr Try.underlying23 ti34 (Opd.g rfl id) (Opd.g rfl id) hE148)) rfl rfl <| WQ_opG rfl rfl rfl rfl guard_neg (fun _ hx => (Run_loadA (vs := [(.int .i64 e144.1), (S e144.2.1), (.int .i64 e144.2.2.1), (.int .i64 e144.2.2.2)]) Try.underlying34 rfl ti34 (Opd.g rfl id) (fun hg => ((hC149 hg).sub 0 rfl).ext hx) rfl)) rfl rfl <| WQ_opG rfl rfl rfl rfl guard_neg (fun _ hx => (Run_loadA (vs := [(.int .i64 c129), (S c130), (.int .i64 c131), (.int .i64 c132)]) Try.underlying34 rfl ti34 (Opd.t rfl) (fun _ => (hB133.part 0 rfl).ext hx) rfl)) rfl rfl <| WQ_opG rfl rfl rfl rfl guard_neg (fun _ hx => (Run.eqB (Run_bin (Opd.g rfl id) (Opd.g rfl id) (run_neT34 _ _ _ _ _ _ _ _ _)) e152)) rfl rfl <| WQ_op (fun _ hx => (Run.eqB (Run_or (Opd.t rfl) (Opd.g rfl id)) e154)) rfl rfl rfl <| ?_
              refine WQ_nil ?_
              intro w155 hx156
              replace h21 := h21.mv (hx156.mv _)
              replace h30 := h30.mv (hx156.mv _)
              replace h38 := h38.mv (hx156.mv _)
              replace hS := hS.ext hx156
              refine At_then ?_
              refine WC_cond (Opd.t rfl) (fun hc157 => ?_) (fun hc157 => ?_)
              ·
                replace hm := bif_t hc157 hm
                refine WC_seq ?_
                refine WC_region ?_
                refine WL_op (Run_assign Opd.c) rfl rfl rfl <| ?_
                refine WL_nil ?_
                refine At_then ?_
                refine WC_ret ?_
                refine At_blk_ret <| At_then_ret <| At_then_ret <| At_blk_ret <| At_then_ret <| ?_
                refine At_r1 rfl (ResIs.t rfl) ?_
                cases hm
                exact ⟨hS.toExt, rfl⟩
              ·
                replace hm := bif_f hc157 hm
                refine WC_skip ?_
                refine At_blk_normal ?_
                refine At_then ?_
                refine WC_region ?_
                refine WL_op (Run_move (Opd.t rfl)) rfl rfl rfl <| WL_op (Run_add (Opd.t rfl) Opd.c) rfl rfl rfl <| WL_op (Run_assign (Opd.t rfl)) rfl rfl rfl <| ?_
                refine WL_nil ?_
                have mv158 : Mv (Mine [[b92], [b116]] M0) w155 (Mine [[], [b116]] M0) w155 := Mv.drop w155 0
                replace h21 := h21.mv mv158
                replace h30 := h30.mv mv158
                replace h38 := h38.mv mv158
                replace hS : St w0 [[], [b116]] w155 := hS.drop 0
                have mv159 : Mv (Mine [[], [b116]] M0) w155 (Mine [[], []] M0) w155 := Mv.drop w155 1
                replace h21 := h21.mv mv159
                replace h30 := h30.mv mv159
                replace h38 := h38.mv mv159
                replace hS : St w0 [[], []] w155 := hS.drop 1
                exact At_again (IntKind.i64.wrap (i81 + 1)) () hm ⟨hS, h21, h30, h38⟩ rfl
            ·
              refine WC_seq ?_
              refine WC_region ?_
              refine WL_op (Run_move (Opd.t rfl)) rfl rfl rfl <| WL_op (Run_move (Opd.t rfl)) rfl rfl rfl <| WL_op (Run_lenSl Try.underlying23 (Opd.t rfl) h21.len) rfl rfl rfl <| WL_op (Run_sub (Opd.t rfl) Opd.c) rfl rfl rfl <| WL_op (Run_eqI (Opd.t rfl) (Opd.t rfl)) rfl rfl rfl <| ?_
              refine WL_nil ?_
              refine At_then ?_
              refine WC_cond (Opd.t rfl) (fun hc160 => ?_) (fun hc160 => ?_)
              ·
                replace hm := bif_t hc160 hm
                refine WC_region ?_
                refine WL_op (Run_fieldAddr fo34_3 (Opd.t rfl)) rfl rfl rfl <| WL_op (Run_load1 (v := (.int .i64 e109.2.2.2)) Try.underlying3 rfl (Opd.t rfl) (fun _ => (hB127.part 3 rfl))) rfl rfl rfl <| WL_op (Run_move (Opd.t rfl)) rfl rfl rfl <| WL_op (Run_add (Opd.t rfl) (Opd.t rfl)) rfl rfl rfl <| WL_op (Run_fieldAddr fo34_3 (Opd.t rfl)) rfl rfl rfl <| ?_
                refine WL_store (us := [(.int .i64 (IntKind.i64.wrap (e109.2.2.2 + (IntKind.i64.wrap ((List.length comment1 : Int) + 2)))))]) (vs' := [(.int .i64 e109.1), (S e109.2.1), (.int .i64 e109.2.2.1), (.int .i64 (IntKind.i64.wrap (e109.2.2.2 + (IntKind.i64.wrap ((List.length comment1 : Int) + 2)))))]) ti3 (Opd.t rfl) (Opd.t rfl) rfl rfl rfl hB127 rfl rfl ?_
                intro w161 hC162 hz163 hB165
                have mv164 : Mv (Mine [[b92], [b116]] M0) w123 (Mine [[b92], [b116]] M0) w161 := Mv.wrote hS hM 1 hC162
                replace h21 := h21.mv mv164
                replace h30 := h30.mv mv164
                replace h38 := h38.mv mv164
                replace hB108 := hB108.keep (hS.keep (i := 1) (j := 0) rfl (List.mem_singleton.2 rfl) hC162)
                replace hS : St w0 [[b92], [b116]] w161 := hS.wrote 1 hC162
                refine WL_nil ?_
                exact At_join (e109.1, e109.2.1, e109.2.2.1, (IntKind.i64.wrap (e109.2.2.2 + (IntKind.i64.wrap ((List.length comment1 : Int) + 2))))) ⟨hm, hS, h21, h30, h38, hB108, hB165⟩ rfl
              ·
                replace hm := bif_f hc160 hm
                refine WC_skip ?_
                exact At_join (e109.1, e109.2.1, e109.2.2.1, e109.2.2.2) ⟨hm, hS, h21, h30, h38, hB108, hB127⟩ rfl
          ·
            replace hm := bif_f hc84 hm
            refine WC_exit ?_
            refine At_then_exit <| At_then_exit <| At_blk_here <| ?_
            refine At_then ?_
            refine WC_seq ?_
            refine WC_region ?_
            refine WL_op (Run_move (Opd.t rfl)) rfl rfl rfl <| WL_op (Run_assign (Opd.t rfl)) rfl rfl rfl <| ?_
            refine WL_nil ?_
            refine At_then ?_
            refine WC_ret ?_
            refine At_r1 rfl (ResIs.t rfl) ?_
            cases hm
            exact ⟨hS.toExt, rfl⟩

end Go.Proofs.Ytiambejbilkgmaa
