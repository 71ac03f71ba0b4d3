/- Printed by a program: the walks. -/
import Derived.Test.YtiambejbilkgmaaWalk5
namespace Go.Proofs.Ytiambejbilkgmaa
open Go.Proofs

theorem scrutinylaw12_LexTells_ok (w0 : World) {text0 : Str} {r : Bool} (hm : scrutinylaw12_LexTells text0 = some r) :
    CallsR Try.prog 3 [(S text0)] w0 (fun v w' => Ext w0 w' ∧ v = (.bool r)) := by
  obtain ⟨M0, hM⟩ : ∃ M0 : Nat → Prop, ∀ b, M0 b → b < w0.heap.size := ⟨fun _ => False, fun _ h => h.elim⟩
  have hS : St w0 [] w0 := St.start w0 0
  refine CallsR_enter Try.func3 rfl Try.ntmps3 rfl ?_
  unfold scrutinylaw12_LexTells at hm
  refine WC_seq ?_
  refine WC_region ?_
  refine WL_op (Run_assign Opd.c) rfl rfl rfl <| ?_
  refine WL_nil ?_
  refine At_then ?_
  refine WC_seq ?_
  refine WC_region ?_
  obtain ⟨r1, hr2, hm⟩ := bind_some' hm
  refine WL_call (f := 10) (first := []) (cap := []) (xs := []) (vs := []) (args := []) Try.call10 Opd.f .nil rfl rfl (scrutinylaw12_shown_ok w0 hr2) ?_
  rintro _ w4 ⟨hx3, rfl⟩
  replace hS := hS.ext hx3
  refine WL_op (Run_assign (Opd.t rfl)) rfl rfl rfl <| ?_
  refine WL_nil ?_
  refine At_then ?_
  refine WC_seq ?_
  refine WC_seq ?_
  refine WC_region ?_
  refine WL_op (Run_move (Opd.t rfl)) rfl rfl rfl <| WL_op (Run_lenS Try.underlying9 (Opd.t rfl)) rfl rfl rfl <| WL_op (Run_gtI (Opd.t rfl) Opd.c) rfl rfl rfl <| ?_
  refine WL_nil ?_
  refine At_then ?_
  refine WC_cond (Opd.t rfl) (fun hc5 => ?_) (fun hc5 => ?_)
  ·
    replace hm := bif_t hc5 hm
    refine WC_seq ?_
    refine WC_region ?_
    refine WL_op (Run_move (Opd.t rfl)) rfl rfl rfl <| WL_op (Run_assign (Opd.t rfl)) rfl rfl rfl <| ?_
    refine WL_nil ?_
    refine At_then ?_
    refine WC_ret ?_
    refine At_then_ret <| ?_
    refine At_r1 rfl (ResIs.t rfl) ?_
    cases hm
    exact ⟨hS.toExt, rfl⟩
  ·
    replace hm := bif_f hc5 hm
    refine WC_skip ?_
    refine At_then ?_
    refine WC_seq ?_
    refine WC_region ?_
    refine WL_op (Run_move (Opd.t rfl)) rfl rfl rfl <| ?_
    obtain ⟨r6, hr7, hm⟩ := bind_some' hm
    refine WL_call (f := 11) (first := []) (cap := []) (xs := [(.tmp 19)]) (vs := [(S text0)]) (args := [(S text0)]) Try.call11 Opd.f (.cons (Opd.t rfl) .nil) rfl rfl (lex_Tokens_ok w4 (Mine [] M0) (mine_lt hS hM) hr7) ?_
    rintro _ w11 ⟨hx10, v8, rfl, h9⟩
    replace hS := hS.ext hx10
    refine WL_op (Run_move (Opd.t rfl)) rfl rfl rfl <| WL_op (Run_extract (vs := [v8, (.int .i64 r6.2.1), (.int .i64 r6.2.2)]) (Opd.t rfl) rfl) rfl rfl rfl <| WL_op (Run_extract (vs := [v8, (.int .i64 r6.2.1), (.int .i64 r6.2.2)]) (Opd.t rfl) rfl) rfl rfl rfl <| WL_op (Run_extract (vs := [v8, (.int .i64 r6.2.1), (.int .i64 r6.2.2)]) (Opd.t rfl) rfl) rfl rfl rfl <| WL_op (Run_assign (Opd.t rfl)) rfl rfl rfl <| WL_op (Run_assign (Opd.t rfl)) rfl rfl rfl <| WL_op (Run_assign (Opd.t rfl)) rfl rfl rfl <| ?_
    refine WL_nil ?_
    refine At_then ?_
    refine WC_seq ?_
    refine WC_region ?_
    refine WL_op (Run_move (Opd.t rfl)) rfl rfl rfl <| ?_
    obtain ⟨r12, hr13, hm⟩ := bind_some' hm
    refine WL_call (f := 12) (first := []) (cap := []) (xs := [(.tmp 25)]) (vs := [(S text0)]) (args := [(S text0)]) Try.call12 Opd.f (.cons (Opd.t rfl) .nil) rfl rfl (scrutinyref12_Tokens_ok w11 (Mine [] M0) (mine_lt hS hM) hr13) ?_
    rintro _ w17 ⟨hx16, v14, rfl, h15⟩
    replace h9 := h9.mv (hx16.mv _)
    replace hS := hS.ext hx16
    refine WL_op (Run_move (Opd.t rfl)) rfl rfl rfl <| WL_op (Run_extract (vs := [v14, (.int .i64 r12.2.1), (.int .i64 r12.2.2)]) (Opd.t rfl) rfl) rfl rfl rfl <| WL_op (Run_extract (vs := [v14, (.int .i64 r12.2.1), (.int .i64 r12.2.2)]) (Opd.t rfl) rfl) rfl rfl rfl <| WL_op (Run_extract (vs := [v14, (.int .i64 r12.2.1), (.int .i64 r12.2.2)]) (Opd.t rfl) rfl) rfl rfl rfl <| WL_op (Run_assign (Opd.t rfl)) rfl rfl rfl <| WL_op (Run_assign (Opd.t rfl)) rfl rfl rfl <| WL_op (Run_assign (Opd.t rfl)) rfl rfl rfl <| ?_
    refine WL_nil ?_
    refine At_then ?_
    refine WC_seq ?_
    refine WC_region ?_
    obtain ⟨r18, hr19, hm⟩ := bind_some' hm
    refine WL_call (f := 13) (first := []) (cap := []) (xs := []) (vs := []) (args := []) Try.call13 Opd.f .nil rfl rfl (lex_Signs_ok w17 (Mine [] M0) (mine_lt hS hM) hr19) ?_
    rintro v20 w23 ⟨hx22, _, rfl, h21⟩
    replace h9 := h9.mv (hx22.mv _)
    replace h15 := h15.mv (hx22.mv _)
    replace hS := hS.ext hx22
    refine WL_op (Run_assign (Opd.t rfl)) rfl rfl rfl <| ?_
    refine WL_nil ?_
    refine At_then ?_
    refine WC_seq ?_
    refine WC_region ?_
    obtain ⟨r24, hr25, hm⟩ := bind_some' hm
    refine WL_call (f := 14) (first := []) (cap := []) (xs := []) (vs := []) (args := []) Try.call14 Opd.f .nil rfl rfl (scrutinyref12_Signs_ok w23 (Mine [] M0) (mine_lt hS hM) hr25) ?_
    rintro v26 w29 ⟨hx28, _, rfl, h27⟩
    replace h9 := h9.mv (hx28.mv _)
    replace h15 := h15.mv (hx28.mv _)
    replace h21 := h21.mv (hx28.mv _)
    replace hS := hS.ext hx28
    refine WL_op (Run_assign (Opd.t rfl)) rfl rfl rfl <| ?_
    refine WL_nil ?_
    refine At_then ?_
    refine WC_seq ?_
    refine WC_seq ?_
    refine WC_region ?_
    refine WL_op (Run_move (Opd.t rfl)) rfl rfl rfl <| WL_op (Run_lenSl Try.underlying29 (Opd.t rfl) h21.len) rfl rfl rfl <| WL_op (Run_move (Opd.t rfl)) rfl rfl rfl <| WL_op (Run_lenSl Try.underlying29 (Opd.t rfl) h27.len) rfl rfl rfl <| WL_op (Run_neI (Opd.t rfl) (Opd.t rfl)) rfl rfl rfl <| ?_
    refine WL_nil ?_
    refine At_then ?_
    refine WC_cond (Opd.t rfl) (fun hc30 => ?_) (fun hc30 => ?_)
    ·
      replace hm := bif_t hc30 hm
      refine WC_seq ?_
      refine WC_region ?_
      refine WL_op (Run_assign Opd.c) rfl rfl rfl <| ?_
      refine WL_nil ?_
      refine At_then ?_
      refine WC_ret ?_
      refine At_then_ret <| ?_
      refine At_r1 rfl (ResIs.t rfl) ?_
      cases hm
      exact ⟨hS.toExt, rfl⟩
    ·
      replace hm := bif_f hc30 hm
      refine WC_skip ?_
      refine At_then ?_
      refine WC_seq ?_
      refine WC_seq ?_
      refine WC_region ?_
      refine WL_op (Run_assign Opd.c) rfl rfl rfl <| ?_
      refine WL_nil ?_
      refine At_then ?_
      refine WC_block ?_
      refine WC_loop (σ := Int) (γ := Unit) (F := (scrutinylaw12_LexTells_L1 r1 r6 r12 r18 r24)) (N := FUEL) (s0 := 0) (r := r) (fun i31 (_ : Unit) w32 => St w0 [] w32 ∧ SRd (RP (RI .i64) (RP RS (RP (RI .i64) (RI .i64)))) (Mine [] M0) w32 v8 r6.1 ∧ SRd (RP (RI .i64) (RP RS (RP (RI .i64) (RI .i64)))) (Mine [] M0) w32 v14 r12.1 ∧ SRd RS (Mine [] M0) w32 v20 r18 ∧ SRd RS (Mine [] M0) w32 v26 r24) (fun i31 (_ : Unit) => [(3, true, (.bool r1)), (4, true, v8), (5, true, (.int .i64 r6.2.1)), (6, true, (.int .i64 r6.2.2)), (7, true, v14), (8, true, (.int .i64 r12.2.1)), (9, true, (.int .i64 r12.2.2)), (10, true, v20), (11, true, v26), (12, true, (.int .i64 i31))]) hm () ⟨hS, h9, h15, h21, h27⟩ rfl ?_
      rintro again33 i31 _ w32 hm ⟨hS, h9, h15, h21, h27⟩
      unfold scrutinylaw12_LexTells_L1 at hm
      refine WC_seq ?_
      refine WC_seq ?_
      refine WC_region ?_
      refine WL_op (Run_move (Opd.t rfl)) rfl rfl rfl <| WL_op (Run_move (Opd.t rfl)) rfl rfl rfl <| WL_op (Run_lenSl Try.underlying29 (Opd.t rfl) h21.len) rfl rfl rfl <| WL_op (Run_ltI (Opd.t rfl) (Opd.t rfl)) rfl rfl rfl <| ?_
      refine WL_nil ?_
      refine At_then ?_
      refine WC_cond (Opd.t rfl) (fun hc34 => ?_) (fun hc34 => ?_)
      ·
        replace hm := bif_t hc34 hm
        refine WC_skip ?_
        refine At_then ?_
        refine WC_seq ?_
        refine WC_block ?_
        refine WC_seq ?_
        refine WC_region_draw (by kernel_rfl) (by kernel_rfl) ?_
        obtain ⟨e35, he36, hm⟩ := bind_some' hm
        obtain ⟨p37, vs38, hE39, hC40, hR41⟩ := SRd.atG (fun _ => h21) (fun _ => he36)
        replace hC40 : true = true → CellsAt w32 p37 [(S e35)] := fun hg => openT9 (hR41 hg) ▸ hC40 hg
        replace hC40 := hC40 rfl
        obtain ⟨e42, he43, hm⟩ := bind_some' hm
        obtain ⟨p44, vs45, hE46, hC47, hR48⟩ := SRd.atG (fun _ => h27) (fun _ => he43)
        replace hC47 : true = true → CellsAt w32 p44 [(S e42)] := fun hg => openT9 (hR48 hg) ▸ hC47 hg
        replace hC47 := hC47 rfl
        refine WQ_op (fun _ hx => (Run_move (Opd.t rfl))) rfl rfl rfl <| WQ_op (fun _ hx => (Run_move (Opd.t rfl))) rfl rfl rfl <| WQ_op (fun _ hx => (Run_idxAddr Try.underlying29 ti9 (Opd.t rfl) (Opd.t rfl) hE39)) rfl rfl rfl <| WQ_op (fun _ hx => (Run_load1 (v := (S e35)) Try.underlying9 rfl (Opd.t rfl) (fun hg => (((fun _ => hC40) hg).sub 0 rfl).ext hx))) rfl rfl rfl <| WQ_op (fun _ hx => (Run_move (Opd.t rfl))) rfl rfl rfl <| WQ_op (fun _ hx => (Run_move (Opd.t rfl))) rfl rfl rfl <| WQ_op (fun _ hx => (Run_idxAddr Try.underlying29 ti9 (Opd.t rfl) (Opd.t rfl) hE46)) rfl rfl rfl <| WQ_op (fun _ hx => (Run_load1 (v := (S e42)) Try.underlying9 rfl (Opd.t rfl) (fun hg => (((fun _ => hC47) hg).sub 0 rfl).ext hx))) rfl rfl rfl <| ?_
        refine WQ_op (fun _ hx => (Run_neS (Opd.t rfl) (Opd.t rfl))) rfl rfl rfl <| ?_
        refine WQ_nil ?_
        intro w49 hx50
        replace h9 := h9.mv (hx50.mv _)
        replace h15 := h15.mv (hx50.mv _)
        replace h21 := h21.mv (hx50.mv _)
        replace h27 := h27.mv (hx50.mv _)
        replace hS := hS.ext hx50
        refine At_then ?_
        refine WC_cond (Opd.t rfl) (fun hc51 => ?_) (fun hc51 => ?_)
        ·
          replace hm := bif_t hc51 hm
          refine WC_seq ?_
          refine WC_region ?_
          refine WL_op (Run_assign Opd.c) rfl rfl rfl <| ?_
          refine WL_nil ?_
          refine At_then ?_
          refine WC_ret ?_
          refine At_blk_ret <| At_then_ret <| At_then_ret <| At_blk_ret <| At_then_ret <| ?_
          refine At_r1 rfl (ResIs.t rfl) ?_
          cases hm
          exact ⟨hS.toExt, rfl⟩
        ·
          replace hm := bif_f hc51 hm
          refine WC_skip ?_
          refine At_blk_normal ?_
          refine At_then ?_
          refine WC_region ?_
          refine WL_op (Run_move (Opd.t rfl)) rfl rfl rfl <| WL_op (Run_add (Opd.t rfl) Opd.c) rfl rfl rfl <| WL_op (Run_assign (Opd.t rfl)) rfl rfl rfl <| ?_
          refine WL_nil ?_
          exact At_again (IntKind.i64.wrap (i31 + 1)) () hm ⟨hS, h9, h15, h21, h27⟩ rfl
      ·
        replace hm := bif_f hc34 hm
        refine WC_exit ?_
        refine At_then_exit <| At_then_exit <| At_blk_here <| ?_
        refine At_then ?_
        refine WC_seq ?_
        refine WC_region ?_
        refine WL_op (Run_move (Opd.t rfl)) rfl rfl rfl <| WL_op (Run_move (Opd.t rfl)) rfl rfl rfl <| WL_opG rfl rfl rfl rfl guard_pos (Run_move (Opd.t rfl)) rfl rfl <| WL_opG rfl rfl rfl rfl guard_pos (Run_move (Opd.t rfl)) rfl rfl <| ?_
        obtain ⟨r52, hr53, -, hm⟩ := callG_some hm
        refine WL_callG rfl rfl rfl guard_pos (f := 15) (first := []) (cap := []) (xs := [(.tmp 54), (.tmp 55)]) (vs := [v8, v14]) (args := [v8, v14]) Try.call15 Opd.f (.cons (Opd.g rfl id) (.cons (Opd.g rfl id) .nil)) rfl rfl (fun hg => scrutinyref12_Same_ok w32 (Mine [] M0) (mine_lt hS hM) (h9) (h15) (hr53 hg)) ?_
        intro v56 w55 hv57 hz58
        have hx54 : Ext w32 w55 := Ext.ofG (fun hg => (hv57 hg).1) hz58
        replace hS := hS.ext hx54
        refine WL_sub1 (v := (.bool r52)) (fun hg => (hv57 hg).2) ?_
        obtain ⟨b59, e60, hm⟩ := letv_some hm
        obtain ⟨b61, e62, hm⟩ := letv_some hm
        obtain ⟨b63, e64, hm⟩ := letv_some hm
        refine WL_op (Run.eqB (Run_and (Opd.t rfl) (Opd.g rfl id)) e60) rfl rfl rfl <| WL_op (Run_move (Opd.t rfl)) rfl rfl rfl <| WL_opG rfl rfl rfl rfl guard_pos (Run_move (Opd.t rfl)) rfl rfl <| WL_opG rfl rfl rfl rfl guard_pos (Run_move (Opd.t rfl)) rfl rfl <| WL_opG rfl rfl rfl rfl guard_pos (Run.eqB (Run_eqI (Opd.g rfl id) (Opd.g rfl id)) e62) rfl rfl <| WL_op (Run.eqB (Run_and (Opd.t rfl) (Opd.g rfl id)) e64) rfl rfl rfl <| WL_op (Run_move (Opd.t rfl)) rfl rfl rfl <| WL_opG rfl rfl rfl rfl guard_pos (Run_move (Opd.t rfl)) rfl rfl <| ?_
        obtain ⟨b65, e66, hm⟩ := letv_some hm
        obtain ⟨b67, e68, hm⟩ := letv_some hm
        refine WL_opG rfl rfl rfl rfl guard_pos (Run_move (Opd.t rfl)) rfl rfl <| WL_opG rfl rfl rfl rfl guard_pos (Run.eqB (Run_eqI (Opd.g rfl id) (Opd.g rfl id)) e66) rfl rfl <| WL_op (Run.eqB (Run_and (Opd.t rfl) (Opd.g rfl id)) e68) rfl rfl rfl <| WL_op (Run_assign (Opd.t rfl)) rfl rfl rfl <| ?_
        refine WL_nil ?_
        refine At_then ?_
        refine WC_ret ?_
        refine At_r1 rfl (ResIs.t rfl) ?_
        cases hm
        exact ⟨hS.toExt, rfl⟩

theorem scrutinyref12_Alike_ok (w0 : World) (M0 : Nat → Prop) (hM : ∀ b, M0 b → b < w0.heap.size) {a0 : (List (Int × Str × Int × Int))} {b1 : (List (Int × Str × Int × Int))} {v1 : Value} {v3 : Value} (h2 : SRd (RP (RI .i64) (RP RS (RP (RI .i64) (RI .i64)))) M0 w0 v1 a0) (h4 : SRd (RP (RI .i64) (RP RS (RP (RI .i64) (RI .i64)))) M0 w0 v3 b1) {r : Bool} (hm : scrutinyref12_Alike a0 b1 = some r) :
    CallsR Try.prog 16 [v1, v3] w0 (fun v w' => Ext w0 w' ∧ v = (.bool r)) := by
  have _hM := hM
  have hS : St w0 [] w0 := St.start w0 0
  replace h2 : SRd (RP (RI .i64) (RP RS (RP (RI .i64) (RI .i64)))) (Mine [] M0) w0 v1 a0 := h2.mv (Mv.start 0)
  replace h4 : SRd (RP (RI .i64) (RP RS (RP (RI .i64) (RI .i64)))) (Mine [] M0) w0 v3 b1 := h4.mv (Mv.start 0)
  refine CallsR_enter Try.func16 rfl Try.ntmps16 rfl ?_
  unfold scrutinyref12_Alike at hm
  refine WC_seq ?_
  refine WC_region ?_
  refine WL_op (Run_assign Opd.c) rfl rfl rfl <| ?_
  refine WL_nil ?_
  refine At_then ?_
  refine WC_seq ?_
  refine WC_seq ?_
  refine WC_region ?_
  refine WL_op (Run_move (Opd.t rfl)) rfl rfl rfl <| WL_op (Run_lenSl Try.underlying23 (Opd.t rfl) h2.len) rfl rfl rfl <| WL_op (Run_move (Opd.t rfl)) rfl rfl rfl <| WL_op (Run_lenSl Try.underlying23 (Opd.t rfl) h4.len) rfl rfl rfl <| WL_op (Run_neI (Opd.t rfl) (Opd.t rfl)) rfl rfl rfl <| ?_
  refine WL_nil ?_
  refine At_then ?_
  refine WC_cond (Opd.t rfl) (fun hc5 => ?_) (fun hc5 => ?_)
  ·
    replace hm := bif_t hc5 hm
    refine WC_seq ?_
    refine WC_region ?_
    refine WL_op (Run_assign Opd.c) rfl rfl rfl <| ?_
    refine WL_nil ?_
    refine At_then ?_
    refine WC_ret ?_
    refine At_then_ret <| ?_
    refine At_r1 rfl (ResIs.t rfl) ?_
    cases hm
    exact ⟨hS.toExt, rfl⟩
  ·
    replace hm := bif_f hc5 hm
    refine WC_skip ?_
    refine At_then ?_
    refine WC_seq ?_
    refine WC_seq ?_
    refine WC_region ?_
    refine WL_op (Run_assign Opd.c) rfl rfl rfl <| ?_
    refine WL_nil ?_
    refine At_then ?_
    refine WC_block ?_
    refine WC_loop (σ := Int) (γ := Unit) (F := (scrutinyref12_Alike_L1 a0 b1)) (N := FUEL) (s0 := 0) (r := r) (fun i6 (_ : Unit) w7 => St w0 [] w7 ∧ SRd (RP (RI .i64) (RP RS (RP (RI .i64) (RI .i64)))) (Mine [] M0) w7 v1 a0 ∧ SRd (RP (RI .i64) (RP RS (RP (RI .i64) (RI .i64)))) (Mine [] M0) w7 v3 b1) (fun i6 (_ : Unit) => [(0, true, v1), (1, true, v3), (5, true, (.int .i64 i6))]) hm () ⟨hS, h2, h4⟩ rfl ?_
    rintro again8 i6 _ w7 hm ⟨hS, h2, h4⟩
    unfold scrutinyref12_Alike_L1 at hm
    refine WC_seq ?_
    refine WC_seq ?_
    refine WC_region ?_
    refine WL_op (Run_move (Opd.t rfl)) rfl rfl rfl <| WL_op (Run_move (Opd.t rfl)) rfl rfl rfl <| WL_op (Run_lenSl Try.underlying23 (Opd.t rfl) h2.len) rfl rfl rfl <| WL_op (Run_ltI (Opd.t rfl) (Opd.t rfl)) rfl rfl rfl <| ?_
    refine WL_nil ?_
    refine At_then ?_
    refine WC_cond (Opd.t rfl) (fun hc9 => ?_) (fun hc9 => ?_)
    ·
      replace hm := bif_t hc9 hm
      refine WC_skip ?_
      refine At_then ?_
      refine WC_seq ?_
      refine WC_block ?_
      refine WC_seq ?_
      refine WC_region_draw (by kernel_rfl) (by kernel_rfl) ?_
      obtain ⟨e10, he11, hm⟩ := bind_some' hm
      obtain ⟨p12, vs13, hE14, hC15, hR16⟩ := SRd.atG (fun _ => h2) (fun _ => he11)
      replace hC15 : true = true → CellsAt w7 p12 [(.int .i64 e10.1), (S e10.2.1), (.int .i64 e10.2.2.1), (.int .i64 e10.2.2.2)] := fun hg => openT34 (hR16 hg) ▸ hC15 hg
      replace hC15 := hC15 rfl
      obtain ⟨e17, he18, hm⟩ := bind_some' hm
      obtain ⟨p19, vs20, hE21, hC22, hR23⟩ := SRd.atG (fun _ => h4) (fun _ => he18)
      replace hC22 : true = true → CellsAt w7 p19 [(.int .i64 e17.1), (S e17.2.1), (.int .i64 e17.2.2.1), (.int .i64 e17.2.2.2)] := fun hg => openT34 (hR23 hg) ▸ hC22 hg
      replace hC22 := hC22 rfl
      refine WQ_op (fun _ hx => (Run_move (Opd.t rfl))) rfl rfl rfl <| WQ_op (fun _ hx => (Run_move (Opd.t rfl))) rfl rfl rfl <| WQ_op (fun _ hx => (Run_idxAddr Try.underlying23 ti34 (Opd.t rfl) (Opd.t rfl) hE14)) rfl rfl rfl <| WQ_op (fun _ hx => (Run_fieldAddr fo34_0 (Opd.t rfl))) rfl rfl rfl <| WQ_op (fun _ hx => (Run_load1 (v := (.int .i64 e10.1)) Try.underlying3 rfl (Opd.t rfl) (fun hg => (((fun _ => hC15) hg).sub 0 rfl).ext hx))) rfl rfl rfl <| WQ_op (fun _ hx => (Run_move (Opd.t rfl))) rfl rfl rfl <| WQ_op (fun _ hx => (Run_move (Opd.t rfl))) rfl rfl rfl <| WQ_op (fun _ hx => (Run_idxAddr Try.underlying23 ti34 (Opd.t rfl) (Opd.t rfl) hE21)) rfl rfl rfl <| ?_
      obtain ⟨b24, e25, hm⟩ := letv_some hm
      obtain ⟨e26, he27, -, hm⟩ := callG_some hm
      obtain ⟨p28, vs29, hE30, hC31, hR32⟩ := SRd.atG (fun _ => h2) he27
      replace hC31 : (!b24) = true → CellsAt w7 p28 [(.int .i64 e26.1), (S e26.2.1), (.int .i64 e26.2.2.1), (.int .i64 e26.2.2.2)] := fun hg => openT34 (hR32 hg) ▸ hC31 hg
      refine WQ_op (fun _ hx => (Run_fieldAddr fo34_0 (Opd.t rfl))) rfl rfl rfl <| WQ_op (fun _ hx => (Run_load1 (v := (.int .i64 e17.1)) Try.underlying3 rfl (Opd.t rfl) (fun hg => (((fun _ => hC22) hg).sub 0 rfl).ext hx))) rfl rfl rfl <| WQ_op (fun _ hx => (Run.eqB (Run_neI (Opd.t rfl) (Opd.t rfl)) e25)) rfl rfl rfl <| WQ_op (fun _ hx => (Run_move (Opd.t rfl))) rfl rfl rfl <| WQ_opG rfl rfl rfl rfl guard_neg (fun _ hx => (Run_move (Opd.t rfl))) rfl rfl <| WQ_opG rfl rfl rfl rfl guard_neg (fun _ hx => (Run_move (Opd.t rfl))) rfl rfl <| WQ_opG rfl rfl rfl rfl guard_neg (fun _ hx => (Run_idxAddr Try.underlying23 ti34 (Opd.g rfl id) (Opd.g rfl id) hE30)) rfl rfl <| WQ_opG rfl rfl rfl rfl guard_neg (fun _ hx => (Run_fieldAddr fo34_1 (Opd.g rfl id))) rfl rfl <| ?_
      obtain ⟨e33, he34, -, hm⟩ := callG_some hm
      obtain ⟨p35, vs36, hE37, hC38, hR39⟩ := SRd.atG (fun _ => h4) he34
      replace hC38 : (!b24) = true → CellsAt w7 p35 [(.int .i64 e33.1), (S e33.2.1), (.int .i64 e33.2.2.1), (.int .i64 e33.2.2.2)] := fun hg => openT34 (hR39 hg) ▸ hC38 hg
      obtain ⟨b40, e41, hm⟩ := letv_some hm
      obtain ⟨b42, e43, hm⟩ := letv_some hm
      refine WQ_opG rfl rfl rfl rfl guard_neg (fun _ hx => (Run_load1 (v := (S e26.2.1)) Try.underlying9 rfl (Opd.g rfl id) (fun hg => ((hC31 hg).sub 1 rfl).ext hx))) rfl rfl <| WQ_opG rfl rfl rfl rfl guard_neg (fun _ hx => (Run_move (Opd.t rfl))) rfl rfl <| WQ_opG rfl rfl rfl rfl guard_neg (fun _ hx => (Run_move (Opd.t rfl))) rfl rfl <| WQ_opG rfl rfl rfl rfl guard_neg (fun _ hx => (Run_idxAddr Try.underlying23 ti34 (Opd.g rfl id) (Opd.g rfl id) hE37)) rfl rfl <| WQ_opG rfl rfl rfl rfl guard_neg (fun _ hx => (Run_fieldAddr fo34_1 (Opd.g rfl id))) rfl rfl <| WQ_opG rfl rfl rfl rfl guard_neg (fun _ hx => (Run_load1 (v := (S e33.2.1)) Try.underlying9 rfl (Opd.g rfl id) (fun hg => ((hC38 hg).sub 1 rfl).ext hx))) rfl rfl <| WQ_opG rfl rfl rfl rfl guard_neg (fun _ hx => (Run.eqB (Run_neS (Opd.g rfl id) (Opd.g rfl id)) e41)) rfl rfl <| WQ_op (fun _ hx => (Run.eqB (Run_or (Opd.t rfl) (Opd.g rfl id)) e43)) rfl rfl rfl <| ?_
      obtain ⟨e44, he45, -, hm⟩ := callG_some hm
      obtain ⟨p46, vs47, hE48, hC49, hR50⟩ := SRd.atG (fun _ => h2) he45
      replace hC49 : (!b42) = true → CellsAt w7 p46 [(.int .i64 e44.1), (S e44.2.1), (.int .i64 e44.2.2.1), (.int .i64 e44.2.2.2)] := fun hg => openT34 (hR50 hg) ▸ hC49 hg
      refine WQ_op (fun _ hx => (Run_move (Opd.t rfl))) rfl rfl rfl <| WQ_opG rfl rfl rfl rfl guard_neg (fun _ hx => (Run_move (Opd.t rfl))) rfl rfl <| WQ_opG rfl rfl rfl rfl guard_neg (fun _ hx => (Run_move (Opd.t rfl))) rfl rfl <| WQ_opG rfl rfl rfl rfl guard_neg (fun _ hx => (Run_idxAddr Try.underlying23 ti34 (Opd.g rfl id) (Opd.g rfl id) hE48)) rfl rfl <| WQ_opG rfl rfl rfl rfl guard_neg (fun _ hx => (Run_fieldAddr fo34_2 (Opd.g rfl id))) rfl rfl <| WQ_opG rfl rfl rfl rfl guard_neg (fun _ hx => (Run_load1 (v := (.int .i64 e44.2.2.1)) Try.underlying3 rfl (Opd.g rfl id) (fun hg => ((hC49 hg).sub 2 rfl).ext hx))) rfl rfl <| WQ_opG rfl rfl rfl rfl guard_neg (fun _ hx => (Run_move (Opd.t rfl))) rfl rfl <| WQ_opG rfl rfl rfl rfl guard_neg (fun _ hx => (Run_move (Opd.t rfl))) rfl rfl <| ?_
      obtain ⟨e51, he52, -, hm⟩ := callG_some hm
      obtain ⟨p53, vs54, hE55, hC56, hR57⟩ := SRd.atG (fun _ => h4) he52
      replace hC56 : (!b42) = true → CellsAt w7 p53 [(.int .i64 e51.1), (S e51.2.1), (.int .i64 e51.2.2.1), (.int .i64 e51.2.2.2)] := fun hg => openT34 (hR57 hg) ▸ hC56 hg
      obtain ⟨b58, e59, hm⟩ := letv_some hm
      obtain ⟨b60, e61, hm⟩ := letv_some hm
      refine WQ_opG rfl rfl rfl rfl guard_neg (fun _ hx => (Run_idxAddr Try.underlying23 ti34 (Opd.g rfl id) (Opd.g rfl id) hE55)) rfl rfl <| WQ_opG rfl rfl rfl rfl guard_neg (fun _ hx => (Run_fieldAddr fo34_2 (Opd.g rfl id))) rfl rfl <| WQ_opG rfl rfl rfl rfl guard_neg (fun _ hx => (Run_load1 (v := (.int .i64 e51.2.2.1)) Try.underlying3 rfl (Opd.g rfl id) (fun hg => ((hC56 hg).sub 2 rfl).ext hx))) rfl rfl <| WQ_opG rfl rfl rfl rfl guard_neg (fun _ hx => (Run.eqB (Run_neI (Opd.g rfl id) (Opd.g rfl id)) e59)) rfl rfl <| WQ_op (fun _ hx => (Run.eqB (Run_or (Opd.t rfl) (Opd.g rfl id)) e61)) rfl rfl rfl <| ?_
      refine WQ_nil ?_
      intro w62 hx63
      replace h2 := h2.mv (hx63.mv _)
      replace h4 := h4.mv (hx63.mv _)
      replace hS := hS.ext hx63
      refine At_then ?_
      refine WC_cond (Opd.t rfl) (fun hc64 => ?_) (fun hc64 => ?_)
      ·
        replace hm := bif_t hc64 hm
        refine WC_seq ?_
        refine WC_region ?_
        refine WL_op (Run_assign Opd.c) rfl rfl rfl <| ?_
        refine WL_nil ?_
        refine At_then ?_
        refine WC_ret ?_
        refine At_blk_ret <| At_then_ret <| At_then_ret <| At_blk_ret <| At_then_ret <| ?_
        refine At_r1 rfl (ResIs.t rfl) ?_
        cases hm
        exact ⟨hS.toExt, rfl⟩
      ·
        replace hm := bif_f hc64 hm
        refine WC_skip ?_
        refine At_blk_normal ?_
        refine At_then ?_
        refine WC_region ?_
        refine WL_op (Run_move (Opd.t rfl)) rfl rfl rfl <| WL_op (Run_add (Opd.t rfl) Opd.c) rfl rfl rfl <| WL_op (Run_assign (Opd.t rfl)) rfl rfl rfl <| ?_
        refine WL_nil ?_
        exact At_again (IntKind.i64.wrap (i6 + 1)) () hm ⟨hS, h2, h4⟩ rfl
    ·
      replace hm := bif_f hc9 hm
      refine WC_exit ?_
      refine At_then_exit <| At_then_exit <| At_blk_here <| ?_
      refine At_then ?_
      refine WC_seq ?_
      refine WC_region ?_
      refine WL_op (Run_assign Opd.c) rfl rfl rfl <| ?_
      refine WL_nil ?_
      refine At_then ?_
      refine WC_ret ?_
      refine At_r1 rfl (ResIs.t rfl) ?_
      cases hm
      exact ⟨hS.toExt, rfl⟩

theorem scrutinylaw12_LexBlanks_ok (w0 : World) {text0 : Str} {gap1 : Int} {r : Bool} (hm : scrutinylaw12_LexBlanks text0 gap1 = some r) :
    CallsR Try.prog 4 [(S text0), (.int .u8 gap1)] w0 (fun v w' => Ext w0 w' ∧ v = (.bool r)) := by
  obtain ⟨M0, hM⟩ : ∃ M0 : Nat → Prop, ∀ b, M0 b → b < w0.heap.size := ⟨fun _ => False, fun _ h => h.elim⟩
  have hS : St w0 [] w0 := St.start w0 0
  refine CallsR_enter Try.func4 rfl Try.ntmps4 rfl ?_
  unfold scrutinylaw12_LexBlanks at hm
  refine WC_seq ?_
  refine WC_region ?_
  refine WL_op (Run_assign Opd.c) rfl rfl rfl <| ?_
  refine WL_nil ?_
  refine At_then ?_
  refine WC_seq ?_
  refine WC_region ?_
  obtain ⟨r1, hr2, hm⟩ := bind_some' hm
  refine WL_call (f := 10) (first := []) (cap := []) (xs := []) (vs := []) (args := []) Try.call10 Opd.f .nil rfl rfl (scrutinylaw12_shown_ok w0 hr2) ?_
  rintro _ w4 ⟨hx3, rfl⟩
  replace hS := hS.ext hx3
  refine WL_op (Run_assign (Opd.t rfl)) rfl rfl rfl <| ?_
  refine WL_nil ?_
  refine At_then ?_
  refine WC_seq ?_
  refine WC_seq ?_
  refine WC_region ?_
  refine WL_op (Run_move (Opd.t rfl)) rfl rfl rfl <| WL_op (Run_lenS Try.underlying9 (Opd.t rfl)) rfl rfl rfl <| WL_op (Run_gtI (Opd.t rfl) Opd.c) rfl rfl rfl <| ?_
  refine WL_nil ?_
  refine At_then ?_
  refine WC_cond (Opd.t rfl) (fun hc5 => ?_) (fun hc5 => ?_)
  ·
    replace hm := bif_t hc5 hm
    refine WC_seq ?_
    refine WC_region ?_
    refine WL_op (Run_move (Opd.t rfl)) rfl rfl rfl <| WL_op (Run_assign (Opd.t rfl)) rfl rfl rfl <| ?_
    refine WL_nil ?_
    refine At_then ?_
    refine WC_ret ?_
    refine At_then_ret <| ?_
    refine At_r1 rfl (ResIs.t rfl) ?_
    cases hm
    exact ⟨hS.toExt, rfl⟩
  ·
    replace hm := bif_f hc5 hm
    refine WC_skip ?_
    refine At_then ?_
    refine WC_seq ?_
    refine WC_region ?_
    refine WL_op (Run_move (Opd.t rfl)) rfl rfl rfl <| ?_
    obtain ⟨r6, hr7, hm⟩ := bind_some' hm
    refine WL_call (f := 11) (first := []) (cap := []) (xs := [(.tmp 21)]) (vs := [(S text0)]) (args := [(S text0)]) Try.call11 Opd.f (.cons (Opd.t rfl) .nil) rfl rfl (lex_Tokens_ok w4 (Mine [] M0) (mine_lt hS hM) hr7) ?_
    rintro _ w11 ⟨hx10, v8, rfl, h9⟩
    replace hS := hS.ext hx10
    refine WL_op (Run_move (Opd.t rfl)) rfl rfl rfl <| WL_op (Run_extract (vs := [v8, (.int .i64 r6.2.1), (.int .i64 r6.2.2)]) (Opd.t rfl) rfl) rfl rfl rfl <| WL_op (Run_extract (vs := [v8, (.int .i64 r6.2.1), (.int .i64 r6.2.2)]) (Opd.t rfl) rfl) rfl rfl rfl <| WL_op (Run_extract (vs := [v8, (.int .i64 r6.2.1), (.int .i64 r6.2.2)]) (Opd.t rfl) rfl) rfl rfl rfl <| WL_op (Run_assign (Opd.t rfl)) rfl rfl rfl <| WL_op (Run_assign (Opd.t rfl)) rfl rfl rfl <| WL_op (Run_assign (Opd.t rfl)) rfl rfl rfl <| ?_
    refine WL_nil ?_
    refine At_then ?_
    refine WC_seq ?_
    refine WC_seq ?_
    refine WC_region ?_
    refine WL_op (Run_move (Opd.t rfl)) rfl rfl rfl <| WL_op (Run_neI (Opd.t rfl) Opd.c) rfl rfl rfl <| ?_
    refine WL_nil ?_
    refine At_then ?_
    refine WC_cond (Opd.t rfl) (fun hc12 => ?_) (fun hc12 => ?_)
    ·
      replace hm := bif_t hc12 hm
      refine WC_seq ?_
      refine WC_region ?_
      obtain ⟨b13, e14, hm⟩ := letv_some hm
      obtain ⟨b15, e16, hm⟩ := letv_some hm
      refine WL_op (Run_move (Opd.t rfl)) rfl rfl rfl <| WL_op (Run_move (Opd.t rfl)) rfl rfl rfl <| WL_opG rfl rfl rfl rfl guard_pos (Run_move (Opd.t rfl)) rfl rfl <| WL_opG rfl rfl rfl rfl guard_pos (Run_lenSl Try.underlying23 (Opd.g rfl id) h9.len) rfl rfl <| WL_opG rfl rfl rfl rfl guard_pos (Run.eqB (Run_eqI (Opd.g rfl id) Opd.c) e14) rfl rfl <| WL_op (Run.eqB (Run_and (Opd.t rfl) (Opd.g rfl id)) e16) rfl rfl rfl <| WL_op (Run_assign (Opd.t rfl)) rfl rfl rfl <| ?_
      refine WL_nil ?_
      refine At_then ?_
      refine WC_ret ?_
      refine At_then_ret <| ?_
      refine At_r1 rfl (ResIs.t rfl) ?_
      cases hm
      exact ⟨hS.toExt, rfl⟩
    ·
      replace hm := bif_f hc12 hm
      refine WC_skip ?_
      refine At_then ?_
      refine WC_seq ?_
      refine WC_seq ?_
      refine WC_region ?_
      refine WL_op (Run_move (Opd.t rfl)) rfl rfl rfl <| WL_op (Run_lenSl Try.underlying23 (Opd.t rfl) h9.len) rfl rfl rfl <| WL_op (Run_ltI (Opd.t rfl) Opd.c) rfl rfl rfl <| ?_
      refine WL_nil ?_
      refine At_then ?_
      refine WC_cond (Opd.t rfl) (fun hc17 => ?_) (fun hc17 => ?_)
      ·
        replace hm := bif_t hc17 hm
        refine WC_seq ?_
        refine WC_region ?_
        refine WL_op (Run_assign Opd.c) rfl rfl rfl <| ?_
        refine WL_nil ?_
        refine At_then ?_
        refine WC_ret ?_
        refine At_then_ret <| ?_
        refine At_r1 rfl (ResIs.t rfl) ?_
        cases hm
        exact ⟨hS.toExt, rfl⟩
      ·
        replace hm := bif_f hc17 hm
        refine WC_skip ?_
        refine At_then ?_
        refine WC_seq ?_
        refine WC_region ?_
        obtain ⟨b18, hb19⟩ : ∃ b, w11.heap.size = b := ⟨_, rfl⟩
        refine WL_buildSlice (zs := [(S ([]))]) (cells := [(S ([32])), (S ([9])), (S ([10])), (S ([13])), (S ([32, 35, 32, 97, 32, 60, 45, 62, 32, 98, 10])), (S ([35, 10]))]) (parts := [(0, (.const (.string ⟨#[32]⟩))), (1, (.const (.string ⟨#[9]⟩))), (2, (.const (.string ⟨#[10]⟩))), (3, (.const (.string ⟨#[13]⟩))), (4, (.const (.string ⟨#[32, 35, 32, 97, 32, 60, 45, 62, 32, 98, 10]⟩))), (5, (.const (.string ⟨#[35, 10]⟩)))]) Try.underlying29 ti9 rfl rfl rfl (.cons Opd.c (.cons Opd.c (.cons Opd.c (.cons Opd.c (.cons Opd.c (.cons Opd.c .nil)))))) (by kernel_rfl) hb19 rfl ?_
        intro w20 hx21 hB22
        have hf24 : ¬ Mine [] M0 b18 := newB_free hS hM hb19
        replace h9 := h9.mv (hx21.mv _)
        replace hS := hS.ext hx21
        have h23 : SRd RS (Mine [] M0) w20 (.slice (some ⟨b18, 0, none⟩) 6 6) ([[32], [9], [10], [13], [32, 35, 32, 97, 32, 60, 45, 62, 32, 98, 10], [35, 10]] : List Str) := SRd.fresh (cells := [(S ([32])), (S ([9])), (S ([10])), (S ([13])), (S ([32, 35, 32, 97, 32, 60, 45, 62, 32, 98, 10])), (S ([35, 10]))]) hB22 hf24 rfl (ARd.cons (c := [(S ([32]))]) rfl (ARd.cons (c := [(S ([9]))]) rfl (ARd.cons (c := [(S ([10]))]) rfl (ARd.cons (c := [(S ([13]))]) rfl (ARd.cons (c := [(S ([32, 35, 32, 97, 32, 60, 45, 62, 32, 98, 10]))]) rfl (ARd.cons (c := [(S ([35, 10]))]) rfl ARd.nil))))))
        obtain ⟨e25, he26, hm⟩ := bind_some' hm
        obtain ⟨p27, vs28, hE29, hC30, hR31⟩ := SRd.atG (fun _ => h23) (fun _ => he26)
        replace hC30 : true = true → CellsAt w20 p27 [(S e25)] := fun hg => openT9 (hR31 hg) ▸ hC30 hg
        replace hC30 := hC30 rfl
        refine WL_op (Run_move (Opd.t rfl)) rfl rfl rfl <| WL_op (Run_rem (Opd.t rfl) Opd.c (by rfl)) rfl rfl rfl <| WL_op (Run_idxAddr Try.underlying29 ti9 (Opd.t rfl) (Opd.t rfl) hE29) rfl rfl rfl <| WL_op (Run_load1 (v := (S e25)) Try.underlying9 rfl (Opd.t rfl) (fun hg => (((fun _ => hC30) hg).sub 0 rfl))) rfl rfl rfl <| WL_op (Run_assign (Opd.t rfl)) rfl rfl rfl <| ?_
        refine WL_nil ?_
        refine At_then ?_
        refine WC_seq ?_
        refine WC_region ?_
        refine WL_op (Run_assign Opd.c) rfl rfl rfl <| ?_
        refine WL_nil ?_
        refine At_then ?_
        refine WC_seq ?_
        refine WC_seq ?_
        refine WC_region ?_
        refine WL_op (Run_assign Opd.c) rfl rfl rfl <| ?_
        refine WL_nil ?_
        refine At_then ?_
        refine WC_block ?_
        refine WC_loop (σ := Str × Int) (γ := Unit) (F := (scrutinylaw12_LexBlanks_L1 r1 r6 e25)) (N := FUEL) (s0 := ([], 0)) (r := r) (fun ⟨s32, i33⟩ (_ : Unit) w34 => St w0 [] w34 ∧ SRd (RP (RI .i64) (RP RS (RP (RI .i64) (RI .i64)))) (Mine [] M0) w34 v8 r6.1) (fun ⟨s32, i33⟩ (_ : Unit) => [(5, true, (.bool r1)), (6, true, v8), (9, true, (S e25)), (10, true, (S s32)), (11, true, (.int .i64 i33))]) hm () ⟨hS, h9⟩ rfl ?_
        rintro again35 ⟨s32, i33⟩ _ w34 hm ⟨hS, h9⟩
        unfold scrutinylaw12_LexBlanks_L1 at hm
        dsimp only at hm
        refine WC_seq ?_
        refine WC_seq ?_
        refine WC_region ?_
        refine WL_op (Run_move (Opd.t rfl)) rfl rfl rfl <| WL_op (Run_move (Opd.t rfl)) rfl rfl rfl <| WL_op (Run_lenSl Try.underlying23 (Opd.t rfl) h9.len) rfl rfl rfl <| WL_op (Run_sub (Opd.t rfl) Opd.c) rfl rfl rfl <| WL_op (Run_ltI (Opd.t rfl) (Opd.t rfl)) rfl rfl rfl <| ?_
        refine WL_nil ?_
        refine At_then ?_
        refine WC_cond (Opd.t rfl) (fun hc36 => ?_) (fun hc36 => ?_)
        ·
          replace hm := bif_t hc36 hm
          refine WC_skip ?_
          refine At_then ?_
          refine WC_seq ?_
          refine WC_block ?_
          refine WC_region ?_
          obtain ⟨e37, he38, hm⟩ := bind_some' hm
          obtain ⟨p39, vs40, hE41, hC42, hR43⟩ := SRd.atG (fun _ => h9) (fun _ => he38)
          replace hC42 : true = true → CellsAt w34 p39 [(.int .i64 e37.1), (S e37.2.1), (.int .i64 e37.2.2.1), (.int .i64 e37.2.2.2)] := fun hg => openT34 (hR43 hg) ▸ hC42 hg
          replace hC42 := hC42 rfl
          obtain ⟨k44, hm⟩ := chk_some hm
          refine WL_op (Run_move (Opd.t rfl)) rfl rfl rfl <| WL_op (Run_move (Opd.t rfl)) rfl rfl rfl <| WL_op (Run_move (Opd.t rfl)) rfl rfl rfl <| WL_op (Run_idxAddr Try.underlying23 ti34 (Opd.t rfl) (Opd.t rfl) hE41) rfl rfl rfl <| WL_op (Run_fieldAddr fo34_1 (Opd.t rfl)) rfl rfl rfl <| WL_op (Run_load1 (v := (S e37.2.1)) Try.underlying9 rfl (Opd.t rfl) (fun hg => (((fun _ => hC42) hg).sub 1 rfl))) rfl rfl rfl <| WL_op (Run_cat (Opd.t rfl) (Opd.t rfl) (fun _ => k44)) rfl rfl rfl <| WL_op (Run_move (Opd.t rfl)) rfl rfl rfl <| ?_
          obtain ⟨k45, hm⟩ := chk_some hm
          refine WL_op (Run_cat (Opd.t rfl) (Opd.t rfl) (fun _ => k45)) rfl rfl rfl <| WL_op (Run_assign (Opd.t rfl)) rfl rfl rfl <| ?_
          refine WL_nil ?_
          refine At_blk_normal ?_
          refine At_then ?_
          refine WC_region ?_
          refine WL_op (Run_move (Opd.t rfl)) rfl rfl rfl <| WL_op (Run_add (Opd.t rfl) Opd.c) rfl rfl rfl <| WL_op (Run_assign (Opd.t rfl)) rfl rfl rfl <| ?_
          refine WL_nil ?_
          exact At_again (((s32 ++ e37.2.1) ++ e25), (IntKind.i64.wrap (i33 + 1))) () hm ⟨hS, h9⟩ rfl
        ·
          replace hm := bif_f hc36 hm
          refine WC_exit ?_
          refine At_then_exit <| At_then_exit <| At_blk_here <| ?_
          refine At_then ?_
          refine WC_seq ?_
          refine WC_region ?_
          obtain ⟨k46, hm⟩ := chk_some hm
          refine WL_op (Run_move (Opd.t rfl)) rfl rfl rfl <| WL_op (Run_move (Opd.t rfl)) rfl rfl rfl <| WL_op (Run_cat (Opd.t rfl) (Opd.t rfl) (fun _ => k46)) rfl rfl rfl <| ?_
          obtain ⟨r47, hr48, hm⟩ := bind_some' hm
          refine WL_call (f := 11) (first := []) (cap := []) (xs := [(.tmp 61)]) (vs := [(S (e25 ++ s32))]) (args := [(S (e25 ++ s32))]) Try.call11 Opd.f (.cons (Opd.t rfl) .nil) rfl rfl (lex_Tokens_ok w34 (Mine [] M0) (mine_lt hS hM) hr48) ?_
          rintro _ w52 ⟨hx51, v49, rfl, h50⟩
          replace h9 := h9.mv (hx51.mv _)
          replace hS := hS.ext hx51
          refine WL_op (Run_move (Opd.t rfl)) rfl rfl rfl <| WL_op (Run_extract (vs := [v49, (.int .i64 r47.2.1), (.int .i64 r47.2.2)]) (Opd.t rfl) rfl) rfl rfl rfl <| WL_op (Run_extract (vs := [v49, (.int .i64 r47.2.1), (.int .i64 r47.2.2)]) (Opd.t rfl) rfl) rfl rfl rfl <| WL_op (Run_extract (vs := [v49, (.int .i64 r47.2.1), (.int .i64 r47.2.2)]) (Opd.t rfl) rfl) rfl rfl rfl <| WL_op (Run_assign (Opd.t rfl)) rfl rfl rfl <| WL_op (Run_assign (Opd.t rfl)) rfl rfl rfl <| WL_op (Run_assign (Opd.t rfl)) rfl rfl rfl <| ?_
          refine WL_nil ?_
          refine At_then ?_
          refine WC_seq ?_
          refine WC_region ?_
          obtain ⟨b53, e54, hm⟩ := letv_some hm
          obtain ⟨b55, e56, hm⟩ := letv_some hm
          refine WL_op (Run_move (Opd.t rfl)) rfl rfl rfl <| WL_op (Run_move (Opd.t rfl)) rfl rfl rfl <| WL_opG rfl rfl rfl rfl guard_pos (Run_move (Opd.t rfl)) rfl rfl <| WL_opG rfl rfl rfl rfl guard_pos (Run.eqB (Run_eqI (Opd.g rfl id) Opd.c) e54) rfl rfl <| WL_op (Run.eqB (Run_and (Opd.t rfl) (Opd.g rfl id)) e56) rfl rfl rfl <| WL_op (Run_move (Opd.t rfl)) rfl rfl rfl <| WL_opG rfl rfl rfl rfl guard_pos (Run_move (Opd.t rfl)) rfl rfl <| WL_opG rfl rfl rfl rfl guard_pos (Run_move (Opd.t rfl)) rfl rfl <| ?_
          obtain ⟨r57, hr58, -, hm⟩ := callG_some hm
          refine WL_callG rfl rfl rfl guard_pos (f := 16) (first := []) (cap := []) (xs := [(.tmp 72), (.tmp 73)]) (vs := [v8, v49]) (args := [v8, v49]) Try.call16 Opd.f (.cons (Opd.g rfl id) (.cons (Opd.g rfl id) .nil)) rfl rfl (fun hg => scrutinyref12_Alike_ok w52 (Mine [] M0) (mine_lt hS hM) (h9) (h50) (hr58 hg)) ?_
          intro v61 w60 hv62 hz63
          have hx59 : Ext w52 w60 := Ext.ofG (fun hg => (hv62 hg).1) hz63
          replace hS := hS.ext hx59
          refine WL_sub1 (v := (.bool r57)) (fun hg => (hv62 hg).2) ?_
          obtain ⟨b64, e65, hm⟩ := letv_some hm
          refine WL_op (Run.eqB (Run_and (Opd.t rfl) (Opd.g rfl id)) e65) rfl rfl rfl <| WL_op (Run_assign (Opd.t rfl)) rfl rfl rfl <| ?_
          refine WL_nil ?_
          refine At_then ?_
          refine WC_ret ?_
          refine At_r1 rfl (ResIs.t rfl) ?_
          cases hm
          exact ⟨hS.toExt, rfl⟩

theorem scrutinylaw12_LexPlaces_ok (w0 : World) {text0 : Str} {r : Bool} (hm : scrutinylaw12_LexPlaces text0 = some r) :
    CallsR Try.prog 5 [(S text0)] w0 (fun v w' => Ext w0 w' ∧ v = (.bool r)) := by
  obtain ⟨M0, hM⟩ : ∃ M0 : Nat → Prop, ∀ b, M0 b → b < w0.heap.size := ⟨fun _ => False, fun _ h => h.elim⟩
  have hS : St w0 [[]] w0 := St.start w0 1
  refine CallsR_enter Try.func5 rfl Try.ntmps5 rfl ?_
  unfold scrutinylaw12_LexPlaces at hm
  refine WC_seq ?_
  refine WC_region ?_
  refine WL_op (Run_assign Opd.c) rfl rfl rfl <| ?_
  refine WL_nil ?_
  refine At_then ?_
  refine WC_seq ?_
  refine WC_region ?_
  obtain ⟨r1, hr2, hm⟩ := bind_some' hm
  refine WL_call (f := 10) (first := []) (cap := []) (xs := []) (vs := []) (args := []) Try.call10 Opd.f .nil rfl rfl (scrutinylaw12_shown_ok w0 hr2) ?_
  rintro _ w4 ⟨hx3, rfl⟩
  replace hS := hS.ext hx3
  refine WL_op (Run_assign (Opd.t rfl)) rfl rfl rfl <| ?_
  refine WL_nil ?_
  refine At_then ?_
  refine WC_seq ?_
  refine WC_seq ?_
  refine WC_region ?_
  refine WL_op (Run_move (Opd.t rfl)) rfl rfl rfl <| WL_op (Run_lenS Try.underlying9 (Opd.t rfl)) rfl rfl rfl <| WL_op (Run_gtI (Opd.t rfl) Opd.c) rfl rfl rfl <| ?_
  refine WL_nil ?_
  refine At_then ?_
  refine WC_cond (Opd.t rfl) (fun hc5 => ?_) (fun hc5 => ?_)
  ·
    replace hm := bif_t hc5 hm
    refine WC_seq ?_
    refine WC_region ?_
    refine WL_op (Run_move (Opd.t rfl)) rfl rfl rfl <| WL_op (Run_assign (Opd.t rfl)) rfl rfl rfl <| ?_
    refine WL_nil ?_
    refine At_then ?_
    refine WC_ret ?_
    refine At_then_ret <| ?_
    refine At_r1 rfl (ResIs.t rfl) ?_
    cases hm
    exact ⟨hS.toExt, rfl⟩
  ·
    replace hm := bif_f hc5 hm
    refine WC_skip ?_
    refine At_then ?_
    refine WC_seq ?_
    refine WC_region ?_
    refine WL_op (Run_move (Opd.t rfl)) rfl rfl rfl <| ?_
    obtain ⟨r6, hr7, hm⟩ := bind_some' hm
    refine WL_call (f := 11) (first := []) (cap := []) (xs := [(.tmp 18)]) (vs := [(S text0)]) (args := [(S text0)]) Try.call11 Opd.f (.cons (Opd.t rfl) .nil) rfl rfl (lex_Tokens_ok w4 (Mine [[]] M0) (mine_lt hS hM) hr7) ?_
    rintro _ w11 ⟨hx10, v8, rfl, h9⟩
    replace hS := hS.ext hx10
    refine WL_op (Run_move (Opd.t rfl)) rfl rfl rfl <| WL_op (Run_extract (vs := [v8, (.int .i64 r6.2.1), (.int .i64 r6.2.2)]) (Opd.t rfl) rfl) rfl rfl rfl <| WL_op (Run_extract (vs := [v8, (.int .i64 r6.2.1), (.int .i64 r6.2.2)]) (Opd.t rfl) rfl) rfl rfl rfl <| WL_op (Run_extract (vs := [v8, (.int .i64 r6.2.1), (.int .i64 r6.2.2)]) (Opd.t rfl) rfl) rfl rfl rfl <| WL_op (Run_assign (Opd.t rfl)) rfl rfl rfl <| WL_op (Run_assign (Opd.t rfl)) rfl rfl rfl <| WL_op (Run_assign (Opd.t rfl)) rfl rfl rfl <| ?_
    refine WL_nil ?_
    refine At_then ?_
    refine WC_seq ?_
    refine WC_seq ?_
    refine WC_region ?_
    refine WL_op (Run_move (Opd.t rfl)) rfl rfl rfl <| WL_op (Run_neI (Opd.t rfl) Opd.c) rfl rfl rfl <| ?_
    refine WL_nil ?_
    refine At_then ?_
    refine WC_cond (Opd.t rfl) (fun hc12 => ?_) (fun hc12 => ?_)
    ·
      replace hm := bif_t hc12 hm
      refine WC_seq ?_
      refine WC_region ?_
      obtain ⟨b13, e14, hm⟩ := letv_some hm
      obtain ⟨b15, e16, hm⟩ := letv_some hm
      refine WL_op (Run_move (Opd.t rfl)) rfl rfl rfl <| WL_op (Run_move (Opd.t rfl)) rfl rfl rfl <| WL_opG rfl rfl rfl rfl guard_pos (Run_move (Opd.t rfl)) rfl rfl <| WL_opG rfl rfl rfl rfl guard_pos (Run.eqB (Run_geI (Opd.g rfl id) Opd.c) e14) rfl rfl <| WL_op (Run.eqB (Run_and (Opd.t rfl) (Opd.g rfl id)) e16) rfl rfl rfl <| WL_op (Run_move (Opd.t rfl)) rfl rfl rfl <| WL_opG rfl rfl rfl rfl guard_pos (Run_move (Opd.t rfl)) rfl rfl <| WL_opG rfl rfl rfl rfl guard_pos (Run_move (Opd.t rfl)) rfl rfl <| ?_
      obtain ⟨b17, e18, hm⟩ := letv_some hm
      obtain ⟨b19, e20, hm⟩ := letv_some hm
      obtain ⟨b21, e22, hm⟩ := letv_some hm
      refine WL_opG rfl rfl rfl rfl guard_pos (Run_lenS Try.underlying9 (Opd.g rfl id)) rfl rfl <| WL_opG rfl rfl rfl rfl guard_pos (Run.eqB (Run_ltI (Opd.g rfl id) (Opd.g rfl id)) e18) rfl rfl <| WL_op (Run.eqB (Run_and (Opd.t rfl) (Opd.g rfl id)) e20) rfl rfl rfl <| WL_op (Run_move (Opd.t rfl)) rfl rfl rfl <| WL_opG rfl rfl rfl rfl guard_pos (Run_move (Opd.t rfl)) rfl rfl <| WL_opG rfl rfl rfl rfl guard_pos (Run.eqB (Run_eqI (Opd.g rfl id) Opd.c) e22) rfl rfl <| WL_opG rfl rfl rfl rfl guard_pos (Run_move (Opd.g rfl id)) rfl rfl <| WL_opG rfl rfl rfl rfl guard_neg' (Run_move (Opd.t rfl)) rfl rfl <| ?_
      obtain ⟨b23, e24, hm⟩ := letv_some hm
      obtain ⟨b25, e26, hm⟩ := letv_some hm
      obtain ⟨b27, e28, hm⟩ := letv_some hm
      refine WL_opG rfl rfl rfl rfl guard_neg' (Run.eqB (Run_eqI (Opd.g rfl id) Opd.c) e24) rfl rfl <| WL_opG rfl rfl rfl rfl guard_pos (Run.eqB (Run_or (Opd.g rfl id) (Opd.g rfl id)) e26) rfl rfl <| WL_op (Run.eqB (Run_and (Opd.t rfl) (Opd.g rfl id)) e28) rfl rfl rfl <| WL_op (Run_assign (Opd.t rfl)) rfl rfl rfl <| ?_
      refine WL_nil ?_
      refine At_then ?_
      refine WC_ret ?_
      refine At_then_ret <| ?_
      refine At_r1 rfl (ResIs.t rfl) ?_
      cases hm
      exact ⟨hS.toExt, rfl⟩
    ·
      replace hm := bif_f hc12 hm
      refine WC_skip ?_
      refine At_then ?_
      refine WC_seq ?_
      refine WC_region ?_
      refine WL_op (Run_assign Opd.c) rfl rfl rfl <| ?_
      refine WL_nil ?_
      refine At_then ?_
      refine WC_seq ?_
      refine WC_seq ?_
      refine WC_region ?_
      refine WL_op (Run_assign Opd.c) rfl rfl rfl <| ?_
      refine WL_nil ?_
      refine At_then ?_
      refine WC_block ?_
      refine WC_loop (σ := Int × Int) (γ := Unit) (F := (scrutinylaw12_LexPlaces_L1 text0 r1 r6)) (N := FUEL) (s0 := (0, 0)) (r := r) (fun ⟨end29, i30⟩ (_ : Unit) w31 => St w0 [[]] w31 ∧ SRd (RP (RI .i64) (RP RS (RP (RI .i64) (RI .i64)))) (Mine [[]] M0) w31 v8 r6.1) (fun ⟨end29, i30⟩ (_ : Unit) => [(0, true, (S text0)), (3, true, (.bool r1)), (4, true, v8), (7, true, (.int .i64 end29)), (8, true, (.int .i64 i30))]) hm () ⟨hS, h9⟩ rfl ?_
      rintro again32 ⟨end29, i30⟩ _ w31 hm ⟨hS, h9⟩
      unfold scrutinylaw12_LexPlaces_L1 at hm
      dsimp only at hm
      refine WC_seq ?_
      refine WC_seq ?_
      refine WC_region ?_
      refine WL_op (Run_move (Opd.t rfl)) rfl rfl rfl <| WL_op (Run_move (Opd.t rfl)) rfl rfl rfl <| WL_op (Run_lenSl Try.underlying23 (Opd.t rfl) h9.len) rfl rfl rfl <| WL_op (Run_ltI (Opd.t rfl) (Opd.t rfl)) rfl rfl rfl <| ?_
      refine WL_nil ?_
      refine At_then ?_
      refine WC_cond (Opd.t rfl) (fun hc33 => ?_) (fun hc33 => ?_)
      ·
        replace hm := bif_t hc33 hm
        refine WC_skip ?_
        refine At_then ?_
        refine WC_seq ?_
        refine WC_block ?_
        refine WC_seq ?_
        refine WC_region ?_
        obtain ⟨e34, he35, hm⟩ := bind_some' hm
        obtain ⟨p36, vs37, hE38, hC39, hR40⟩ := SRd.atG (fun _ => h9) (fun _ => he35)
        replace hC39 : true = true → CellsAt w31 p36 [(.int .i64 e34.1), (S e34.2.1), (.int .i64 e34.2.2.1), (.int .i64 e34.2.2.2)] := fun hg => openT34 (hR40 hg) ▸ hC39 hg
        replace hC39 := hC39 rfl
        refine WL_op (Run_move (Opd.t rfl)) rfl rfl rfl <| WL_op (Run_move (Opd.t rfl)) rfl rfl rfl <| WL_op (Run_idxAddr Try.underlying23 ti34 (Opd.t rfl) (Opd.t rfl) hE38) rfl rfl rfl <| WL_op (Run_loadA (vs := [(.int .i64 e34.1), (S e34.2.1), (.int .i64 e34.2.2.1), (.int .i64 e34.2.2.2)]) Try.underlying34 rfl ti34 (Opd.t rfl) (fun hg => (((fun _ => hC39) hg).sub 0 rfl)) rfl) rfl rfl rfl <| ?_
        obtain ⟨b41, hb42⟩ : ∃ b, w31.heap.size = b := ⟨_, rfl⟩
        refine WL_alloc (zs := [(.int .i64 0), (S ([])), (.int .i64 0), (.int .i64 0)]) ti34 rfl hb42 rfl ?_
        intro w43 hx44 hB45
        have mv46 : Mv (Mine [[]] M0) w31 (Mine [[b41]] M0) w43 := Mv.newB hS hM 0 hx44 hb42 hB45.lt
        replace h9 := h9.mv mv46
        replace hS : St w0 [[b41]] w43 := hS.newB 0 hx44 hb42 hB45.lt
        refine WL_store (us := [(.int .i64 e34.1), (S e34.2.1), (.int .i64 e34.2.2.1), (.int .i64 e34.2.2.2)]) (vs' := [(.int .i64 e34.1), (S e34.2.1), (.int .i64 e34.2.2.1), (.int .i64 e34.2.2.2)]) ti34 (Opd.t rfl) (Opd.t rfl) rfl rfl rfl hB45 rfl rfl ?_
        intro w48 hC49 hz50 hB52
        have mv51 : Mv (Mine [[b41]] M0) w43 (Mine [[b41]] M0) w48 := Mv.wrote hS hM 0 hC49
        replace h9 := h9.mv mv51
        replace hS : St w0 [[b41]] w48 := hS.wrote 0 hC49
        refine WL_nil ?_
        refine At_then ?_
        refine WC_seq ?_
        refine WC_seq ?_
        refine WC_region_draw (by kernel_rfl) (by kernel_rfl) ?_
        obtain ⟨b53, e54, hm⟩ := letv_some hm
        refine WQ_op (fun _ hx => (Run_fieldAddr fo34_3 (Opd.t rfl))) rfl rfl rfl <| WQ_op (fun _ hx => (Run_load1 (v := (.int .i64 e34.2.2.2)) Try.underlying3 rfl (Opd.t rfl) (fun _ => (hB52.part 3 rfl).ext hx))) rfl rfl rfl <| WQ_op (fun _ hx => (Run_move (Opd.t rfl))) rfl rfl rfl <| WQ_op (fun _ hx => (Run.eqB (Run_ltI (Opd.t rfl) (Opd.t rfl)) e54)) rfl rfl rfl <| WQ_op (fun _ hx => (Run_move (Opd.t rfl))) rfl rfl rfl <| WQ_opG rfl rfl rfl rfl guard_neg (fun _ hx => (Run_fieldAddr fo34_3 (Opd.t rfl))) rfl rfl <| WQ_opG rfl rfl rfl rfl guard_neg (fun _ hx => (Run_load1 (v := (.int .i64 e34.2.2.2)) Try.underlying3 rfl (Opd.g rfl id) (fun _ => (hB52.part 3 rfl).ext hx))) rfl rfl <| WQ_opG rfl rfl rfl rfl guard_neg (fun _ hx => (Run_move (Opd.t rfl))) rfl rfl <| ?_
        obtain ⟨b55, e56, hm⟩ := letv_some hm
        obtain ⟨b57, e58, hm⟩ := letv_some hm
        refine WQ_opG rfl rfl rfl rfl guard_neg (fun _ hx => (Run_lenS Try.underlying9 (Opd.g rfl id))) rfl rfl <| WQ_opG rfl rfl rfl rfl guard_neg (fun _ hx => (Run_fieldAddr fo34_1 (Opd.t rfl))) rfl rfl <| WQ_opG rfl rfl rfl rfl guard_neg (fun _ hx => (Run_load1 (v := (S e34.2.1)) Try.underlying9 rfl (Opd.g rfl id) (fun _ => (hB52.part 1 rfl).ext hx))) rfl rfl <| WQ_opG rfl rfl rfl rfl guard_neg (fun _ hx => (Run_lenS Try.underlying9 (Opd.g rfl id))) rfl rfl <| WQ_opG rfl rfl rfl rfl guard_neg (fun _ hx => (Run_sub (Opd.g rfl id) (Opd.g rfl id))) rfl rfl <| WQ_opG rfl rfl rfl rfl guard_neg (fun _ hx => (Run.eqB (Run_gtI (Opd.g rfl id) (Opd.g rfl id)) e56)) rfl rfl <| WQ_op (fun _ hx => (Run.eqB (Run_or (Opd.t rfl) (Opd.g rfl id)) e58)) rfl rfl rfl <| WQ_op (fun _ hx => (Run_move (Opd.t rfl))) rfl rfl rfl <| ?_
        refine WQ_opG rfl rfl rfl rfl guard_neg (fun _ hx => (Run_move (Opd.t rfl))) rfl rfl <| WQ_opG rfl rfl rfl rfl guard_neg (fun _ hx => (Run_fieldAddr fo34_3 (Opd.t rfl))) rfl rfl <| WQ_opG rfl rfl rfl rfl guard_neg (fun _ hx => (Run_load1 (v := (.int .i64 e34.2.2.2)) Try.underlying3 rfl (Opd.g rfl id) (fun _ => (hB52.part 3 rfl).ext hx))) rfl rfl <| WQ_opG rfl rfl rfl rfl guard_neg (fun _ hx => (Run_fieldAddr fo34_3 (Opd.t rfl))) rfl rfl <| WQ_opG rfl rfl rfl rfl guard_neg (fun _ hx => (Run_load1 (v := (.int .i64 e34.2.2.2)) Try.underlying3 rfl (Opd.g rfl id) (fun _ => (hB52.part 3 rfl).ext hx))) rfl rfl <| WQ_opG rfl rfl rfl rfl guard_neg (fun _ hx => (Run_fieldAddr fo34_1 (Opd.t rfl))) rfl rfl <| WQ_opG rfl rfl rfl rfl guard_neg (fun _ hx => (Run_load1 (v := (S e34.2.1)) Try.underlying9 rfl (Opd.g rfl id) (fun _ => (hB52.part 1 rfl).ext hx))) rfl rfl <| WQ_opG rfl rfl rfl rfl guard_neg (fun _ hx => (Run_lenS Try.underlying9 (Opd.g rfl id))) rfl rfl <| ?_
        obtain ⟨k59, hm⟩ := chkG_some hm
        obtain ⟨b60, e61, hm⟩ := letv_some hm
        obtain ⟨b62, e63, hm⟩ := letv_some hm
        refine WQ_opG rfl rfl rfl rfl guard_neg (fun _ hx => (Run_add (Opd.g rfl id) (Opd.g rfl id))) rfl rfl <| WQ_opG rfl rfl rfl rfl guard_neg (fun _ hx => (Run_cutS Try.underlying9 (Opd.g rfl id) ⟨_, (Opd.g rfl id)⟩ ⟨_, (Opd.g rfl id)⟩ k59)) rfl rfl <| WQ_opG rfl rfl rfl rfl guard_neg (fun _ hx => (Run_fieldAddr fo34_1 (Opd.t rfl))) rfl rfl <| WQ_opG rfl rfl rfl rfl guard_neg (fun _ hx => (Run_load1 (v := (S e34.2.1)) Try.underlying9 rfl (Opd.g rfl id) (fun _ => (hB52.part 1 rfl).ext hx))) rfl rfl <| WQ_opG rfl rfl rfl rfl guard_neg (fun _ hx => (Run.eqB (Run_neS (Opd.g rfl id) (Opd.g rfl id)) e61)) rfl rfl <| WQ_op (fun _ hx => (Run.eqB (Run_or (Opd.t rfl) (Opd.g rfl id)) e63)) rfl rfl rfl <| WQ_op (fun _ hx => (Run_move (Opd.t rfl))) rfl rfl rfl <| WQ_opG rfl rfl rfl rfl guard_neg (fun _ hx => (Run_fieldAddr fo34_1 (Opd.t rfl))) rfl rfl <| ?_
        obtain ⟨b64, e65, hm⟩ := letv_some hm
        obtain ⟨b66, e67, hm⟩ := letv_some hm
        refine WQ_opG rfl rfl rfl rfl guard_neg (fun _ hx => (Run_load1 (v := (S e34.2.1)) Try.underlying9 rfl (Opd.g rfl id) (fun _ => (hB52.part 1 rfl).ext hx))) rfl rfl <| WQ_opG rfl rfl rfl rfl guard_neg (fun _ hx => (Run_lenS Try.underlying9 (Opd.g rfl id))) rfl rfl <| WQ_opG rfl rfl rfl rfl guard_neg (fun _ hx => (Run.eqB (Run_eqI (Opd.g rfl id) Opd.c) e65)) rfl rfl <| WQ_opG rfl rfl rfl rfl guard_neg (fun _ hx => (Run_move (Opd.t rfl))) rfl rfl <| WQ_opG rfl rfl rfl rfl guard_neg (fun _ hx => (Run_move (Opd.t rfl))) rfl rfl <| WQ_opG rfl rfl rfl rfl guard_neg (fun _ hx => (Run_lenSl Try.underlying23 (Opd.g rfl id) h9.len)) rfl rfl <| WQ_opG rfl rfl rfl rfl guard_neg (fun _ hx => (Run_sub (Opd.g rfl id) Opd.c)) rfl rfl <| WQ_opG rfl rfl rfl rfl guard_neg (fun _ hx => (Run.eqB (Run_eqI (Opd.g rfl id) (Opd.g rfl id)) e67)) rfl rfl <| ?_
        obtain ⟨b68, e69, hm⟩ := letv_some hm
        obtain ⟨b70, e71, hm⟩ := letv_some hm
        obtain ⟨b72, e73, hm⟩ := letv_some hm
        refine WQ_opG rfl rfl rfl rfl guard_neg (fun _ hx => (Run.eqB (Run_neB Try.underlying4 (Opd.g rfl id) (Opd.g rfl id)) e69)) rfl rfl <| WQ_op (fun _ hx => (Run.eqB (Run_or (Opd.t rfl) (Opd.g rfl id)) e71)) rfl rfl rfl <| WQ_op (fun _ hx => (Run_move (Opd.t rfl))) rfl rfl rfl <| WQ_opG rfl rfl rfl rfl guard_neg (fun _ hx => (Run_fieldAddr fo34_0 (Opd.t rfl))) rfl rfl <| WQ_opG rfl rfl rfl rfl guard_neg (fun _ hx => (Run_load1 (v := (.int .i64 e34.1)) Try.underlying3 rfl (Opd.g rfl id) (fun _ => (hB52.part 0 rfl).ext hx))) rfl rfl <| WQ_opG rfl rfl rfl rfl guard_neg (fun _ hx => (Run.eqB (Run_eqI (Opd.g rfl id) Opd.c) e73)) rfl rfl <| WQ_opG rfl rfl rfl rfl guard_neg (fun _ hx => (Run_move (Opd.t rfl))) rfl rfl <| WQ_opG rfl rfl rfl rfl guard_neg (fun _ hx => (Run_move (Opd.t rfl))) rfl rfl <| ?_
        obtain ⟨b74, e75, hm⟩ := letv_some hm
        obtain ⟨b76, e77, hm⟩ := letv_some hm
        obtain ⟨b78, e79, hm⟩ := letv_some hm
        refine WQ_opG rfl rfl rfl rfl guard_neg (fun _ hx => (Run_lenSl Try.underlying23 (Opd.g rfl id) h9.len)) rfl rfl <| WQ_opG rfl rfl rfl rfl guard_neg (fun _ hx => (Run_sub (Opd.g rfl id) Opd.c)) rfl rfl <| WQ_opG rfl rfl rfl rfl guard_neg (fun _ hx => (Run.eqB (Run_eqI (Opd.g rfl id) (Opd.g rfl id)) e75)) rfl rfl <| WQ_opG rfl rfl rfl rfl guard_neg (fun _ hx => (Run.eqB (Run_neB Try.underlying4 (Opd.g rfl id) (Opd.g rfl id)) e77)) rfl rfl <| WQ_op (fun _ hx => (Run.eqB (Run_or (Opd.t rfl) (Opd.g rfl id)) e79)) rfl rfl rfl <| WQ_op (fun _ hx => (Run_move (Opd.t rfl))) rfl rfl rfl <| WQ_opG rfl rfl rfl rfl guard_neg (fun _ hx => (Run_fieldAddr fo34_0 (Opd.t rfl))) rfl rfl <| WQ_opG rfl rfl rfl rfl guard_neg (fun _ hx => (Run_load1 (v := (.int .i64 e34.1)) Try.underlying3 rfl (Opd.g rfl id) (fun _ => (hB52.part 0 rfl).ext hx))) rfl rfl <| ?_
        obtain ⟨b80, e81, hm⟩ := letv_some hm
        obtain ⟨b82, e83, hm⟩ := letv_some hm
        obtain ⟨b84, e85, hm⟩ := letv_some hm
        obtain ⟨b86, e87, hm⟩ := letv_some hm
        refine WQ_opG rfl rfl rfl rfl guard_neg (fun _ hx => (Run.eqB (Run_neI (Opd.g rfl id) Opd.c) e81)) rfl rfl <| WQ_opG rfl rfl rfl rfl guard_neg (fun _ hx => (Run_move (Opd.g rfl id))) rfl rfl <| WQ_opG rfl rfl rfl rfl guard_pos' (fun _ hx => (Run_fieldAddr fo34_2 (Opd.t rfl))) rfl rfl <| WQ_opG rfl rfl rfl rfl guard_pos' (fun _ hx => (Run_load1 (v := (.int .i64 e34.2.2.1)) Try.underlying3 rfl (Opd.g rfl id) (fun _ => (hB52.part 2 rfl).ext hx))) rfl rfl <| WQ_opG rfl rfl rfl rfl guard_pos' (fun _ hx => (Run.eqB (Run_neI (Opd.g rfl id) Opd.c) e83)) rfl rfl <| WQ_opG rfl rfl rfl rfl guard_neg (fun _ hx => (Run.eqB (Run_and (Opd.g rfl id) (Opd.g rfl id)) e85)) rfl rfl <| WQ_op (fun _ hx => (Run.eqB (Run_or (Opd.t rfl) (Opd.g rfl id)) e87)) rfl rfl rfl <| ?_
        refine WQ_nil ?_
        intro w88 hx89
        replace h9 := h9.mv (hx89.mv _)
        replace hB52 := hB52.ext hx89
        replace hS := hS.ext hx89
        refine At_then ?_
        refine WC_cond (Opd.t rfl) (fun hc90 => ?_) (fun hc90 => ?_)
        ·
          replace hm := bif_t hc90 hm
          refine WC_seq ?_
          refine WC_region ?_
          refine WL_op (Run_assign Opd.c) rfl rfl rfl <| ?_
          refine WL_nil ?_
          refine At_then ?_
          refine WC_ret ?_
          refine At_then_ret <| At_blk_ret <| At_then_ret <| At_then_ret <| At_blk_ret <| At_then_ret <| ?_
          refine At_r1 rfl (ResIs.t rfl) ?_
          cases hm
          exact ⟨hS.toExt, rfl⟩
        ·
          replace hm := bif_f hc90 hm
          refine WC_skip ?_
          refine At_then ?_
          refine WC_seq ?_
          refine WC_region ?_
          refine WL_op (Run_assign Opd.c) rfl rfl rfl <| ?_
          refine WL_nil ?_
          refine At_then ?_
          refine WC_seq ?_
          refine WC_seq ?_
          refine WC_region ?_
          refine WL_op (Run_move (Opd.t rfl)) rfl rfl rfl <| WL_op (Run_assign (Opd.t rfl)) rfl rfl rfl <| ?_
          refine WL_nil ?_
          refine At_then ?_
          refine WC_block ?_
          refine WC_loop (σ := Bool × Int) (γ := Unit) (F := (scrutinylaw12_LexPlaces_L2 text0 i30 again32 e34)) (N := FUEL) (s0 := (false, end29)) (r := r) (fun ⟨comment91, k92⟩ (_ : Unit) w94 => St w0 [[b41]] w94 ∧ SRd (RP (RI .i64) (RP RS (RP (RI .i64) (RI .i64)))) (Mine [[b41]] M0) w94 v8 r6.1 ∧ BoxAt w94 b41 34 [(.int .i64 e34.1), (S e34.2.1), (.int .i64 e34.2.2.1), (.int .i64 e34.2.2.2)]) (fun ⟨comment91, k92⟩ (_ : Unit) => [(0, true, (S text0)), (3, true, (.bool r1)), (4, true, v8), (8, true, (.int .i64 i30)), (9, true, (.pointer (some ⟨b41, 0, none⟩))), (10, true, (.bool comment91)), (11, true, (.int .i64 k92))]) hm () ⟨hS, h9, hB52⟩ rfl ?_
          rintro again95 ⟨comment91, k92⟩ _ w94 hm ⟨hS, h9, hB93⟩
          unfold scrutinylaw12_LexPlaces_L2 at hm
          dsimp only at hm
          refine WC_seq ?_
          refine WC_seq ?_
          refine WC_region ?_
          refine WL_op (Run_move (Opd.t rfl)) rfl rfl rfl <| WL_op (Run_fieldAddr fo34_3 (Opd.t rfl)) rfl rfl rfl <| WL_op (Run_load1 (v := (.int .i64 e34.2.2.2)) Try.underlying3 rfl (Opd.t rfl) (fun _ => (hB93.part 3 rfl))) rfl rfl rfl <| WL_op (Run_ltI (Opd.t rfl) (Opd.t rfl)) rfl rfl rfl <| ?_
          refine WL_nil ?_
          refine At_then ?_
          refine WC_cond (Opd.t rfl) (fun hc96 => ?_) (fun hc96 => ?_)
          ·
            replace hm := bif_t hc96 hm
            refine WC_skip ?_
            refine At_then ?_
            refine WC_seq ?_
            refine WC_block ?_
            refine WC_seq_cut (γ := Bool) (fun comment97 w99 => scrutinylaw12_LexPlaces_K3 text0 k92 again95 comment97 = some r ∧ St w0 [[b41]] w99 ∧ SRd (RP (RI .i64) (RP RS (RP (RI .i64) (RI .i64)))) (Mine [[b41]] M0) w99 v8 r6.1 ∧ BoxAt w99 b41 34 [(.int .i64 e34.1), (S e34.2.1), (.int .i64 e34.2.2.1), (.int .i64 e34.2.2.2)]) (fun comment97 => [(0, true, (S text0)), (3, true, (.bool r1)), (4, true, v8), (8, true, (.int .i64 i30)), (9, true, (.pointer (some ⟨b41, 0, none⟩))), (10, true, (.bool comment97)), (11, true, (.int .i64 k92))]) ?_ ?_
            ·
              rintro comment97 w99 ⟨hm, hS, h9, hB98⟩
              unfold scrutinylaw12_LexPlaces_K3 at hm
              refine WC_seq_cut (γ := Bool) (fun comment100 w102 => scrutinylaw12_LexPlaces_K4 text0 k92 again95 comment100 = some r ∧ St w0 [[b41]] w102 ∧ SRd (RP (RI .i64) (RP RS (RP (RI .i64) (RI .i64)))) (Mine [[b41]] M0) w102 v8 r6.1 ∧ BoxAt w102 b41 34 [(.int .i64 e34.1), (S e34.2.1), (.int .i64 e34.2.2.1), (.int .i64 e34.2.2.2)]) (fun comment100 => [(0, true, (S text0)), (3, true, (.bool r1)), (4, true, v8), (8, true, (.int .i64 i30)), (9, true, (.pointer (some ⟨b41, 0, none⟩))), (10, true, (.bool comment100)), (11, true, (.int .i64 k92))]) ?_ ?_
              ·
                rintro comment100 w102 ⟨hm, hS, h9, hB101⟩
                unfold scrutinylaw12_LexPlaces_K4 at hm
                refine WC_seq ?_
                refine WC_region ?_
                obtain ⟨b103, e104, hm⟩ := letv_some hm
                obtain ⟨k105, hm⟩ := chkG_some hm
                obtain ⟨b106, e107, hm⟩ := letv_some hm
                obtain ⟨b108, e109, hm⟩ := letv_some hm
                refine WL_op (Run_move (Opd.t rfl)) rfl rfl rfl <| WL_op (Run.eqB (Run_notB (Opd.t rfl)) e104) rfl rfl rfl <| WL_op (Run_move (Opd.t rfl)) rfl rfl rfl <| WL_opG rfl rfl rfl rfl guard_pos (Run_move (Opd.t rfl)) rfl rfl <| WL_opG rfl rfl rfl rfl guard_pos (Run_move (Opd.t rfl)) rfl rfl <| WL_opG rfl rfl rfl rfl guard_pos (Run_idxS Try.underlying9 (Opd.g rfl id) (Opd.g rfl id) k105) rfl rfl <| WL_opG rfl rfl rfl rfl guard_pos (Run.eqB (Run_neI (Opd.g rfl id) Opd.c) e107) rfl rfl <| WL_op (Run.eqB (Run_and (Opd.t rfl) (Opd.g rfl id)) e109) rfl rfl rfl <| ?_
                obtain ⟨k110, hm⟩ := chkG_some hm
                obtain ⟨b111, e112, hm⟩ := letv_some hm
                obtain ⟨b113, e114, hm⟩ := letv_some hm
                refine WL_op (Run_move (Opd.t rfl)) rfl rfl rfl <| WL_opG rfl rfl rfl rfl guard_pos (Run_move (Opd.t rfl)) rfl rfl <| WL_opG rfl rfl rfl rfl guard_pos (Run_move (Opd.t rfl)) rfl rfl <| WL_opG rfl rfl rfl rfl guard_pos (Run_idxS Try.underlying9 (Opd.g rfl id) (Opd.g rfl id) k110) rfl rfl <| WL_opG rfl rfl rfl rfl guard_pos (Run.eqB (Run_neI (Opd.g rfl id) Opd.c) e112) rfl rfl <| WL_op (Run.eqB (Run_and (Opd.t rfl) (Opd.g rfl id)) e114) rfl rfl rfl <| WL_op (Run_move (Opd.t rfl)) rfl rfl rfl <| WL_opG rfl rfl rfl rfl guard_pos (Run_move (Opd.t rfl)) rfl rfl <| ?_
                obtain ⟨k115, hm⟩ := chkG_some hm
                obtain ⟨b116, e117, hm⟩ := letv_some hm
                obtain ⟨b118, e119, hm⟩ := letv_some hm
                obtain ⟨k120, hm⟩ := chkG_some hm
                refine WL_opG rfl rfl rfl rfl guard_pos (Run_move (Opd.t rfl)) rfl rfl <| WL_opG rfl rfl rfl rfl guard_pos (Run_idxS Try.underlying9 (Opd.g rfl id) (Opd.g rfl id) k115) rfl rfl <| WL_opG rfl rfl rfl rfl guard_pos (Run.eqB (Run_neI (Opd.g rfl id) Opd.c) e117) rfl rfl <| WL_op (Run.eqB (Run_and (Opd.t rfl) (Opd.g rfl id)) e119) rfl rfl rfl <| WL_op (Run_move (Opd.t rfl)) rfl rfl rfl <| WL_opG rfl rfl rfl rfl guard_pos (Run_move (Opd.t rfl)) rfl rfl <| WL_opG rfl rfl rfl rfl guard_pos (Run_move (Opd.t rfl)) rfl rfl <| WL_opG rfl rfl rfl rfl guard_pos (Run_idxS Try.underlying9 (Opd.g rfl id) (Opd.g rfl id) k120) rfl rfl <| ?_
                obtain ⟨b121, e122, hm⟩ := letv_some hm
                obtain ⟨b123, e124, hm⟩ := letv_some hm
                refine WL_opG rfl rfl rfl rfl guard_pos (Run.eqB (Run_neI (Opd.g rfl id) Opd.c) e122) rfl rfl <| WL_op (Run.eqB (Run_and (Opd.t rfl) (Opd.g rfl id)) e124) rfl rfl rfl <| ?_
                refine WL_nil ?_
                refine At_then ?_
                refine WC_cond (Opd.t rfl) (fun hc125 => ?_) (fun hc125 => ?_)
                ·
                  replace hm := bif_t hc125 hm
                  refine WC_seq ?_
                  refine WC_region ?_
                  refine WL_op (Run_assign Opd.c) rfl rfl rfl <| ?_
                  refine WL_nil ?_
                  refine At_then ?_
                  refine WC_ret ?_
                  refine At_blk_ret <| At_then_ret <| At_then_ret <| At_blk_ret <| At_then_ret <| At_blk_ret <| At_then_ret <| At_then_ret <| At_blk_ret <| At_then_ret <| ?_
                  refine At_r1 rfl (ResIs.t rfl) ?_
                  cases hm
                  exact ⟨hS.toExt, rfl⟩
                ·
                  replace hm := bif_f hc125 hm
                  refine WC_skip ?_
                  refine At_blk_normal ?_
                  refine At_then ?_
                  refine WC_region ?_
                  refine WL_op (Run_move (Opd.t rfl)) rfl rfl rfl <| WL_op (Run_add (Opd.t rfl) Opd.c) rfl rfl rfl <| WL_op (Run_assign (Opd.t rfl)) rfl rfl rfl <| ?_
                  refine WL_nil ?_
                  exact At_again (comment100, (IntKind.i64.wrap (k92 + 1))) () hm ⟨hS, h9, hB101⟩ rfl
              ·
                refine WC_seq ?_
                refine WC_region ?_
                obtain ⟨k126, hm⟩ := chk_some hm
                refine WL_op (Run_move (Opd.t rfl)) rfl rfl rfl <| WL_op (Run_move (Opd.t rfl)) rfl rfl rfl <| WL_op (Run_idxS Try.underlying9 (Opd.t rfl) (Opd.t rfl) (fun _ => k126)) rfl rfl rfl <| WL_op (Run_eqI (Opd.t rfl) Opd.c) rfl rfl rfl <| ?_
                refine WL_nil ?_
                refine At_then ?_
                refine WC_cond (Opd.t rfl) (fun hc127 => ?_) (fun hc127 => ?_)
                ·
                  replace hm := bif_t hc127 hm
                  refine WC_region ?_
                  refine WL_op (Run_assign Opd.c) rfl rfl rfl <| ?_
                  refine WL_nil ?_
                  exact At_join false ⟨hm, hS, h9, hB98⟩ rfl
                ·
                  replace hm := bif_f hc127 hm
                  refine WC_skip ?_
                  exact At_join comment97 ⟨hm, hS, h9, hB98⟩ rfl
            ·
              refine WC_seq ?_
              refine WC_region ?_
              obtain ⟨k128, hm⟩ := chk_some hm
              refine WL_op (Run_move (Opd.t rfl)) rfl rfl rfl <| WL_op (Run_move (Opd.t rfl)) rfl rfl rfl <| WL_op (Run_idxS Try.underlying9 (Opd.t rfl) (Opd.t rfl) (fun _ => k128)) rfl rfl rfl <| WL_op (Run_eqI (Opd.t rfl) Opd.c) rfl rfl rfl <| ?_
              refine WL_nil ?_
              refine At_then ?_
              refine WC_cond (Opd.t rfl) (fun hc129 => ?_) (fun hc129 => ?_)
              ·
                replace hm := bif_t hc129 hm
                refine WC_region ?_
                refine WL_op (Run_assign Opd.c) rfl rfl rfl <| ?_
                refine WL_nil ?_
                exact At_join true ⟨hm, hS, h9, hB93⟩ rfl
              ·
                replace hm := bif_f hc129 hm
                refine WC_skip ?_
                exact At_join comment91 ⟨hm, hS, h9, hB93⟩ rfl
          ·
            replace hm := bif_f hc96 hm
            refine WC_exit ?_
            refine At_then_exit <| At_then_exit <| At_blk_here <| ?_
            refine At_then ?_
            refine WC_region ?_
            refine WL_op (Run_fieldAddr fo34_3 (Opd.t rfl)) rfl rfl rfl <| WL_op (Run_load1 (v := (.int .i64 e34.2.2.2)) Try.underlying3 rfl (Opd.t rfl) (fun _ => (hB93.part 3 rfl))) rfl rfl rfl <| WL_op (Run_fieldAddr fo34_1 (Opd.t rfl)) rfl rfl rfl <| WL_op (Run_load1 (v := (S e34.2.1)) Try.underlying9 rfl (Opd.t rfl) (fun _ => (hB93.part 1 rfl))) rfl rfl rfl <| WL_op (Run_lenS Try.underlying9 (Opd.t rfl)) rfl rfl rfl <| WL_op (Run_add (Opd.t rfl) (Opd.t rfl)) rfl rfl rfl <| WL_op (Run_assign (Opd.t rfl)) rfl rfl rfl <| ?_
            refine WL_nil ?_
            refine At_blk_normal ?_
            refine At_then ?_
            refine WC_region ?_
            refine WL_op (Run_move (Opd.t rfl)) rfl rfl rfl <| WL_op (Run_add (Opd.t rfl) Opd.c) rfl rfl rfl <| WL_op (Run_assign (Opd.t rfl)) rfl rfl rfl <| ?_
            refine WL_nil ?_
            have mv130 : Mv (Mine [[b41]] M0) w94 (Mine [[]] M0) w94 := Mv.drop w94 0
            replace h9 := h9.mv mv130
            replace hS : St w0 [[]] w94 := hS.drop 0
            exact At_again ((IntKind.i64.wrap (e34.2.2.2 + (List.length e34.2.1 : Int))), (IntKind.i64.wrap (i30 + 1))) () hm ⟨hS, h9⟩ rfl
      ·
        replace hm := bif_f hc33 hm
        refine WC_exit ?_
        refine At_then_exit <| At_then_exit <| At_blk_here <| ?_
        refine At_then ?_
        refine WC_seq ?_
        refine WC_region ?_
        obtain ⟨b131, e132, hm⟩ := letv_some hm
        obtain ⟨b133, e134, hm⟩ := letv_some hm
        refine WL_op (Run_move (Opd.t rfl)) rfl rfl rfl <| WL_op (Run_move (Opd.t rfl)) rfl rfl rfl <| WL_opG rfl rfl rfl rfl guard_pos (Run_move (Opd.t rfl)) rfl rfl <| WL_opG rfl rfl rfl rfl guard_pos (Run_move (Opd.t rfl)) rfl rfl <| WL_opG rfl rfl rfl rfl guard_pos (Run_lenS Try.underlying9 (Opd.g rfl id)) rfl rfl <| WL_opG rfl rfl rfl rfl guard_pos (Run.eqB (Run_eqI (Opd.g rfl id) (Opd.g rfl id)) e132) rfl rfl <| WL_op (Run.eqB (Run_and (Opd.t rfl) (Opd.g rfl id)) e134) rfl rfl rfl <| WL_op (Run_move (Opd.t rfl)) rfl rfl rfl <| ?_
        obtain ⟨b135, e136, hm⟩ := letv_some hm
        obtain ⟨b137, e138, hm⟩ := letv_some hm
        refine WL_opG rfl rfl rfl rfl guard_pos (Run_move (Opd.t rfl)) rfl rfl <| WL_opG rfl rfl rfl rfl guard_pos (Run_lenSl Try.underlying23 (Opd.g rfl id) h9.len) rfl rfl <| WL_opG rfl rfl rfl rfl guard_pos (Run.eqB (Run_geI (Opd.g rfl id) Opd.c) e136) rfl rfl <| WL_op (Run.eqB (Run_and (Opd.t rfl) (Opd.g rfl id)) e138) rfl rfl rfl <| WL_op (Run_assign (Opd.t rfl)) rfl rfl rfl <| ?_
        refine WL_nil ?_
        refine At_then ?_
        refine WC_ret ?_
        refine At_r1 rfl (ResIs.t rfl) ?_
        cases hm
        exact ⟨hS.toExt, rfl⟩

end Go.Proofs.Ytiambejbilkgmaa
