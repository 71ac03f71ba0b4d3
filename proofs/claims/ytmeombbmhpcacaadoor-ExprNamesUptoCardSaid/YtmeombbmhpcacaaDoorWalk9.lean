/- Printed by a program: the walks. -/
import Derived.Test.YtmeombbmhpcacaaDoorWalk8
namespace Go.Proofs.YtmeombbmhpcacaaDoor
open Go.Proofs

set_option maxRecDepth 100000 in
set_option maxHeartbeats 4000000 in
theorem expr_Eval_F_ok {k_expr_Eval : (Ex × (List Int)) → Option Int} (ih_expr_Eval : ∀ {Φ : Ctx} {w : World} {e : Ex} {v3 : (List Int)} {v1 : SLV} {v4 : SLV} {r : Int}, Sat (imm (RSl RExpr) [sl v1] e.l :: imm (RSl (RI .i64)) [sl v4] v3 :: Φ) w → k_expr_Eval (e, v3) = some r → CallsR Tryd.prog 24 [(.agg #[(.int .i64 e.op), (.int .i64 e.n), (.int .i64 e.at_), (sl v1)]), (sl v4)] w (fun v w' => v = (.int .i64 r) ∧ Sat (Φ) w')) {Φ : Ctx} {w : World} {e : Ex} {v3 : (List Int)} {v1 : SLV} {v4 : SLV} {r : Int} (hs : Sat (imm (RSl RExpr) [sl v1] e.l :: imm (RSl (RI .i64)) [sl v4] v3 :: Φ) w) (hm : expr_Eval_F k_expr_Eval e v3 = some r) :
    CallsR Tryd.prog 24 [(.agg #[(.int .i64 e.op), (.int .i64 e.n), (.int .i64 e.at_), (sl v1)]), (sl v4)] w (fun v w' => v = (.int .i64 r) ∧ Sat (Φ) w') := by
  refine CallsX_enter Tryd.func24 rfl Tryd.ntmps24 rfl ?_
  unfold expr_Eval_F at hm
  refine WC_seq ?_
  refine WC_region ?_
  refine WS_box (zs := [(.int .i64 e.op), (.int .i64 e.n), (.int .i64 e.at_), (sl v1)]) hs (Opd.t rfl) rfl rfl ?_
  intro b3 w4 hs
  replace hs := Sat.n3 (Γ := Φ) hs rfl
  refine WL_op (Run_assign Opd.c) rfl rfl rfl rfl <| ?_
  refine WL_nil ?_
  refine At_then ?_
  refine WC_seq ?_
  refine WC_region ?_
  refine WS_alloc (zs := [(.int .i64 0), (.int .i64 0)]) hs ti66 rfl rfl ?_
  intro b5 w6 hs
  replace hs := Sat.n4 (Γ := Φ) hs rfl
  refine WL_nil ?_
  refine At_then ?_
  refine WC_seq ?_
  refine WC_seq ?_
  refine WC_region ?_
  refine WL_op (Run_fieldAddr fo24_3 (Opd.t rfl)) rfl rfl rfl rfl <| WL_op (Run_load1 (v := (sl v1)) Tryd.underlying22 rfl (Opd.t rfl) (fun _ => (hs.box (i := 1) rfl).part 3 rfl)) rfl rfl rfl rfl <| WL_op (Run_fieldAddr fo24_3 (Opd.t rfl)) rfl rfl rfl rfl <| WL_op (Run_load1 (v := (sl v1)) Tryd.underlying22 rfl (Opd.t rfl) (fun _ => (hs.box (i := 1) rfl).part 3 rfl)) rfl rfl rfl rfl <| WL_op (Run_lenSlG Tryd.underlying22 (Opd.t rfl) (fun hg => (hs.sl (i := 2) rfl).len)) rfl rfl rfl rfl <| WL_op (Run_min2 (Opd.t rfl) Opd.c (fun _ => run_minI _ _ _ _ _ _)) rfl rfl rfl rfl <| ?_
  obtain ⟨k10, hm⟩ := chk_some hm
  obtain ⟨v8, hv7, h9⟩ := SRd.cutS (A := RExpr) (M := Ctx.M _) (fun _ => hs.sl (i := 2) rfl) (fun _ => k10)
  refine WL_op (Run_cutSl (lo := none) (hi := (some (.tmp 16))) Tryd.underlying22 ti24 (Opd.t rfl) (fun hg => (hs.sl (i := 2) rfl).len) rfl ⟨_, (Opd.t rfl)⟩ hv7) rfl rfl rfl rfl <| ?_
  replace hs := hs.addS (h9 rfl)
  refine WL_op (Run_lenSlG Tryd.underlying22 (Opd.t rfl) (fun hg => (hs.sl (i := 0) rfl).len)) rfl rfl rfl rfl <| WL_op (Run_move Opd.c) rfl rfl rfl rfl <| ?_
  refine WL_nil ?_
  refine At_then ?_
  refine WC_block ?_
  refine WC_loop (σ := Int × Int × Int) (γ := Unit) (F := (expr_Eval_L1 k_expr_Eval e v3)) (N := FUEL) (s0 := (0, 0, 0)) (r := r) (fun ⟨c12, c13, t14⟩ (_ : Unit) w11 => Sat (imm (RSl (RI .i64)) [sl v4] v3 :: box b3 24 [(.int .i64 e.op), (.int .i64 e.n), (.int .i64 e.at_), (sl v1)] :: imm (RSl RExpr) [sl v1] e.l :: box b5 66 [(.int .i64 c12), (.int .i64 c13)] :: imm (RSl RExpr) [sl v8] (cutL e.l 0 (min (List.length e.l : Int) 2)) :: Φ) w11) (fun ⟨c12, c13, t14⟩ (_ : Unit) => [(1, true, (sl v4)), (2, true, (.pointer (some ⟨b3, 0, none⟩))), (5, true, (.pointer (some ⟨b5, 0, none⟩))), (17, true, (sl v8)), (18, true, (.int .i64 (List.length (cutL e.l 0 (min (List.length e.l : Int) 2)) : Int))), (19, true, (.int .i64 t14))]) hm () (hs.re 5 [4, 2, 3, 1, 0] rfl) rfl ?_
  rintro again15 ⟨c12, c13, t14⟩ _ w11 hm hs
  unfold expr_Eval_L1 at hm
  dsimp only at hm
  refine WC_seq ?_
  refine WC_region ?_
  refine WL_op (Run_ltI (Opd.t rfl) (Opd.t rfl)) rfl rfl rfl rfl <| ?_
  refine WL_nil ?_
  refine At_then ?_
  refine WC_seq ?_
  refine WC_cond (Opd.t rfl) (fun hc16 => ?_) (fun hc16 => ?_)
  ·
    replace hm := bif_t hc16 hm
    refine WC_skip ?_
    refine At_then ?_
    refine WC_seq ?_
    refine WC_block ?_
    refine WC_seq ?_
    refine WC_region ?_
    refine WL_op (Run_move (Opd.t rfl)) rfl rfl rfl rfl <| ?_
    obtain ⟨e17, he18, hm⟩ := bind_some' hm
    obtain ⟨v19, hC20, hN21, hR22⟩ := cellsM24 (g := true) (fun hg => (hs.sl (i := 4) rfl)) (fun hg => he18)
    replace hs := hs.addL [elem true (elA (sl v8) t14 4) [(.int .i64 e17.op), (.int .i64 e17.n), (.int .i64 e17.at_), (sl v19)], imm (RSl RExpr) [sl v19] e17.l] rfl ⟨fun hg => ⟨hN21 hg, hC20 hg⟩, ⟨_, rfl, hR22 rfl⟩, trivial⟩
    replace hs := Sat.n7 (Γ := Φ) hs rfl
    refine WL_op (Run_idxAddr (p := (elA (sl v8) t14 4)) Tryd.underlying22 ti24 (Opd.t rfl) (Opd.t rfl) (fun hg => (SRd.atA (A := RExpr) (v := (sl v8)) (hs.sl (i := 6) rfl) he18).1)) rfl rfl rfl rfl <| WL_op (Run_loadA (vs := [(.int .i64 e17.op), (.int .i64 e17.n), (.int .i64 e17.at_), (sl v19)]) Tryd.underlying24 rfl ti24 (Opd.t rfl) (fun hg => ((hs.elem (i := 0) rfl) hg).sub 0 rfl) rfl) rfl rfl rfl rfl <| ?_
    refine WS_alloc (zs := [(.int .i64 0), (.int .i64 0), (.int .i64 0), (sl (none, 0, 0))]) hs ti24 rfl rfl ?_
    intro b23 w24 hs
    replace hs := Sat.n8 (Γ := Φ) hs rfl
    refine WL_op (Run_assign (Opd.t rfl)) rfl rfl rfl rfl <| ?_
    refine WS_store (us := [(.int .i64 e17.op), (.int .i64 e17.n), (.int .i64 e17.at_), (sl v19)]) (vs' := [(.int .i64 e17.op), (.int .i64 e17.n), (.int .i64 e17.at_), (sl v19)]) hs 0 rfl ti24 (Opd.t rfl) (Opd.t rfl) rfl rfl rfl rfl rfl ?_
    intro w25 hs
    replace hs := Sat.n8 (Γ := Φ) hs rfl
    refine WL_nil ?_
    refine At_then ?_
    refine WC_region ?_
    refine WL_op (Run_move (Opd.t rfl)) rfl rfl rfl rfl <| WL_op (Run_loadA (vs := [(.int .i64 e17.op), (.int .i64 e17.n), (.int .i64 e17.at_), (sl v19)]) Tryd.underlying24 rfl ti24 (Opd.t rfl) (fun _ => (hs.box (i := 0) rfl).part 0 rfl) rfl) rfl rfl rfl rfl <| WL_op (Run_move (Opd.t rfl)) rfl rfl rfl rfl <| ?_
    obtain ⟨r26, hr27, hm⟩ := bind_some' hm
    refine WL_call (f := 24) (first := []) (cap := []) (xs := [(.tmp 25), (.tmp 26)]) (vs := [(.agg #[(.int .i64 e17.op), (.int .i64 e17.n), (.int .i64 e17.at_), (sl v19)]), (sl v4)]) (args := [(.agg #[(.int .i64 e17.op), (.int .i64 e17.n), (.int .i64 e17.at_), (sl v19)]), (sl v4)]) Tryd.call24 Opd.f (.cons (Opd.t rfl) (.cons (Opd.t rfl) .nil)) rfl rfl (ih_expr_Eval (hs.re 8 [2, 3, 0, 1, 2, 3, 4, 5, 6, 7] rfl) hr27) ?_
    rintro _ w28 ⟨rfl, hs⟩
    replace hs := Sat.n8 (Γ := Φ) hs rfl
    rcases bif_some hm with ⟨hj29, hm⟩ | ⟨hj29, hm⟩
    ·
      replace hj29 : t14 = ((0 : Nat) : Int) := by simpa using hj29
      refine WL_op (Run_arrAt (j := 0) Tryd.underlying66 ti3 (Opd.t rfl) (Opd.t rfl) hj29 rfl) rfl rfl rfl rfl <| ?_
      refine WS_store (us := [(.int .i64 r26)]) (vs' := [(.int .i64 r26), (.int .i64 c13)]) hs 6 rfl ti3 (Opd.t rfl) (Opd.t rfl) rfl rfl rfl rfl rfl ?_
      intro w30 hs
      replace hs := Sat.n8 (Γ := Φ) hs rfl
      refine WL_nil ?_
      refine At_blk_normal ?_
      refine At_then ?_
      refine WC_region ?_
      refine WL_op (Run_add (Opd.t rfl) Opd.c) rfl rfl rfl rfl <| WL_op (Run_move (Opd.t rfl)) rfl rfl rfl rfl <| ?_
      refine WL_nil ?_
      exact At_again (r26, c13, (IntKind.i64.wrap (t14 + 1))) () hm (hs.re 8 [3, 4, 5, 6, 7] rfl) rfl
    ·
      rcases bif_some hm with ⟨hj31, hm⟩ | ⟨hj31, hm⟩
      ·
        replace hj31 : t14 = ((1 : Nat) : Int) := by simpa using hj31
        refine WL_op (Run_arrAt (j := 1) Tryd.underlying66 ti3 (Opd.t rfl) (Opd.t rfl) hj31 rfl) rfl rfl rfl rfl <| ?_
        refine WS_store (us := [(.int .i64 r26)]) (vs' := [(.int .i64 c12), (.int .i64 r26)]) hs 6 rfl ti3 (Opd.t rfl) (Opd.t rfl) rfl rfl rfl rfl rfl ?_
        intro w32 hs
        replace hs := Sat.n8 (Γ := Φ) hs rfl
        refine WL_nil ?_
        refine At_blk_normal ?_
        refine At_then ?_
        refine WC_region ?_
        refine WL_op (Run_add (Opd.t rfl) Opd.c) rfl rfl rfl rfl <| WL_op (Run_move (Opd.t rfl)) rfl rfl rfl rfl <| ?_
        refine WL_nil ?_
        exact At_again (c12, r26, (IntKind.i64.wrap (t14 + 1))) () hm (hs.re 8 [3, 4, 5, 6, 7] rfl) rfl
      ·
        cases hm
  ·
    replace hm := bif_f hc16 hm
    refine WC_exit ?_
    refine At_then_exit <| At_then_exit <| At_blk_here <| ?_
    refine At_then ?_
    refine WC_seq ?_
    refine WC_region_mixed [0, 1, 0, 4, 3, 31] (.q 0 0 (.q 1 1 (.q 2 3 (.q 3 7 (.q 4 15 (.q 5 31 .nil)))))) (by kernel_rfl) (by kernel_rfl) ?_
    intro w33 hx34
    replace hs := hs.ext hx34
    refine WD_pure (fun _ => (Run_arrAt (j := 0) Tryd.underlying66 ti3 (Opd.t rfl) Opd.c rfl rfl)) rfl rfl rfl rfl <| WD_op (fun w => CellsAt w ⟨b5, 0, none⟩ [(.int .i64 c12)]) ((hs.box (i := 3) rfl).part 0 rfl) (fun _ hJ => (Run_load1 (v := (.int .i64 c12)) Tryd.underlying3 rfl (Opd.t rfl) (fun _ => hJ))) rfl rfl rfl rfl <| WD_pure (fun _ => (Run_arrAt (j := 1) Tryd.underlying66 ti3 (Opd.t rfl) Opd.c rfl rfl)) rfl rfl rfl rfl <| WD_op (fun w => CellsAt w ⟨b5, 1, none⟩ [(.int .i64 c13)]) ((hs.box (i := 3) rfl).part 1 rfl) (fun _ hJ => (Run_load1 (v := (.int .i64 c13)) Tryd.underlying3 rfl (Opd.t rfl) (fun _ => hJ))) rfl rfl rfl rfl <| WD_pure (fun _ => (Run_assign (Opd.t rfl))) rfl rfl rfl rfl <| WD_pure (fun _ => (Run_assign (Opd.t rfl))) rfl rfl rfl rfl <| ?_
    refine WD_nil ?_
    refine At_then ?_
    refine WC_seq ?_
    refine WC_region ?_
    refine WL_op (Run_assign Opd.c) rfl rfl rfl rfl <| ?_
    refine WL_nil ?_
    refine At_then ?_
    refine WC_seq ?_
    refine WC_seq ?_
    refine WC_region ?_
    refine WL_op (Run_fieldAddr fo24_0 (Opd.t rfl)) rfl rfl rfl rfl <| WL_op (Run_load1 (v := (.int .i64 e.op)) Tryd.underlying3 rfl (Opd.t rfl) (fun _ => (hs.box (i := 1) rfl).part 0 rfl)) rfl rfl rfl rfl <| ?_
    refine WL_nil ?_
    refine At_then ?_
    refine WC_block ?_
    refine WC_seq ?_
    refine WC_block ?_
    refine WC_seq ?_
    refine WC_block ?_
    refine WC_seq ?_
    refine WC_block ?_
    refine WC_seq ?_
    refine WC_block ?_
    refine WC_seq ?_
    refine WC_block ?_
    refine WC_seq_cut (γ := Int × Int × Bool) (fun ⟨a36, b37, turn38⟩ w35 => expr_Eval_K2 a36 b37 turn38 = some r ∧ Sat (Φ) w35) (fun ⟨a36, b37, turn38⟩ => [(8, true, (.int .i64 a36)), (9, true, (.int .i64 b37)), (10, true, (.bool turn38))]) ?_ ?_
    ·
      rintro ⟨a36, b37, turn38⟩ w35 ⟨hm, hs⟩
      unfold expr_Eval_K2 at hm
      refine WC_seq ?_
      refine WC_seq ?_
      refine WC_region ?_
      refine WL_op (Run_move (Opd.t rfl)) rfl rfl rfl rfl <| WL_op (Run_move (Opd.t rfl)) rfl rfl rfl rfl <| WL_op (Run_leI (Opd.t rfl) (Opd.t rfl)) rfl rfl rfl rfl <| WL_op (Run_move (Opd.t rfl)) rfl rfl rfl rfl <| WL_op (Run_neB Tryd.underlying4 (Opd.t rfl) (Opd.t rfl)) rfl rfl rfl rfl <| ?_
      obtain ⟨r39, hr40, hm⟩ := bind_some' hm
      refine WL_call (f := 38) (first := []) (cap := []) (xs := [(.tmp 114)]) (vs := [(.bool ((decide (a36 ≤ b37)) != turn38))]) (args := [(.bool ((decide (a36 ≤ b37)) != turn38))]) Tryd.call38 Opd.f (.cons (Opd.t rfl) .nil) rfl rfl (expr_truth_ok (hs.re 0 [] rfl) hr40) ?_
      rintro _ w41 ⟨rfl, hs⟩
      refine WL_op (Run_assign (Opd.t rfl)) rfl rfl rfl rfl <| ?_
      refine WL_nil ?_
      refine At_then ?_
      refine WC_ret ?_
      refine At_then_ret <| At_blk_ret <| At_then_ret <| At_blk_ret <| At_then_ret <| At_blk_ret <| At_then_ret <| At_blk_ret <| At_then_ret <| At_blk_ret <| At_then_ret <| At_blk_ret <| At_then_ret <| ?_
      refine At_r1 rfl (ResIs.t rfl) ?_
      cases hm
      exact ⟨rfl, (hs.re 0 [] rfl)⟩
    ·
      refine WC_block ?_
      refine WC_seq ?_
      refine WC_block ?_
      refine WC_seq_cut (γ := Int × Int × Bool) (fun ⟨a43, b44, turn45⟩ w42 => expr_Eval_K3 a43 b44 turn45 = some r ∧ Sat (Φ) w42) (fun ⟨a43, b44, turn45⟩ => [(8, true, (.int .i64 a43)), (9, true, (.int .i64 b44)), (10, true, (.bool turn45))]) ?_ ?_
      ·
        rintro ⟨a43, b44, turn45⟩ w42 ⟨hm, hs⟩
        unfold expr_Eval_K3 at hm
        refine WC_seq ?_
        refine WC_seq ?_
        refine WC_region ?_
        refine WL_op (Run_move (Opd.t rfl)) rfl rfl rfl rfl <| WL_op (Run_move (Opd.t rfl)) rfl rfl rfl rfl <| WL_op (Run_ltI (Opd.t rfl) (Opd.t rfl)) rfl rfl rfl rfl <| WL_op (Run_move (Opd.t rfl)) rfl rfl rfl rfl <| WL_op (Run_neB Tryd.underlying4 (Opd.t rfl) (Opd.t rfl)) rfl rfl rfl rfl <| ?_
        obtain ⟨r46, hr47, hm⟩ := bind_some' hm
        refine WL_call (f := 38) (first := []) (cap := []) (xs := [(.tmp 108)]) (vs := [(.bool ((decide (a43 < b44)) != turn45))]) (args := [(.bool ((decide (a43 < b44)) != turn45))]) Tryd.call38 Opd.f (.cons (Opd.t rfl) .nil) rfl rfl (expr_truth_ok (hs.re 0 [] rfl) hr47) ?_
        rintro _ w48 ⟨rfl, hs⟩
        refine WL_op (Run_assign (Opd.t rfl)) rfl rfl rfl rfl <| ?_
        refine WL_nil ?_
        refine At_then ?_
        refine WC_ret ?_
        refine At_then_ret <| At_blk_ret <| At_then_ret <| At_blk_ret <| At_then_ret <| At_blk_ret <| At_then_ret <| At_blk_ret <| At_then_ret <| At_blk_ret <| At_then_ret <| At_blk_ret <| At_then_ret <| At_blk_ret <| At_then_ret <| At_blk_ret <| At_then_ret <| ?_
        refine At_r1 rfl (ResIs.t rfl) ?_
        cases hm
        exact ⟨rfl, (hs.re 0 [] rfl)⟩
      ·
        refine WC_block ?_
        refine WC_seq ?_
        refine WC_block ?_
        refine WC_seq_cut (γ := Int × Int × Bool) (fun ⟨a50, b51, turn52⟩ w49 => expr_Eval_K4 a50 b51 turn52 = some r ∧ Sat (Φ) w49) (fun ⟨a50, b51, turn52⟩ => [(8, true, (.int .i64 a50)), (9, true, (.int .i64 b51)), (10, true, (.bool turn52))]) ?_ ?_
        ·
          rintro ⟨a50, b51, turn52⟩ w49 ⟨hm, hs⟩
          unfold expr_Eval_K4 at hm
          refine WC_seq ?_
          refine WC_seq ?_
          refine WC_region ?_
          refine WL_op (Run_move (Opd.t rfl)) rfl rfl rfl rfl <| WL_op (Run_move (Opd.t rfl)) rfl rfl rfl rfl <| WL_op (Run_eqI (Opd.t rfl) (Opd.t rfl)) rfl rfl rfl rfl <| WL_op (Run_move (Opd.t rfl)) rfl rfl rfl rfl <| WL_op (Run_neB Tryd.underlying4 (Opd.t rfl) (Opd.t rfl)) rfl rfl rfl rfl <| ?_
          obtain ⟨r53, hr54, hm⟩ := bind_some' hm
          refine WL_call (f := 38) (first := []) (cap := []) (xs := [(.tmp 102)]) (vs := [(.bool ((a50 == b51) != turn52))]) (args := [(.bool ((a50 == b51) != turn52))]) Tryd.call38 Opd.f (.cons (Opd.t rfl) .nil) rfl rfl (expr_truth_ok (hs.re 0 [] rfl) hr54) ?_
          rintro _ w55 ⟨rfl, hs⟩
          refine WL_op (Run_assign (Opd.t rfl)) rfl rfl rfl rfl <| ?_
          refine WL_nil ?_
          refine At_then ?_
          refine WC_ret ?_
          refine At_then_ret <| At_blk_ret <| At_then_ret <| At_blk_ret <| At_then_ret <| At_blk_ret <| At_then_ret <| At_blk_ret <| At_then_ret <| At_blk_ret <| At_then_ret <| At_blk_ret <| At_then_ret <| At_blk_ret <| At_then_ret <| At_blk_ret <| At_then_ret <| At_blk_ret <| At_then_ret <| At_blk_ret <| At_then_ret <| ?_
          refine At_r1 rfl (ResIs.t rfl) ?_
          cases hm
          exact ⟨rfl, (hs.re 0 [] rfl)⟩
        ·
          refine WC_block ?_
          refine WC_seq ?_
          refine WC_block ?_
          refine WC_seq ?_
          refine WC_block ?_
          refine WC_seq ?_
          refine WC_block ?_
          refine WC_seq ?_
          refine WC_block ?_
          refine WC_seq ?_
          refine WC_block ?_
          refine WC_seq ?_
          refine WC_block ?_
          refine WC_seq ?_
          refine WC_block ?_
          refine WC_seq ?_
          refine WC_seq ?_
          refine WC_seq ?_
          refine WC_region ?_
          refine WL_op (Run_eqI (Opd.t rfl) Opd.c) rfl rfl rfl rfl <| WL_op (Run_assign (Opd.t rfl)) rfl rfl rfl rfl <| ?_
          refine WL_nil ?_
          refine At_then ?_
          refine WC_cond (Opd.t rfl) (fun hc56 => ?_) (fun hc56 => ?_)
          ·
            replace hm := bif_t hc56 hm
            refine WC_exit ?_
            refine At_then_exit <| At_then_exit <| At_blk_here <| ?_
            refine At_then ?_
            refine WC_seq ?_
            refine WC_seq ?_
            refine WC_region ?_
            refine WL_op (Run_fieldAddr fo24_1 (Opd.t rfl)) rfl rfl rfl rfl <| WL_op (Run_load1 (v := (.int .i64 e.n)) Tryd.underlying3 rfl (Opd.t rfl) (fun _ => (hs.box (i := 1) rfl).part 1 rfl)) rfl rfl rfl rfl <| WL_op (Run_assign (Opd.t rfl)) rfl rfl rfl rfl <| ?_
            refine WL_nil ?_
            refine At_then ?_
            refine WC_ret ?_
            refine At_then_ret <| At_blk_ret <| At_then_ret <| At_blk_ret <| At_then_ret <| At_blk_ret <| At_then_ret <| At_blk_ret <| At_then_ret <| At_blk_ret <| At_then_ret <| At_blk_ret <| At_then_ret <| At_blk_ret <| At_then_ret <| At_blk_ret <| At_then_ret <| At_blk_ret <| At_then_ret <| At_blk_ret <| At_then_ret <| At_blk_ret <| At_then_ret <| At_blk_ret <| At_then_ret <| At_blk_ret <| At_then_ret <| At_blk_ret <| At_then_ret <| At_blk_ret <| At_then_ret <| At_blk_ret <| At_then_ret <| At_blk_ret <| At_then_ret <| ?_
            refine At_r1 rfl (ResIs.t rfl) ?_
            cases hm
            exact ⟨rfl, (hs.re 5 [] rfl)⟩
          ·
            replace hm := bif_f hc56 hm
            refine WC_skip ?_
            refine At_then ?_
            refine WC_seq ?_
            refine WC_seq ?_
            refine WC_region ?_
            refine WL_op (Run_eqI (Opd.t rfl) Opd.c) rfl rfl rfl rfl <| WL_op (Run_assign (Opd.t rfl)) rfl rfl rfl rfl <| ?_
            refine WL_nil ?_
            refine At_then ?_
            refine WC_cond (Opd.t rfl) (fun hc57 => ?_) (fun hc57 => ?_)
            ·
              replace hm := bif_t hc57 hm
              refine WC_exit ?_
              refine At_then_exit <| At_then_exit <| At_blk_other rfl <| At_then_exit <| At_blk_here <| ?_
              refine At_then ?_
              refine WC_seq ?_
              refine WC_seq ?_
              refine WC_seq ?_
              refine WC_region ?_
              refine WL_op (Run_fieldAddr fo24_1 (Opd.t rfl)) rfl rfl rfl rfl <| WL_op (Run_load1 (v := (.int .i64 e.n)) Tryd.underlying3 rfl (Opd.t rfl) (fun _ => (hs.box (i := 1) rfl).part 1 rfl)) rfl rfl rfl rfl <| ?_
              obtain ⟨b58, e59, hm⟩ := letv_some hm
              refine WL_op (Run.eqB (Run_ltI (Opd.t rfl) Opd.c) e59) rfl rfl rfl rfl <| WL_op (Run_move (Opd.t rfl)) rfl rfl rfl rfl <| WL_opG rfl rfl rfl rfl guard_neg (Run_fieldAddr fo24_1 (Opd.t rfl)) rfl rfl rfl <| WL_opG rfl rfl rfl rfl guard_neg (Run_load1 (v := (.int .i64 e.n)) Tryd.underlying3 rfl (Opd.g rfl id) (fun _ => (hs.box (i := 1) rfl).part 1 rfl)) rfl rfl rfl <| WL_opG rfl rfl rfl rfl guard_neg (Run_move (Opd.t rfl)) rfl rfl rfl <| WL_opG rfl rfl rfl rfl guard_neg (Run_lenSlG Tryd.underlying25 (Opd.g rfl id) (fun hg => (hs.sl (i := 0) rfl).len)) rfl rfl rfl <| ?_
              obtain ⟨b60, e61, hm⟩ := letv_some hm
              refine WL_opG rfl rfl rfl rfl guard_neg (Run.eqB (Run_geI (Opd.g rfl id) (Opd.g rfl id)) e61) rfl rfl rfl <| ?_
              obtain ⟨b62, e63, hm⟩ := letv_some hm
              refine WL_op (Run.eqB (Run_or (Opd.t rfl) (Opd.g rfl id)) e63) rfl rfl rfl rfl <| ?_
              refine WL_nil ?_
              refine At_then ?_
              refine WC_cond (Opd.t rfl) (fun hc64 => ?_) (fun hc64 => ?_)
              ·
                replace hm := bif_t hc64 hm
                refine WC_seq ?_
                refine WC_region ?_
                refine WL_op (Run_assign Opd.c) rfl rfl rfl rfl <| ?_
                refine WL_nil ?_
                refine At_then ?_
                refine WC_ret ?_
                refine At_then_ret <| At_then_ret <| At_blk_ret <| At_then_ret <| At_blk_ret <| At_then_ret <| At_blk_ret <| At_then_ret <| At_blk_ret <| At_then_ret <| At_blk_ret <| At_then_ret <| At_blk_ret <| At_then_ret <| At_blk_ret <| At_then_ret <| At_blk_ret <| At_then_ret <| At_blk_ret <| At_then_ret <| At_blk_ret <| At_then_ret <| At_blk_ret <| At_then_ret <| At_blk_ret <| At_then_ret <| At_blk_ret <| At_then_ret <| At_blk_ret <| At_then_ret <| At_blk_ret <| At_then_ret <| At_blk_ret <| At_then_ret <| ?_
                refine At_r1 rfl (ResIs.t rfl) ?_
                cases hm
                exact ⟨rfl, (hs.re 5 [] rfl)⟩
              ·
                replace hm := bif_f hc64 hm
                refine WC_skip ?_
                refine At_then ?_
                refine WC_seq ?_
                refine WC_region ?_
                refine WL_op (Run_move (Opd.t rfl)) rfl rfl rfl rfl <| WL_op (Run_fieldAddr fo24_1 (Opd.t rfl)) rfl rfl rfl rfl <| WL_op (Run_load1 (v := (.int .i64 e.n)) Tryd.underlying3 rfl (Opd.t rfl) (fun _ => (hs.box (i := 1) rfl).part 1 rfl)) rfl rfl rfl rfl <| ?_
                obtain ⟨e65, he66, hm⟩ := bind_some' hm
                refine WL_op (Run_idxAddr (p := (elA (sl v4) e.n 1)) Tryd.underlying25 ti3 (Opd.t rfl) (Opd.t rfl) (fun hg => (SRd.atA (A := (RI .i64)) (v := (sl v4)) (hs.sl (i := 0) rfl) he66).1)) rfl rfl rfl rfl <| WL_op (Run_load1 (v := (.int .i64 e65)) Tryd.underlying3 rfl (Opd.t rfl) (fun hg => (SRd.cellsF (A := (RI .i64)) (v := (sl v4)) (hs.sl (i := 0) rfl) he66 (fun _ h => openT3 h)).sub 0 rfl)) rfl rfl rfl rfl <| WL_op (Run_assign (Opd.t rfl)) rfl rfl rfl rfl <| ?_
                refine WL_nil ?_
                refine At_then ?_
                refine WC_ret ?_
                refine At_then_ret <| At_blk_ret <| At_then_ret <| At_blk_ret <| At_then_ret <| At_blk_ret <| At_then_ret <| At_blk_ret <| At_then_ret <| At_blk_ret <| At_then_ret <| At_blk_ret <| At_then_ret <| At_blk_ret <| At_then_ret <| At_blk_ret <| At_then_ret <| At_blk_ret <| At_then_ret <| At_blk_ret <| At_then_ret <| At_blk_ret <| At_then_ret <| At_blk_ret <| At_then_ret <| At_blk_ret <| At_then_ret <| At_blk_ret <| At_then_ret <| At_blk_ret <| At_then_ret <| At_blk_ret <| At_then_ret <| ?_
                refine At_r1 rfl (ResIs.t rfl) ?_
                cases hm
                exact ⟨rfl, (hs.re 5 [] rfl)⟩
            ·
              replace hm := bif_f hc57 hm
              refine WC_skip ?_
              refine At_then ?_
              refine WC_seq ?_
              refine WC_seq ?_
              refine WC_region ?_
              refine WL_op (Run_eqI (Opd.t rfl) Opd.c) rfl rfl rfl rfl <| WL_op (Run_assign (Opd.t rfl)) rfl rfl rfl rfl <| ?_
              refine WL_nil ?_
              refine At_then ?_
              refine WC_cond (Opd.t rfl) (fun hc67 => ?_) (fun hc67 => ?_)
              ·
                replace hm := bif_t hc67 hm
                refine WC_exit ?_
                refine At_then_exit <| At_then_exit <| At_blk_other rfl <| At_then_exit <| At_blk_other rfl <| At_then_exit <| At_blk_here <| ?_
                refine At_then ?_
                refine WC_seq ?_
                refine WC_seq ?_
                refine WC_region ?_
                refine WL_op (Run_move (Opd.t rfl)) rfl rfl rfl rfl <| WL_op (Run_move (Opd.t rfl)) rfl rfl rfl rfl <| WL_op (Run_add (Opd.t rfl) (Opd.t rfl)) rfl rfl rfl rfl <| WL_op (Run_assign (Opd.t rfl)) rfl rfl rfl rfl <| ?_
                refine WL_nil ?_
                refine At_then ?_
                refine WC_ret ?_
                refine At_then_ret <| At_blk_ret <| At_then_ret <| At_blk_ret <| At_then_ret <| At_blk_ret <| At_then_ret <| At_blk_ret <| At_then_ret <| At_blk_ret <| At_then_ret <| At_blk_ret <| At_then_ret <| At_blk_ret <| At_then_ret <| At_blk_ret <| At_then_ret <| At_blk_ret <| At_then_ret <| At_blk_ret <| At_then_ret <| At_blk_ret <| At_then_ret <| At_blk_ret <| At_then_ret <| At_blk_ret <| At_then_ret <| At_blk_ret <| At_then_ret <| At_blk_ret <| At_then_ret <| ?_
                refine At_r1 rfl (ResIs.t rfl) ?_
                cases hm
                exact ⟨rfl, (hs.re 5 [] rfl)⟩
              ·
                replace hm := bif_f hc67 hm
                refine WC_skip ?_
                refine At_then ?_
                refine WC_seq ?_
                refine WC_seq ?_
                refine WC_region ?_
                refine WL_op (Run_eqI (Opd.t rfl) Opd.c) rfl rfl rfl rfl <| WL_op (Run_assign (Opd.t rfl)) rfl rfl rfl rfl <| ?_
                refine WL_nil ?_
                refine At_then ?_
                refine WC_cond (Opd.t rfl) (fun hc68 => ?_) (fun hc68 => ?_)
                ·
                  replace hm := bif_t hc68 hm
                  refine WC_exit ?_
                  refine At_then_exit <| At_then_exit <| At_blk_other rfl <| At_then_exit <| At_blk_other rfl <| At_then_exit <| At_blk_other rfl <| At_then_exit <| At_blk_here <| ?_
                  refine At_then ?_
                  refine WC_seq ?_
                  refine WC_seq ?_
                  refine WC_region ?_
                  refine WL_op (Run_move (Opd.t rfl)) rfl rfl rfl rfl <| WL_op (Run_move (Opd.t rfl)) rfl rfl rfl rfl <| WL_op (Run_mul (Opd.t rfl) (Opd.t rfl)) rfl rfl rfl rfl <| WL_op (Run_assign (Opd.t rfl)) rfl rfl rfl rfl <| ?_
                  refine WL_nil ?_
                  refine At_then ?_
                  refine WC_ret ?_
                  refine At_then_ret <| At_blk_ret <| At_then_ret <| At_blk_ret <| At_then_ret <| At_blk_ret <| At_then_ret <| At_blk_ret <| At_then_ret <| At_blk_ret <| At_then_ret <| At_blk_ret <| At_then_ret <| At_blk_ret <| At_then_ret <| At_blk_ret <| At_then_ret <| At_blk_ret <| At_then_ret <| At_blk_ret <| At_then_ret <| At_blk_ret <| At_then_ret <| At_blk_ret <| At_then_ret <| At_blk_ret <| At_then_ret <| At_blk_ret <| At_then_ret <| ?_
                  refine At_r1 rfl (ResIs.t rfl) ?_
                  cases hm
                  exact ⟨rfl, (hs.re 5 [] rfl)⟩
                ·
                  replace hm := bif_f hc68 hm
                  refine WC_skip ?_
                  refine At_then ?_
                  refine WC_seq ?_
                  refine WC_seq ?_
                  refine WC_region ?_
                  refine WL_op (Run_eqI (Opd.t rfl) Opd.c) rfl rfl rfl rfl <| WL_op (Run_assign (Opd.t rfl)) rfl rfl rfl rfl <| ?_
                  refine WL_nil ?_
                  refine At_then ?_
                  refine WC_cond (Opd.t rfl) (fun hc69 => ?_) (fun hc69 => ?_)
                  ·
                    replace hm := bif_t hc69 hm
                    refine WC_exit ?_
                    refine At_then_exit <| At_then_exit <| At_blk_other rfl <| At_then_exit <| At_blk_other rfl <| At_then_exit <| At_blk_other rfl <| At_then_exit <| At_blk_other rfl <| At_then_exit <| At_blk_here <| ?_
                    refine At_then ?_
                    refine WC_region ?_
                    refine WL_op (Run_move (Opd.t rfl)) rfl rfl rfl rfl <| WL_op (Run_assign Opd.c) rfl rfl rfl rfl <| WL_op (Run_assign (Opd.t rfl)) rfl rfl rfl rfl <| ?_
                    refine WL_nil ?_
                    refine At_blk_normal ?_
                    refine At_then ?_
                    refine WC_seq ?_
                    refine WC_seq ?_
                    refine WC_region ?_
                    refine WL_op (Run_move (Opd.t rfl)) rfl rfl rfl rfl <| WL_op (Run_move (Opd.t rfl)) rfl rfl rfl rfl <| WL_op (Run_sub (Opd.t rfl) (Opd.t rfl)) rfl rfl rfl rfl <| WL_op (Run_assign (Opd.t rfl)) rfl rfl rfl rfl <| ?_
                    refine WL_nil ?_
                    refine At_then ?_
                    refine WC_ret ?_
                    refine At_then_ret <| At_blk_ret <| At_then_ret <| At_blk_ret <| At_then_ret <| At_blk_ret <| At_then_ret <| At_blk_ret <| At_then_ret <| At_blk_ret <| At_then_ret <| At_blk_ret <| At_then_ret <| At_blk_ret <| At_then_ret <| At_blk_ret <| At_then_ret <| At_blk_ret <| At_then_ret <| At_blk_ret <| At_then_ret <| At_blk_ret <| At_then_ret <| At_blk_ret <| At_then_ret <| ?_
                    refine At_r1 rfl (ResIs.t rfl) ?_
                    cases hm
                    exact ⟨rfl, (hs.re 5 [] rfl)⟩
                  ·
                    replace hm := bif_f hc69 hm
                    refine WC_skip ?_
                    refine At_then ?_
                    refine WC_seq ?_
                    refine WC_seq ?_
                    refine WC_region ?_
                    refine WL_op (Run_eqI (Opd.t rfl) Opd.c) rfl rfl rfl rfl <| WL_op (Run_assign (Opd.t rfl)) rfl rfl rfl rfl <| ?_
                    refine WL_nil ?_
                    refine At_then ?_
                    refine WC_cond (Opd.t rfl) (fun hc70 => ?_) (fun hc70 => ?_)
                    ·
                      replace hm := bif_t hc70 hm
                      refine WC_exit ?_
                      refine At_then_exit <| At_then_exit <| At_blk_other rfl <| At_then_exit <| At_blk_other rfl <| At_then_exit <| At_blk_other rfl <| At_then_exit <| At_blk_other rfl <| At_then_exit <| At_blk_other rfl <| At_then_exit <| At_blk_here <| ?_
                      refine At_then ?_
                      refine WC_seq ?_
                      refine WC_seq ?_
                      refine WC_region ?_
                      refine WL_op (Run_move (Opd.t rfl)) rfl rfl rfl rfl <| WL_op (Run_move (Opd.t rfl)) rfl rfl rfl rfl <| WL_op (Run_sub (Opd.t rfl) (Opd.t rfl)) rfl rfl rfl rfl <| WL_op (Run_assign (Opd.t rfl)) rfl rfl rfl rfl <| ?_
                      refine WL_nil ?_
                      refine At_then ?_
                      refine WC_ret ?_
                      refine At_then_ret <| At_blk_ret <| At_then_ret <| At_blk_ret <| At_then_ret <| At_blk_ret <| At_then_ret <| At_blk_ret <| At_then_ret <| At_blk_ret <| At_then_ret <| At_blk_ret <| At_then_ret <| At_blk_ret <| At_then_ret <| At_blk_ret <| At_then_ret <| At_blk_ret <| At_then_ret <| At_blk_ret <| At_then_ret <| At_blk_ret <| At_then_ret <| At_blk_ret <| At_then_ret <| ?_
                      refine At_r1 rfl (ResIs.t rfl) ?_
                      cases hm
                      exact ⟨rfl, (hs.re 5 [] rfl)⟩
                    ·
                      replace hm := bif_f hc70 hm
                      refine WC_skip ?_
                      refine At_then ?_
                      refine WC_seq ?_
                      refine WC_seq ?_
                      refine WC_region ?_
                      refine WL_op (Run_eqI (Opd.t rfl) Opd.c) rfl rfl rfl rfl <| WL_op (Run_assign (Opd.t rfl)) rfl rfl rfl rfl <| ?_
                      refine WL_nil ?_
                      refine At_then ?_
                      refine WC_cond (Opd.t rfl) (fun hc71 => ?_) (fun hc71 => ?_)
                      ·
                        replace hm := bif_t hc71 hm
                        refine WC_exit ?_
                        refine At_then_exit <| At_then_exit <| At_blk_other rfl <| At_then_exit <| At_blk_other rfl <| At_then_exit <| At_blk_other rfl <| At_then_exit <| At_blk_other rfl <| At_then_exit <| At_blk_other rfl <| At_then_exit <| At_blk_other rfl <| At_then_exit <| At_blk_here <| ?_
                        refine At_then ?_
                        refine WC_region ?_
                        refine WL_op (Run_assign Opd.c) rfl rfl rfl rfl <| ?_
                        refine WL_nil ?_
                        refine At_blk_normal ?_
                        exact At_join (c12, c13, true) ⟨hm, (hs.re 5 [] rfl)⟩ rfl
                      ·
                        replace hm := bif_f hc71 hm
                        refine WC_skip ?_
                        refine At_then ?_
                        refine WC_seq_cut (γ := Unit) (fun (_ : Unit) w72 => expr_Eval_K5 e c12 c13 = some r ∧ Sat (Φ) w72) (fun (_ : Unit) => [(8, true, (.int .i64 c12)), (9, true, (.int .i64 c13)), (10, true, (.bool false)), (35, true, (.int .i64 e.op))]) ?_ ?_
                        ·
                          rintro _ w72 ⟨hm, hs⟩
                          unfold expr_Eval_K5 at hm
                          refine WC_seq ?_
                          refine WC_seq ?_
                          refine WC_region ?_
                          refine WL_op (Run_eqI (Opd.t rfl) Opd.c) rfl rfl rfl rfl <| WL_op (Run_assign (Opd.t rfl)) rfl rfl rfl rfl <| ?_
                          refine WL_nil ?_
                          refine At_then ?_
                          refine WC_cond (Opd.t rfl) (fun hc73 => ?_) (fun hc73 => ?_)
                          ·
                            replace hm := bif_t hc73 hm
                            refine WC_exit ?_
                            refine At_then_exit <| At_then_exit <| At_blk_other rfl <| At_then_exit <| At_blk_other rfl <| At_then_exit <| At_blk_other rfl <| At_then_exit <| At_blk_other rfl <| At_then_exit <| At_blk_other rfl <| At_then_exit <| At_blk_other rfl <| At_then_exit <| At_blk_other rfl <| At_then_exit <| At_blk_other rfl <| At_then_exit <| At_blk_here <| ?_
                            refine At_then ?_
                            refine WC_region ?_
                            refine WL_op (Run_assign Opd.c) rfl rfl rfl rfl <| ?_
                            refine WL_nil ?_
                            refine At_blk_normal ?_
                            exact At_join (c12, c13, true) ⟨hm, (hs.re 0 [] rfl)⟩ rfl
                          ·
                            replace hm := bif_f hc73 hm
                            refine WC_skip ?_
                            refine At_then ?_
                            refine WC_seq ?_
                            refine WC_seq ?_
                            refine WC_region ?_
                            refine WL_op (Run_eqI (Opd.t rfl) Opd.c) rfl rfl rfl rfl <| WL_op (Run_assign (Opd.t rfl)) rfl rfl rfl rfl <| ?_
                            refine WL_nil ?_
                            refine At_then ?_
                            refine WC_cond (Opd.t rfl) (fun hc74 => ?_) (fun hc74 => ?_)
                            ·
                              replace hm := bif_t hc74 hm
                              refine WC_exit ?_
                              refine At_then_exit <| At_then_exit <| At_blk_other rfl <| At_then_exit <| At_blk_other rfl <| At_then_exit <| At_blk_other rfl <| At_then_exit <| At_blk_other rfl <| At_then_exit <| At_blk_other rfl <| At_then_exit <| At_blk_other rfl <| At_then_exit <| At_blk_other rfl <| At_then_exit <| At_blk_other rfl <| At_then_exit <| At_blk_other rfl <| At_then_exit <| At_blk_here <| ?_
                              exact At_join (c12, c13, false) ⟨hm, (hs.re 0 [] rfl)⟩ rfl
                            ·
                              replace hm := bif_f hc74 hm
                              refine WC_skip ?_
                              refine At_then ?_
                              refine WC_seq ?_
                              refine WC_seq ?_
                              refine WC_region ?_
                              refine WL_op (Run_eqI (Opd.t rfl) Opd.c) rfl rfl rfl rfl <| WL_op (Run_assign (Opd.t rfl)) rfl rfl rfl rfl <| ?_
                              refine WL_nil ?_
                              refine At_then ?_
                              refine WC_cond (Opd.t rfl) (fun hc75 => ?_) (fun hc75 => ?_)
                              ·
                                replace hm := bif_t hc75 hm
                                refine WC_exit ?_
                                refine At_then_exit <| At_then_exit <| At_blk_other rfl <| At_then_exit <| At_blk_other rfl <| At_then_exit <| At_blk_other rfl <| At_then_exit <| At_blk_other rfl <| At_then_exit <| At_blk_other rfl <| At_then_exit <| At_blk_other rfl <| At_then_exit <| At_blk_other rfl <| At_then_exit <| At_blk_other rfl <| At_then_exit <| At_blk_other rfl <| At_then_exit <| At_blk_other rfl <| At_then_exit <| At_blk_here <| ?_
                                refine At_then ?_
                                refine WC_region ?_
                                refine WL_op (Run_assign Opd.c) rfl rfl rfl rfl <| ?_
                                refine WL_nil ?_
                                refine At_blk_normal ?_
                                exact At_join (c12, c13, true) ⟨hm, (hs.re 0 [] rfl)⟩ rfl
                              ·
                                replace hm := bif_f hc75 hm
                                refine WC_skip ?_
                                refine At_then ?_
                                refine WC_seq ?_
                                refine WC_seq ?_
                                refine WC_region ?_
                                refine WL_op (Run_eqI (Opd.t rfl) Opd.c) rfl rfl rfl rfl <| WL_op (Run_assign (Opd.t rfl)) rfl rfl rfl rfl <| ?_
                                refine WL_nil ?_
                                refine At_then ?_
                                refine WC_cond (Opd.t rfl) (fun hc76 => ?_) (fun hc76 => ?_)
                                ·
                                  replace hm := bif_t hc76 hm
                                  refine WC_exit ?_
                                  refine At_then_exit <| At_then_exit <| At_blk_other rfl <| At_then_exit <| At_blk_other rfl <| At_then_exit <| At_blk_other rfl <| At_then_exit <| At_blk_other rfl <| At_then_exit <| At_blk_other rfl <| At_then_exit <| At_blk_other rfl <| At_then_exit <| At_blk_other rfl <| At_then_exit <| At_blk_other rfl <| At_then_exit <| At_blk_other rfl <| At_then_exit <| At_blk_other rfl <| At_then_exit <| At_blk_other rfl <| At_then_exit <| At_blk_here <| ?_
                                  exact At_join (c12, c13, false) ⟨hm, (hs.re 0 [] rfl)⟩ rfl
                                ·
                                  replace hm := bif_f hc76 hm
                                  refine WC_skip ?_
                                  refine At_then ?_
                                  refine WC_seq ?_
                                  refine WC_seq ?_
                                  refine WC_region ?_
                                  refine WL_op (Run_eqI (Opd.t rfl) Opd.c) rfl rfl rfl rfl <| WL_op (Run_assign (Opd.t rfl)) rfl rfl rfl rfl <| ?_
                                  refine WL_nil ?_
                                  refine At_then ?_
                                  refine WC_cond (Opd.t rfl) (fun hc77 => ?_) (fun hc77 => ?_)
                                  ·
                                    replace hm := bif_t hc77 hm
                                    refine WC_exit ?_
                                    refine At_then_exit <| At_then_exit <| At_blk_other rfl <| At_then_exit <| At_blk_other rfl <| At_then_exit <| At_blk_other rfl <| At_then_exit <| At_blk_other rfl <| At_then_exit <| At_blk_other rfl <| At_then_exit <| At_blk_other rfl <| At_then_exit <| At_blk_other rfl <| At_then_exit <| At_blk_other rfl <| At_then_exit <| At_blk_other rfl <| At_then_exit <| At_blk_other rfl <| At_then_exit <| At_blk_other rfl <| At_then_exit <| At_blk_other rfl <| At_then_exit <| At_blk_here <| ?_
                                    refine At_then ?_
                                    refine WC_seq ?_
                                    refine WC_seq ?_
                                    refine WC_region ?_
                                    refine WL_op (Run_assign Opd.c) rfl rfl rfl rfl <| ?_
                                    refine WL_nil ?_
                                    refine At_then ?_
                                    refine WC_ret ?_
                                    refine At_then_ret <| At_blk_ret <| At_then_ret <| At_blk_ret <| At_then_ret <| At_blk_ret <| At_then_ret <| At_blk_ret <| At_then_ret <| At_blk_ret <| At_then_ret <| ?_
                                    refine At_r1 rfl (ResIs.t rfl) ?_
                                    cases hm
                                    exact ⟨rfl, (hs.re 0 [] rfl)⟩
                                  ·
                                    replace hm := bif_f hc77 hm
                                    refine WC_skip ?_
                                    refine At_then ?_
                                    refine WC_seq ?_
                                    refine WC_seq ?_
                                    refine WC_region ?_
                                    refine WL_op (Run_eqI (Opd.t rfl) Opd.c) rfl rfl rfl rfl <| WL_op (Run_assign (Opd.t rfl)) rfl rfl rfl rfl <| ?_
                                    refine WL_nil ?_
                                    refine At_then ?_
                                    refine WC_cond (Opd.t rfl) (fun hc78 => ?_) (fun hc78 => ?_)
                                    ·
                                      replace hm := bif_t hc78 hm
                                      refine WC_exit ?_
                                      refine At_then_exit <| At_then_exit <| At_blk_other rfl <| At_then_exit <| At_blk_other rfl <| At_then_exit <| At_blk_other rfl <| At_then_exit <| At_blk_other rfl <| At_then_exit <| At_blk_other rfl <| At_then_exit <| At_blk_other rfl <| At_then_exit <| At_blk_other rfl <| At_then_exit <| At_blk_other rfl <| At_then_exit <| At_blk_other rfl <| At_then_exit <| At_blk_other rfl <| At_then_exit <| At_blk_other rfl <| At_then_exit <| At_blk_other rfl <| At_then_exit <| At_blk_other rfl <| At_then_exit <| At_blk_here <| ?_
                                      refine At_then ?_
                                      refine WC_seq ?_
                                      refine WC_seq ?_
                                      refine WC_region ?_
                                      refine WL_op (Run_move (Opd.t rfl)) rfl rfl rfl rfl <| WL_op (Run_sub Opd.c (Opd.t rfl)) rfl rfl rfl rfl <| WL_op (Run_assign (Opd.t rfl)) rfl rfl rfl rfl <| ?_
                                      refine WL_nil ?_
                                      refine At_then ?_
                                      refine WC_ret ?_
                                      refine At_then_ret <| At_blk_ret <| At_then_ret <| At_blk_ret <| At_then_ret <| At_blk_ret <| At_then_ret <| At_blk_ret <| At_then_ret <| ?_
                                      refine At_r1 rfl (ResIs.t rfl) ?_
                                      cases hm
                                      exact ⟨rfl, (hs.re 0 [] rfl)⟩
                                    ·
                                      replace hm := bif_f hc78 hm
                                      refine WC_skip ?_
                                      refine At_then ?_
                                      refine WC_seq ?_
                                      refine WC_seq ?_
                                      refine WC_region ?_
                                      refine WL_op (Run_eqI (Opd.t rfl) Opd.c) rfl rfl rfl rfl <| WL_op (Run_assign (Opd.t rfl)) rfl rfl rfl rfl <| ?_
                                      refine WL_nil ?_
                                      refine At_then ?_
                                      refine WC_cond (Opd.t rfl) (fun hc79 => ?_) (fun hc79 => ?_)
                                      ·
                                        replace hm := bif_t hc79 hm
                                        refine WC_exit ?_
                                        refine At_then_exit <| At_then_exit <| At_blk_other rfl <| At_then_exit <| At_blk_other rfl <| At_then_exit <| At_blk_other rfl <| At_then_exit <| At_blk_other rfl <| At_then_exit <| At_blk_other rfl <| At_then_exit <| At_blk_other rfl <| At_then_exit <| At_blk_other rfl <| At_then_exit <| At_blk_other rfl <| At_then_exit <| At_blk_other rfl <| At_then_exit <| At_blk_other rfl <| At_then_exit <| At_blk_other rfl <| At_then_exit <| At_blk_other rfl <| At_then_exit <| At_blk_other rfl <| At_then_exit <| At_blk_other rfl <| At_then_exit <| At_blk_here <| ?_
                                        refine At_then ?_
                                        refine WC_seq ?_
                                        refine WC_seq ?_
                                        refine WC_region ?_
                                        refine WL_op (Run_move (Opd.t rfl)) rfl rfl rfl rfl <| WL_op (Run_move (Opd.t rfl)) rfl rfl rfl rfl <| WL_op (Run_mul (Opd.t rfl) (Opd.t rfl)) rfl rfl rfl rfl <| WL_op (Run_assign (Opd.t rfl)) rfl rfl rfl rfl <| ?_
                                        refine WL_nil ?_
                                        refine At_then ?_
                                        refine WC_ret ?_
                                        refine At_then_ret <| At_blk_ret <| At_then_ret <| At_blk_ret <| At_then_ret <| At_blk_ret <| At_then_ret <| ?_
                                        refine At_r1 rfl (ResIs.t rfl) ?_
                                        cases hm
                                        exact ⟨rfl, (hs.re 0 [] rfl)⟩
                                      ·
                                        replace hm := bif_f hc79 hm
                                        refine WC_skip ?_
                                        refine At_then ?_
                                        refine WC_seq ?_
                                        refine WC_seq ?_
                                        refine WC_region ?_
                                        refine WL_op (Run_eqI (Opd.t rfl) Opd.c) rfl rfl rfl rfl <| WL_op (Run_assign (Opd.t rfl)) rfl rfl rfl rfl <| ?_
                                        refine WL_nil ?_
                                        refine At_then ?_
                                        refine WC_cond (Opd.t rfl) (fun hc80 => ?_) (fun hc80 => ?_)
                                        ·
                                          replace hm := bif_t hc80 hm
                                          refine WC_exit ?_
                                          refine At_then_exit <| At_then_exit <| At_blk_other rfl <| At_then_exit <| At_blk_other rfl <| At_then_exit <| At_blk_other rfl <| At_then_exit <| At_blk_other rfl <| At_then_exit <| At_blk_other rfl <| At_then_exit <| At_blk_other rfl <| At_then_exit <| At_blk_other rfl <| At_then_exit <| At_blk_other rfl <| At_then_exit <| At_blk_other rfl <| At_then_exit <| At_blk_other rfl <| At_then_exit <| At_blk_other rfl <| At_then_exit <| At_blk_other rfl <| At_then_exit <| At_blk_other rfl <| At_then_exit <| At_blk_other rfl <| At_then_exit <| At_blk_other rfl <| At_then_exit <| At_blk_here <| ?_
                                          refine At_then ?_
                                          refine WC_seq ?_
                                          refine WC_seq ?_
                                          refine WC_region ?_
                                          refine WL_op (Run_move (Opd.t rfl)) rfl rfl rfl rfl <| WL_op (Run_move (Opd.t rfl)) rfl rfl rfl rfl <| WL_op (Run_max2 (Opd.t rfl) (Opd.t rfl) (fun _ => run_maxI _ _ _ _ _ _)) rfl rfl rfl rfl <| WL_op (Run_assign (Opd.t rfl)) rfl rfl rfl rfl <| ?_
                                          refine WL_nil ?_
                                          refine At_then ?_
                                          refine WC_ret ?_
                                          refine At_then_ret <| At_blk_ret <| At_then_ret <| At_blk_ret <| At_then_ret <| ?_
                                          refine At_r1 rfl (ResIs.t rfl) ?_
                                          cases hm
                                          exact ⟨rfl, (hs.re 0 [] rfl)⟩
                                        ·
                                          replace hm := bif_f hc80 hm
                                          refine WC_skip ?_
                                          refine At_then ?_
                                          refine WC_seq ?_
                                          refine WC_region ?_
                                          refine WL_op (Run_eqI (Opd.t rfl) Opd.c) rfl rfl rfl rfl <| WL_op (Run_assign (Opd.t rfl)) rfl rfl rfl rfl <| ?_
                                          refine WL_nil ?_
                                          refine At_then ?_
                                          refine WC_cond (Opd.t rfl) (fun hc81 => ?_) (fun hc81 => ?_)
                                          ·
                                            replace hm := bif_t hc81 hm
                                            refine WC_exit ?_
                                            refine At_then_exit <| At_blk_other rfl <| At_then_exit <| At_blk_other rfl <| At_then_exit <| At_blk_other rfl <| At_then_exit <| At_blk_other rfl <| At_then_exit <| At_blk_other rfl <| At_then_exit <| At_blk_other rfl <| At_then_exit <| At_blk_other rfl <| At_then_exit <| At_blk_other rfl <| At_then_exit <| At_blk_other rfl <| At_then_exit <| At_blk_other rfl <| At_then_exit <| At_blk_other rfl <| At_then_exit <| At_blk_other rfl <| At_then_exit <| At_blk_other rfl <| At_then_exit <| At_blk_other rfl <| At_then_exit <| At_blk_other rfl <| At_then_exit <| At_blk_other rfl <| At_then_exit <| At_blk_here <| ?_
                                            refine At_then ?_
                                            refine WC_seq ?_
                                            refine WC_seq ?_
                                            refine WC_region ?_
                                            refine WL_op (Run_move (Opd.t rfl)) rfl rfl rfl rfl <| WL_op (Run_sub Opd.c (Opd.t rfl)) rfl rfl rfl rfl <| WL_op (Run_move (Opd.t rfl)) rfl rfl rfl rfl <| WL_op (Run_max2 (Opd.t rfl) (Opd.t rfl) (fun _ => run_maxI _ _ _ _ _ _)) rfl rfl rfl rfl <| WL_op (Run_assign (Opd.t rfl)) rfl rfl rfl rfl <| ?_
                                            refine WL_nil ?_
                                            refine At_then ?_
                                            refine WC_ret ?_
                                            refine At_then_ret <| At_blk_ret <| At_then_ret <| ?_
                                            refine At_r1 rfl (ResIs.t rfl) ?_
                                            cases hm
                                            exact ⟨rfl, (hs.re 0 [] rfl)⟩
                                          ·
                                            replace hm := bif_f hc81 hm
                                            refine WC_skip ?_
                                            refine At_then ?_
                                            refine WC_exit ?_
                                            refine At_blk_other rfl <| At_then_exit <| At_blk_other rfl <| At_then_exit <| At_blk_other rfl <| At_then_exit <| At_blk_other rfl <| At_then_exit <| At_blk_other rfl <| At_then_exit <| At_blk_other rfl <| At_then_exit <| At_blk_other rfl <| At_then_exit <| At_blk_other rfl <| At_then_exit <| At_blk_other rfl <| At_then_exit <| At_blk_other rfl <| At_then_exit <| At_blk_other rfl <| At_then_exit <| At_blk_other rfl <| At_then_exit <| At_blk_other rfl <| At_then_exit <| At_blk_other rfl <| At_then_exit <| At_blk_other rfl <| At_then_exit <| At_blk_other rfl <| At_then_exit <| At_blk_other rfl <| At_then_exit <| At_blk_here <| ?_
                                            refine At_then ?_
                                            refine WC_seq ?_
                                            refine WC_region ?_
                                            refine WL_op (Run_assign Opd.c) rfl rfl rfl rfl <| ?_
                                            refine WL_nil ?_
                                            refine At_then ?_
                                            refine WC_ret ?_
                                            refine At_r1 rfl (ResIs.t rfl) ?_
                                            cases hm
                                            exact ⟨rfl, (hs.re 0 [] rfl)⟩
                        ·
                          refine WC_seq_cut (γ := Bool) (fun t83 w82 => expr_Eval_K6 e c12 c13 t83 = some r ∧ Sat (Φ) w82) (fun t83 => [(8, true, (.int .i64 c12)), (9, true, (.int .i64 c13)), (10, true, (.bool false)), (35, true, (.int .i64 e.op)), (50, true, (.bool t83))]) ?_ ?_
                          ·
                            rintro t83 w82 ⟨hm, hs⟩
                            unfold expr_Eval_K6 at hm
                            refine WC_cond (Opd.t rfl) (fun hc84 => ?_) (fun hc84 => ?_)
                            ·
                              replace hm := bif_t hc84 hm
                              refine WC_exit ?_
                              refine At_then_exit <| At_then_exit <| At_blk_other rfl <| At_then_exit <| At_blk_other rfl <| At_then_exit <| At_blk_other rfl <| At_then_exit <| At_blk_other rfl <| At_then_exit <| At_blk_other rfl <| At_then_exit <| At_blk_other rfl <| At_then_exit <| At_blk_other rfl <| At_then_exit <| At_blk_here <| ?_
                              exact At_join (c12, c13, false) ⟨hm, (hs.re 0 [] rfl)⟩ rfl
                            ·
                              replace hm := bif_f hc84 hm
                              refine WC_skip ?_
                              exact At_join () ⟨hm, (hs.re 0 [] rfl)⟩ rfl
                          ·
                            refine WC_seq ?_
                            refine WC_region ?_
                            refine WL_op (Run_eqI (Opd.t rfl) Opd.c) rfl rfl rfl rfl <| WL_op (Run_assign (Opd.t rfl)) rfl rfl rfl rfl <| ?_
                            refine WL_nil ?_
                            refine At_then ?_
                            refine WC_cond (Opd.t rfl) (fun hc85 => ?_) (fun hc85 => ?_)
                            ·
                              replace hm := bif_t hc85 hm
                              refine WC_skip ?_
                              exact At_join (e.op == 7) ⟨hm, (hs.re 5 [] rfl)⟩ rfl
                            ·
                              replace hm := bif_f hc85 hm
                              refine WC_region ?_
                              refine WL_op (Run_eqI (Opd.t rfl) Opd.c) rfl rfl rfl rfl <| WL_op (Run_assign (Opd.t rfl)) rfl rfl rfl rfl <| ?_
                              refine WL_nil ?_
                              exact At_join (e.op == 19) ⟨hm, (hs.re 5 [] rfl)⟩ rfl

set_option maxRecDepth 100000 in
set_option maxHeartbeats 4000000 in
theorem expr_Eval_ok {Φ : Ctx} {w : World} {e : Ex} {v3 : (List Int)} {v1 : SLV} {v4 : SLV} {r : Int} (hs : Sat (imm (RSl RExpr) [sl v1] e.l :: imm (RSl (RI .i64)) [sl v4] v3 :: Φ) w) (hm : expr_Eval e v3 = some r) :
    CallsR Tryd.prog 24 [(.agg #[(.int .i64 e.op), (.int .i64 e.n), (.int .i64 e.at_), (sl v1)]), (sl v4)] w (fun v w' => v = (.int .i64 r) ∧ Sat (Φ) w') := by
  have key : ∀ (N : Nat) {Φ : Ctx} {w : World} {e : Ex} {v3 : (List Int)} {v1 : SLV} {v4 : SLV} {r : Int}, Sat (imm (RSl RExpr) [sl v1] e.l :: imm (RSl (RI .i64)) [sl v4] v3 :: Φ) w → fixN (fun k (s : (Ex × (List Int))) => expr_Eval_F k s.1 s.2) N (e, v3) = some r → CallsR Tryd.prog 24 [(.agg #[(.int .i64 e.op), (.int .i64 e.n), (.int .i64 e.at_), (sl v1)]), (sl v4)] w (fun v w' => v = (.int .i64 r) ∧ Sat (Φ) w') := by
    intro N
    induction N with
    | zero => intros; rename_i h; cases h
    | succ N ih => intros; rename_i hs hm; rw [fixN_succ] at hm; exact expr_Eval_F_ok (@ih) hs hm
  unfold expr_Eval at hm
  exact key FUEL hs hm

end Go.Proofs.YtmeombbmhpcacaaDoor
