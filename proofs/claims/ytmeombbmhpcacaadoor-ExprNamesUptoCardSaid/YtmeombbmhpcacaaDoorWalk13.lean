/- Printed by a program: the walks. -/
import Derived.Test.YtmeombbmhpcacaaDoorWalk12
namespace Go.Proofs.YtmeombbmhpcacaaDoor
open Go.Proofs

set_option maxRecDepth 100000 in
set_option maxHeartbeats 4000000 in
theorem scrutinyref13_May_F_ok {k_scrutinyref13_May : (Ex × Int) → Option Bool} (ih_scrutinyref13_May : ∀ {Φ : Ctx} {w : World} {e : Ex} {vars : Int} {v1 : SLV} {r : Bool}, Sat (imm (RSl RExpr) [sl v1] e.l :: Φ) w → k_scrutinyref13_May (e, vars) = some r → CallsR Tryd.prog 18 [(.agg #[(.int .i64 e.op), (.int .i64 e.n), (.int .i64 e.at_), (sl v1)]), (.int .i64 vars)] w (fun v w' => v = (.bool r) ∧ Sat (Φ) w')) {Φ : Ctx} {w : World} {e : Ex} {vars : Int} {v1 : SLV} {r : Bool} (hs : Sat (imm (RSl RExpr) [sl v1] e.l :: Φ) w) (hm : scrutinyref13_May_F k_scrutinyref13_May e vars = some r) :
    CallsR Tryd.prog 18 [(.agg #[(.int .i64 e.op), (.int .i64 e.n), (.int .i64 e.at_), (sl v1)]), (.int .i64 vars)] w (fun v w' => v = (.bool r) ∧ Sat (Φ) w') := by
  refine CallsX_enter Tryd.func18 rfl Tryd.ntmps18 rfl ?_
  unfold scrutinyref13_May_F at hm
  refine WC_seq ?_
  refine WC_region ?_
  refine WS_box (zs := [(.int .i64 e.op), (.int .i64 e.n), (.int .i64 e.at_), (sl v1)]) hs (Opd.t rfl) rfl rfl ?_
  intro b3 w4 hs
  replace hs := Sat.n2 (Γ := Φ) hs rfl
  refine WL_op (Run_assign Opd.c) rfl rfl rfl rfl <| ?_
  refine WL_nil ?_
  refine At_then ?_
  refine WC_seq ?_
  refine WC_region ?_
  refine WL_op (Run_assign Opd.c) rfl rfl rfl rfl <| ?_
  refine WL_nil ?_
  refine At_then ?_
  refine WC_seq_cut (γ := Int) (fun want6 w5 => scrutinyref13_May_K1 k_scrutinyref13_May e vars want6 = some r ∧ Sat (box b3 24 [(.int .i64 e.op), (.int .i64 e.n), (.int .i64 e.at_), (sl v1)] :: imm (RSl RExpr) [sl v1] e.l :: Φ) w5) (fun want6 => [(1, true, (.int .i64 vars)), (2, true, (.pointer (some ⟨b3, 0, none⟩))), (5, true, (.int .i64 want6))]) ?_ ?_
  ·
    rintro want6 w5 ⟨hm, hs⟩
    unfold scrutinyref13_May_K1 at hm
    refine WC_seq ?_
    refine WC_seq ?_
    refine WC_region ?_
    refine WL_op (Run_fieldAddr fo24_0 (Opd.t rfl)) rfl rfl rfl rfl <| WL_op (Run_load1 (v := (.int .i64 e.op)) Tryd.underlying3 rfl (Opd.t rfl) (fun _ => (hs.box (i := 0) rfl).part 0 rfl)) rfl rfl rfl rfl <| ?_
    obtain ⟨b7, e8, hm⟩ := letv_some hm
    refine WL_op (Run.eqB (Run_ltI (Opd.t rfl) Opd.c) e8) rfl rfl rfl rfl <| WL_op (Run_move (Opd.t rfl)) rfl rfl rfl rfl <| WL_opG rfl rfl rfl rfl guard_neg (Run_fieldAddr fo24_0 (Opd.t rfl)) rfl rfl rfl <| WL_opG rfl rfl rfl rfl guard_neg (Run_load1 (v := (.int .i64 e.op)) Tryd.underlying3 rfl (Opd.g rfl id) (fun _ => (hs.box (i := 0) rfl).part 0 rfl)) rfl rfl rfl <| ?_
    obtain ⟨b9, e10, hm⟩ := letv_some hm
    refine WL_opG rfl rfl rfl rfl guard_neg (Run.eqB (Run_gtI (Opd.g rfl id) Opd.c) e10) rfl rfl rfl <| ?_
    obtain ⟨b11, e12, hm⟩ := letv_some hm
    refine WL_op (Run.eqB (Run_or (Opd.t rfl) (Opd.g rfl id)) e12) rfl rfl rfl rfl <| WL_op (Run_move (Opd.t rfl)) rfl rfl rfl rfl <| WL_opG rfl rfl rfl rfl guard_neg (Run_fieldAddr fo24_3 (Opd.t rfl)) rfl rfl rfl <| WL_opG rfl rfl rfl rfl guard_neg (Run_load1 (v := (sl v1)) Tryd.underlying22 rfl (Opd.g rfl id) (fun _ => (hs.box (i := 0) rfl).part 3 rfl)) rfl rfl rfl <| WL_opG rfl rfl rfl rfl guard_neg (Run_lenSlG Tryd.underlying22 (Opd.g rfl id) (fun hg => (hs.sl (i := 1) rfl).len)) rfl rfl rfl <| WL_opG rfl rfl rfl rfl guard_neg (Run_move (Opd.t rfl)) rfl rfl rfl <| ?_
    obtain ⟨b13, e14, hm⟩ := letv_some hm
    refine WL_opG rfl rfl rfl rfl guard_neg (Run.eqB (Run_neI (Opd.g rfl id) (Opd.g rfl id)) e14) rfl rfl rfl <| ?_
    obtain ⟨b15, e16, hm⟩ := letv_some hm
    refine WL_op (Run.eqB (Run_or (Opd.t rfl) (Opd.g rfl id)) e16) rfl rfl rfl rfl <| ?_
    refine WL_nil ?_
    refine At_then ?_
    refine WC_cond (Opd.t rfl) (fun hc17 => ?_) (fun hc17 => ?_)
    ·
      replace hm := bif_t hc17 hm
      refine WC_seq ?_
      refine WC_region ?_
      refine WL_op (Run_assign Opd.c) rfl rfl rfl rfl <| ?_
      refine WL_nil ?_
      refine At_then ?_
      refine WC_ret ?_
      refine At_then_ret <| ?_
      refine At_r1 rfl (ResIs.t rfl) ?_
      cases hm
      exact ⟨rfl, (hs.re 2 [] rfl)⟩
    ·
      replace hm := bif_f hc17 hm
      refine WC_skip ?_
      refine At_then ?_
      refine WC_seq ?_
      refine WC_seq ?_
      refine WC_region ?_
      refine WL_op (Run_fieldAddr fo24_0 (Opd.t rfl)) rfl rfl rfl rfl <| WL_op (Run_load1 (v := (.int .i64 e.op)) Tryd.underlying3 rfl (Opd.t rfl) (fun _ => (hs.box (i := 0) rfl).part 0 rfl)) rfl rfl rfl rfl <| ?_
      obtain ⟨b18, e19, hm⟩ := letv_some hm
      refine WL_op (Run.eqB (Run_eqI (Opd.t rfl) Opd.c) e19) rfl rfl rfl rfl <| WL_op (Run_move (Opd.t rfl)) rfl rfl rfl rfl <| WL_opG rfl rfl rfl rfl guard_pos (Run_fieldAddr fo24_1 (Opd.t rfl)) rfl rfl rfl <| WL_opG rfl rfl rfl rfl guard_pos (Run_load1 (v := (.int .i64 e.n)) Tryd.underlying3 rfl (Opd.g rfl id) (fun _ => (hs.box (i := 0) rfl).part 1 rfl)) rfl rfl rfl <| ?_
      obtain ⟨b20, e21, hm⟩ := letv_some hm
      refine WL_opG rfl rfl rfl rfl guard_pos (Run.eqB (Run_ltI (Opd.g rfl id) Opd.c) e21) rfl rfl rfl <| WL_opG rfl rfl rfl rfl guard_pos (Run_move (Opd.g rfl id)) rfl rfl rfl <| WL_opG rfl rfl rfl rfl guard_neg' (Run_fieldAddr fo24_1 (Opd.t rfl)) rfl rfl rfl <| WL_opG rfl rfl rfl rfl guard_neg' (Run_load1 (v := (.int .i64 e.n)) Tryd.underlying3 rfl (Opd.g rfl id) (fun _ => (hs.box (i := 0) rfl).part 1 rfl)) rfl rfl rfl <| ?_
      obtain ⟨b22, e23, hm⟩ := letv_some hm
      refine WL_opG rfl rfl rfl rfl guard_neg' (Run.eqB (Run_gtI (Opd.g rfl id) Opd.c) e23) rfl rfl rfl <| ?_
      obtain ⟨b24, e25, hm⟩ := letv_some hm
      refine WL_opG rfl rfl rfl rfl guard_pos (Run.eqB (Run_or (Opd.g rfl id) (Opd.g rfl id)) e25) rfl rfl rfl <| ?_
      obtain ⟨b26, e27, hm⟩ := letv_some hm
      refine WL_op (Run.eqB (Run_and (Opd.t rfl) (Opd.g rfl id)) e27) rfl rfl rfl rfl <| WL_op (Run_move (Opd.t rfl)) rfl rfl rfl rfl <| WL_opG rfl rfl rfl rfl guard_neg (Run_fieldAddr fo24_0 (Opd.t rfl)) rfl rfl rfl <| WL_opG rfl rfl rfl rfl guard_neg (Run_load1 (v := (.int .i64 e.op)) Tryd.underlying3 rfl (Opd.g rfl id) (fun _ => (hs.box (i := 0) rfl).part 0 rfl)) rfl rfl rfl <| ?_
      obtain ⟨b28, e29, hm⟩ := letv_some hm
      refine WL_opG rfl rfl rfl rfl guard_neg (Run.eqB (Run_eqI (Opd.g rfl id) Opd.c) e29) rfl rfl rfl <| WL_opG rfl rfl rfl rfl guard_neg (Run_move (Opd.g rfl id)) rfl rfl rfl <| WL_opG rfl rfl rfl rfl guard_pos' (Run_fieldAddr fo24_1 (Opd.t rfl)) rfl rfl rfl <| WL_opG rfl rfl rfl rfl guard_pos' (Run_load1 (v := (.int .i64 e.n)) Tryd.underlying3 rfl (Opd.g rfl id) (fun _ => (hs.box (i := 0) rfl).part 1 rfl)) rfl rfl rfl <| ?_
      obtain ⟨b30, e31, hm⟩ := letv_some hm
      refine WL_opG rfl rfl rfl rfl guard_pos' (Run.eqB (Run_ltI (Opd.g rfl id) Opd.c) e31) rfl rfl rfl <| WL_opG rfl rfl rfl rfl guard_pos' (Run_move (Opd.g rfl id)) rfl rfl rfl <| WL_opG rfl rfl rfl rfl guard_neg' (Run_fieldAddr fo24_1 (Opd.t rfl)) rfl rfl rfl <| WL_opG rfl rfl rfl rfl guard_neg' (Run_load1 (v := (.int .i64 e.n)) Tryd.underlying3 rfl (Opd.g rfl id) (fun _ => (hs.box (i := 0) rfl).part 1 rfl)) rfl rfl rfl <| WL_opG rfl rfl rfl rfl guard_neg' (Run_move (Opd.t rfl)) rfl rfl rfl <| ?_
      obtain ⟨b32, e33, hm⟩ := letv_some hm
      refine WL_opG rfl rfl rfl rfl guard_neg' (Run.eqB (Run_geI (Opd.g rfl id) (Opd.g rfl id)) e33) rfl rfl rfl <| ?_
      obtain ⟨b34, e35, hm⟩ := letv_some hm
      refine WL_opG rfl rfl rfl rfl guard_pos' (Run.eqB (Run_or (Opd.g rfl id) (Opd.g rfl id)) e35) rfl rfl rfl <| ?_
      obtain ⟨b36, e37, hm⟩ := letv_some hm
      refine WL_opG rfl rfl rfl rfl guard_neg (Run.eqB (Run_and (Opd.g rfl id) (Opd.g rfl id)) e37) rfl rfl rfl <| ?_
      obtain ⟨b38, e39, hm⟩ := letv_some hm
      refine WL_op (Run.eqB (Run_or (Opd.t rfl) (Opd.g rfl id)) e39) rfl rfl rfl rfl <| WL_op (Run_move (Opd.t rfl)) rfl rfl rfl rfl <| WL_opG rfl rfl rfl rfl guard_neg (Run_fieldAddr fo24_0 (Opd.t rfl)) rfl rfl rfl <| WL_opG rfl rfl rfl rfl guard_neg (Run_load1 (v := (.int .i64 e.op)) Tryd.underlying3 rfl (Opd.g rfl id) (fun _ => (hs.box (i := 0) rfl).part 0 rfl)) rfl rfl rfl <| ?_
      obtain ⟨b40, e41, hm⟩ := letv_some hm
      refine WL_opG rfl rfl rfl rfl guard_neg (Run.eqB (Run_gtI (Opd.g rfl id) Opd.c) e41) rfl rfl rfl <| WL_opG rfl rfl rfl rfl guard_neg (Run_move (Opd.g rfl id)) rfl rfl rfl <| WL_opG rfl rfl rfl rfl guard_pos' (Run_fieldAddr fo24_1 (Opd.t rfl)) rfl rfl rfl <| WL_opG rfl rfl rfl rfl guard_pos' (Run_load1 (v := (.int .i64 e.n)) Tryd.underlying3 rfl (Opd.g rfl id) (fun _ => (hs.box (i := 0) rfl).part 1 rfl)) rfl rfl rfl <| ?_
      obtain ⟨b42, e43, hm⟩ := letv_some hm
      refine WL_opG rfl rfl rfl rfl guard_pos' (Run.eqB (Run_neI (Opd.g rfl id) Opd.c) e43) rfl rfl rfl <| ?_
      obtain ⟨b44, e45, hm⟩ := letv_some hm
      refine WL_opG rfl rfl rfl rfl guard_neg (Run.eqB (Run_and (Opd.g rfl id) (Opd.g rfl id)) e45) rfl rfl rfl <| ?_
      obtain ⟨b46, e47, hm⟩ := letv_some hm
      refine WL_op (Run.eqB (Run_or (Opd.t rfl) (Opd.g rfl id)) e47) rfl rfl rfl rfl <| ?_
      refine WL_nil ?_
      refine At_then ?_
      refine WC_cond (Opd.t rfl) (fun hc48 => ?_) (fun hc48 => ?_)
      ·
        replace hm := bif_t hc48 hm
        refine WC_seq ?_
        refine WC_region ?_
        refine WL_op (Run_assign Opd.c) rfl rfl rfl rfl <| ?_
        refine WL_nil ?_
        refine At_then ?_
        refine WC_ret ?_
        refine At_then_ret <| ?_
        refine At_r1 rfl (ResIs.t rfl) ?_
        cases hm
        exact ⟨rfl, (hs.re 2 [] rfl)⟩
      ·
        replace hm := bif_f hc48 hm
        refine WC_skip ?_
        refine At_then ?_
        refine WC_seq ?_
        refine WC_seq ?_
        refine WC_region ?_
        refine WL_op (Run_assign Opd.c) rfl rfl rfl rfl <| ?_
        refine WL_nil ?_
        refine At_then ?_
        refine WC_block ?_
        refine WC_loop (σ := Int) (γ := Unit) (F := (scrutinyref13_May_L2 k_scrutinyref13_May e vars want6)) (N := FUEL) (s0 := 0) (r := r) (fun i50 (_ : Unit) w49 => Sat (box b3 24 [(.int .i64 e.op), (.int .i64 e.n), (.int .i64 e.at_), (sl v1)] :: imm (RSl RExpr) [sl v1] e.l :: Φ) w49) (fun i50 (_ : Unit) => [(1, true, (.int .i64 vars)), (2, true, (.pointer (some ⟨b3, 0, none⟩))), (5, true, (.int .i64 want6)), (6, true, (.int .i64 i50))]) hm () (hs.re 2 [0, 1] rfl) rfl ?_
        rintro again51 i50 _ w49 hm hs
        unfold scrutinyref13_May_L2 at hm
        refine WC_seq ?_
        refine WC_seq ?_
        refine WC_region ?_
        refine WL_op (Run_move (Opd.t rfl)) rfl rfl rfl rfl <| WL_op (Run_move (Opd.t rfl)) rfl rfl rfl rfl <| WL_op (Run_ltI (Opd.t rfl) (Opd.t rfl)) rfl rfl rfl rfl <| ?_
        refine WL_nil ?_
        refine At_then ?_
        refine WC_cond (Opd.t rfl) (fun hc52 => ?_) (fun hc52 => ?_)
        ·
          replace hm := bif_t hc52 hm
          refine WC_skip ?_
          refine At_then ?_
          refine WC_seq ?_
          refine WC_block ?_
          refine WC_seq ?_
          refine WC_region ?_
          refine WL_op (Run_fieldAddr fo24_3 (Opd.t rfl)) rfl rfl rfl rfl <| WL_op (Run_load1 (v := (sl v1)) Tryd.underlying22 rfl (Opd.t rfl) (fun _ => (hs.box (i := 0) rfl).part 3 rfl)) rfl rfl rfl rfl <| WL_op (Run_move (Opd.t rfl)) rfl rfl rfl rfl <| ?_
          obtain ⟨e53, he54, hm⟩ := bind_some' hm
          obtain ⟨v55, hC56, hN57, hR58⟩ := cellsM24 (g := true) (fun hg => (hs.sl (i := 1) rfl)) (fun hg => he54)
          replace hs := hs.addL [elem true (elA (sl v1) i50 4) [(.int .i64 e53.op), (.int .i64 e53.n), (.int .i64 e53.at_), (sl v55)], imm (RSl RExpr) [sl v55] e53.l] rfl ⟨fun hg => ⟨hN57 hg, hC56 hg⟩, ⟨_, rfl, hR58 rfl⟩, trivial⟩
          replace hs := Sat.n4 (Γ := Φ) hs rfl
          refine WL_op (Run_idxAddr (p := (elA (sl v1) i50 4)) Tryd.underlying22 ti24 (Opd.t rfl) (Opd.t rfl) (fun hg => (SRd.atA (A := RExpr) (v := (sl v1)) (hs.sl (i := 3) rfl) he54).1)) rfl rfl rfl rfl <| WL_op (Run_loadA (vs := [(.int .i64 e53.op), (.int .i64 e53.n), (.int .i64 e53.at_), (sl v55)]) Tryd.underlying24 rfl ti24 (Opd.t rfl) (fun hg => ((hs.elem (i := 0) rfl) hg).sub 0 rfl) rfl) rfl rfl rfl rfl <| WL_op (Run_move (Opd.t rfl)) rfl rfl rfl rfl <| ?_
          obtain ⟨r59, hr60, hm⟩ := bind_some' hm
          refine WL_call (f := 18) (first := []) (cap := []) (xs := [(.tmp 84), (.tmp 85)]) (vs := [(.agg #[(.int .i64 e53.op), (.int .i64 e53.n), (.int .i64 e53.at_), (sl v55)]), (.int .i64 vars)]) (args := [(.agg #[(.int .i64 e53.op), (.int .i64 e53.n), (.int .i64 e53.at_), (sl v55)]), (.int .i64 vars)]) Tryd.call18 Opd.f (.cons (Opd.t rfl) (.cons (Opd.t rfl) .nil)) rfl rfl (ih_scrutinyref13_May (hs.re 4 [1, 0, 1, 2, 3] rfl) hr60) ?_
          rintro _ w61 ⟨rfl, hs⟩
          replace hs := Sat.n4 (Γ := Φ) hs rfl
          refine WL_op (Run_assign (Opd.t rfl)) rfl rfl rfl rfl <| ?_
          refine WL_nil ?_
          refine At_then ?_
          refine WC_seq ?_
          refine WC_region ?_
          refine WL_op (Run_move (Opd.t rfl)) rfl rfl rfl rfl <| WL_op (Run_notB (Opd.t rfl)) rfl rfl rfl rfl <| ?_
          refine WL_nil ?_
          refine At_then ?_
          refine WC_cond (Opd.t rfl) (fun hc62 => ?_) (fun hc62 => ?_)
          ·
            replace hm := bif_t hc62 hm
            refine WC_seq ?_
            refine WC_region ?_
            refine WL_op (Run_assign Opd.c) rfl rfl rfl rfl <| ?_
            refine WL_nil ?_
            refine At_then ?_
            refine WC_ret ?_
            refine At_blk_ret <| At_then_ret <| At_then_ret <| At_blk_ret <| At_then_ret <| ?_
            refine At_r1 rfl (ResIs.t rfl) ?_
            cases hm
            exact ⟨rfl, (hs.re 4 [] rfl)⟩
          ·
            replace hm := bif_f hc62 hm
            refine WC_skip ?_
            refine At_blk_normal ?_
            refine At_then ?_
            refine WC_region ?_
            refine WL_op (Run_move (Opd.t rfl)) rfl rfl rfl rfl <| WL_op (Run_add (Opd.t rfl) Opd.c) rfl rfl rfl rfl <| WL_op (Run_assign (Opd.t rfl)) rfl rfl rfl rfl <| ?_
            refine WL_nil ?_
            exact At_again (IntKind.i64.wrap (i50 + 1)) () hm (hs.re 4 [2, 3] rfl) rfl
        ·
          replace hm := bif_f hc52 hm
          refine WC_exit ?_
          refine At_then_exit <| At_then_exit <| At_blk_here <| ?_
          refine At_then ?_
          refine WC_seq ?_
          refine WC_region ?_
          refine WL_op (Run_assign Opd.c) rfl rfl rfl rfl <| ?_
          refine WL_nil ?_
          refine At_then ?_
          refine WC_ret ?_
          refine At_r1 rfl (ResIs.t rfl) ?_
          cases hm
          exact ⟨rfl, (hs.re 2 [] rfl)⟩
  ·
    refine WC_seq ?_
    refine WC_region ?_
    refine WL_op (Run_fieldAddr fo24_0 (Opd.t rfl)) rfl rfl rfl rfl <| WL_op (Run_load1 (v := (.int .i64 e.op)) Tryd.underlying3 rfl (Opd.t rfl) (fun _ => (hs.box (i := 0) rfl).part 0 rfl)) rfl rfl rfl rfl <| ?_
    refine WL_nil ?_
    refine At_then ?_
    refine WC_block ?_
    refine WC_seq_cut (γ := Bool) (fun t64 w63 => scrutinyref13_May_K3 k_scrutinyref13_May e vars t64 = some r ∧ Sat (box b3 24 [(.int .i64 e.op), (.int .i64 e.n), (.int .i64 e.at_), (sl v1)] :: imm (RSl RExpr) [sl v1] e.l :: Φ) w63) (fun t64 => [(1, true, (.int .i64 vars)), (2, true, (.pointer (some ⟨b3, 0, none⟩))), (5, true, (.int .i64 2)), (9, true, (.int .i64 e.op)), (10, true, (.bool t64))]) ?_ ?_
    ·
      rintro t64 w63 ⟨hm, hs⟩
      unfold scrutinyref13_May_K3 at hm
      refine WC_cond (Opd.t rfl) (fun hc65 => ?_) (fun hc65 => ?_)
      ·
        replace hm := bif_t hc65 hm
        refine WC_region ?_
        refine WL_op (Run_assign Opd.c) rfl rfl rfl rfl <| ?_
        refine WL_nil ?_
        refine At_blk_normal ?_
        exact At_join 0 ⟨hm, (hs.re 2 [0, 1] rfl)⟩ rfl
      ·
        replace hm := bif_f hc65 hm
        refine WC_seq_cut (γ := Bool) (fun t67 w66 => scrutinyref13_May_K4 k_scrutinyref13_May e vars t67 = some r ∧ Sat (box b3 24 [(.int .i64 e.op), (.int .i64 e.n), (.int .i64 e.at_), (sl v1)] :: imm (RSl RExpr) [sl v1] e.l :: Φ) w66) (fun t67 => [(1, true, (.int .i64 vars)), (2, true, (.pointer (some ⟨b3, 0, none⟩))), (5, true, (.int .i64 2)), (15, true, (.bool t67))]) ?_ ?_
        ·
          rintro t67 w66 ⟨hm, hs⟩
          unfold scrutinyref13_May_K4 at hm
          refine WC_cond (Opd.t rfl) (fun hc68 => ?_) (fun hc68 => ?_)
          ·
            replace hm := bif_t hc68 hm
            refine WC_region ?_
            refine WL_op (Run_assign Opd.c) rfl rfl rfl rfl <| ?_
            refine WL_nil ?_
            refine At_blk_normal ?_
            exact At_join 1 ⟨hm, (hs.re 2 [0, 1] rfl)⟩ rfl
          ·
            replace hm := bif_f hc68 hm
            refine WC_skip ?_
            refine At_blk_normal ?_
            exact At_join 2 ⟨hm, (hs.re 2 [0, 1] rfl)⟩ rfl
        ·
          refine WC_seq ?_
          refine WC_region ?_
          refine WL_op (Run_eqI (Opd.t rfl) Opd.c) rfl rfl rfl rfl <| WL_op (Run_assign (Opd.t rfl)) rfl rfl rfl rfl <| ?_
          refine WL_nil ?_
          refine At_then ?_
          refine WC_cond (Opd.t rfl) (fun hc69 => ?_) (fun hc69 => ?_)
          ·
            replace hm := bif_t hc69 hm
            refine WC_skip ?_
            exact At_join (e.op == 6) ⟨hm, (hs.re 2 [0, 1] rfl)⟩ rfl
          ·
            replace hm := bif_f hc69 hm
            refine WC_seq ?_
            refine WC_region ?_
            refine WL_op (Run_eqI (Opd.t rfl) Opd.c) rfl rfl rfl rfl <| WL_op (Run_assign (Opd.t rfl)) rfl rfl rfl rfl <| ?_
            refine WL_nil ?_
            refine At_then ?_
            refine WC_cond (Opd.t rfl) (fun hc70 => ?_) (fun hc70 => ?_)
            ·
              replace hm := bif_t hc70 hm
              refine WC_skip ?_
              exact At_join (e.op == 15) ⟨hm, (hs.re 2 [0, 1] rfl)⟩ rfl
            ·
              replace hm := bif_f hc70 hm
              refine WC_seq ?_
              refine WC_region ?_
              refine WL_op (Run_eqI (Opd.t rfl) Opd.c) rfl rfl rfl rfl <| WL_op (Run_assign (Opd.t rfl)) rfl rfl rfl rfl <| ?_
              refine WL_nil ?_
              refine At_then ?_
              refine WC_cond (Opd.t rfl) (fun hc71 => ?_) (fun hc71 => ?_)
              ·
                replace hm := bif_t hc71 hm
                refine WC_skip ?_
                exact At_join (e.op == 20) ⟨hm, (hs.re 2 [0, 1] rfl)⟩ rfl
              ·
                replace hm := bif_f hc71 hm
                refine WC_seq ?_
                refine WC_region ?_
                refine WL_op (Run_eqI (Opd.t rfl) Opd.c) rfl rfl rfl rfl <| WL_op (Run_assign (Opd.t rfl)) rfl rfl rfl rfl <| ?_
                refine WL_nil ?_
                refine At_then ?_
                refine WC_cond (Opd.t rfl) (fun hc72 => ?_) (fun hc72 => ?_)
                ·
                  replace hm := bif_t hc72 hm
                  refine WC_skip ?_
                  exact At_join (e.op == 21) ⟨hm, (hs.re 2 [0, 1] rfl)⟩ rfl
                ·
                  replace hm := bif_f hc72 hm
                  refine WC_region ?_
                  refine WL_op (Run_eqI (Opd.t rfl) Opd.c) rfl rfl rfl rfl <| WL_op (Run_assign (Opd.t rfl)) rfl rfl rfl rfl <| ?_
                  refine WL_nil ?_
                  exact At_join (e.op == 22) ⟨hm, (hs.re 2 [0, 1] rfl)⟩ rfl
    ·
      refine WC_seq ?_
      refine WC_region ?_
      refine WL_op (Run_eqI (Opd.t rfl) Opd.c) rfl rfl rfl rfl <| WL_op (Run_assign (Opd.t rfl)) rfl rfl rfl rfl <| ?_
      refine WL_nil ?_
      refine At_then ?_
      refine WC_cond (Opd.t rfl) (fun hc73 => ?_) (fun hc73 => ?_)
      ·
        replace hm := bif_t hc73 hm
        refine WC_skip ?_
        exact At_join (e.op == 1) ⟨hm, (hs.re 2 [0, 1] rfl)⟩ rfl
      ·
        replace hm := bif_f hc73 hm
        refine WC_seq ?_
        refine WC_region ?_
        refine WL_op (Run_eqI (Opd.t rfl) Opd.c) rfl rfl rfl rfl <| WL_op (Run_assign (Opd.t rfl)) rfl rfl rfl rfl <| ?_
        refine WL_nil ?_
        refine At_then ?_
        refine WC_cond (Opd.t rfl) (fun hc74 => ?_) (fun hc74 => ?_)
        ·
          replace hm := bif_t hc74 hm
          refine WC_skip ?_
          exact At_join (e.op == 2) ⟨hm, (hs.re 2 [0, 1] rfl)⟩ rfl
        ·
          replace hm := bif_f hc74 hm
          refine WC_seq ?_
          refine WC_region ?_
          refine WL_op (Run_eqI (Opd.t rfl) Opd.c) rfl rfl rfl rfl <| WL_op (Run_assign (Opd.t rfl)) rfl rfl rfl rfl <| ?_
          refine WL_nil ?_
          refine At_then ?_
          refine WC_cond (Opd.t rfl) (fun hc75 => ?_) (fun hc75 => ?_)
          ·
            replace hm := bif_t hc75 hm
            refine WC_skip ?_
            exact At_join (e.op == 13) ⟨hm, (hs.re 2 [0, 1] rfl)⟩ rfl
          ·
            replace hm := bif_f hc75 hm
            refine WC_region ?_
            refine WL_op (Run_eqI (Opd.t rfl) Opd.c) rfl rfl rfl rfl <| WL_op (Run_assign (Opd.t rfl)) rfl rfl rfl rfl <| ?_
            refine WL_nil ?_
            exact At_join (e.op == 14) ⟨hm, (hs.re 2 [0, 1] rfl)⟩ rfl

set_option maxRecDepth 100000 in
set_option maxHeartbeats 4000000 in
theorem scrutinyref13_May_ok {Φ : Ctx} {w : World} {e : Ex} {vars : Int} {v1 : SLV} {r : Bool} (hs : Sat (imm (RSl RExpr) [sl v1] e.l :: Φ) w) (hm : scrutinyref13_May e vars = some r) :
    CallsR Tryd.prog 18 [(.agg #[(.int .i64 e.op), (.int .i64 e.n), (.int .i64 e.at_), (sl v1)]), (.int .i64 vars)] w (fun v w' => v = (.bool r) ∧ Sat (Φ) w') := by
  have key : ∀ (N : Nat) {Φ : Ctx} {w : World} {e : Ex} {vars : Int} {v1 : SLV} {r : Bool}, Sat (imm (RSl RExpr) [sl v1] e.l :: Φ) w → fixN (fun k (s : (Ex × Int)) => scrutinyref13_May_F k s.1 s.2) N (e, vars) = some r → CallsR Tryd.prog 18 [(.agg #[(.int .i64 e.op), (.int .i64 e.n), (.int .i64 e.at_), (sl v1)]), (.int .i64 vars)] w (fun v w' => v = (.bool r) ∧ Sat (Φ) w') := by
    intro N
    induction N with
    | zero => intros; rename_i h; cases h
    | succ N ih => intros; rename_i hs hm; rw [fixN_succ] at hm; exact scrutinyref13_May_F_ok (@ih) hs hm
  unfold scrutinyref13_May at hm
  exact key FUEL hs hm

set_option maxRecDepth 100000 in
set_option maxHeartbeats 4000000 in
theorem scrutinyref13_Type_F_ok {k_scrutinyref13_Type : Ex → Option (Int × Int × Int)} (ih_scrutinyref13_Type : ∀ {Φ : Ctx} {w : World} {e : Ex} {v1 : SLV} {r : (Int × Int × Int)}, Sat (imm (RSl RExpr) [sl v1] e.l :: Φ) w → k_scrutinyref13_Type e = some r → CallsR Tryd.prog 20 [(.agg #[(.int .i64 e.op), (.int .i64 e.n), (.int .i64 e.at_), (sl v1)])] w (fun v w' => v = (.tuple #[(.int .i64 r.1), (.int .i64 r.2.1), (.int .i64 r.2.2)]) ∧ Sat (Φ) w')) {Φ : Ctx} {w : World} {e : Ex} {v1 : SLV} {r : (Int × Int × Int)} (hs : Sat (imm (RSl RExpr) [sl v1] e.l :: Φ) w) (hm : scrutinyref13_Type_F k_scrutinyref13_Type e = some r) :
    CallsR Tryd.prog 20 [(.agg #[(.int .i64 e.op), (.int .i64 e.n), (.int .i64 e.at_), (sl v1)])] w (fun v w' => v = (.tuple #[(.int .i64 r.1), (.int .i64 r.2.1), (.int .i64 r.2.2)]) ∧ Sat (Φ) w') := by
  refine CallsX_enter Tryd.func20 rfl Tryd.ntmps20 rfl ?_
  unfold scrutinyref13_Type_F at hm
  refine WC_seq ?_
  refine WC_region ?_
  refine WS_box (zs := [(.int .i64 e.op), (.int .i64 e.n), (.int .i64 e.at_), (sl v1)]) hs (Opd.t rfl) rfl rfl ?_
  intro b5 w6 hs
  replace hs := Sat.n2 (Γ := Φ) hs rfl
  refine WL_op (Run_assign Opd.c) rfl rfl rfl rfl <| WL_op (Run_assign Opd.c) rfl rfl rfl rfl <| WL_op (Run_assign Opd.c) rfl rfl rfl rfl <| ?_
  refine WL_nil ?_
  refine At_then ?_
  refine WC_seq ?_
  refine WC_region ?_
  refine WL_op (Run_assign Opd.c) rfl rfl rfl rfl <| ?_
  refine WL_nil ?_
  refine At_then ?_
  refine WC_seq ?_
  refine WC_region ?_
  refine WL_op (Run_assign Opd.c) rfl rfl rfl rfl <| ?_
  refine WL_nil ?_
  refine At_then ?_
  refine WC_seq ?_
  refine WC_region ?_
  refine WL_op (Run_assign Opd.c) rfl rfl rfl rfl <| ?_
  refine WL_nil ?_
  refine At_then ?_
  refine WC_seq ?_
  refine WC_seq ?_
  refine WC_region ?_
  refine WL_op (Run_assign Opd.c) rfl rfl rfl rfl <| ?_
  refine WL_nil ?_
  refine At_then ?_
  refine WC_block ?_
  refine WC_loop (σ := Int × Int × Int × Int) (γ := Unit) (F := (scrutinyref13_Type_L1 k_scrutinyref13_Type e)) (N := FUEL) (s0 := (0, 0, 0, 0)) (r := r) (fun ⟨ints8, bools9, times10, i11⟩ (_ : Unit) w7 => Sat (box b5 24 [(.int .i64 e.op), (.int .i64 e.n), (.int .i64 e.at_), (sl v1)] :: imm (RSl RExpr) [sl v1] e.l :: Φ) w7) (fun ⟨ints8, bools9, times10, i11⟩ (_ : Unit) => [(1, true, (.pointer (some ⟨b5, 0, none⟩))), (5, true, (.int .i64 ints8)), (6, true, (.int .i64 bools9)), (7, true, (.int .i64 times10)), (8, true, (.int .i64 i11))]) hm () (hs.re 2 [0, 1] rfl) rfl ?_
  rintro again12 ⟨ints8, bools9, times10, i11⟩ _ w7 hm hs
  unfold scrutinyref13_Type_L1 at hm
  dsimp only at hm
  refine WC_seq ?_
  refine WC_seq ?_
  refine WC_region ?_
  refine WL_op (Run_move (Opd.t rfl)) rfl rfl rfl rfl <| WL_op (Run_fieldAddr fo24_3 (Opd.t rfl)) rfl rfl rfl rfl <| WL_op (Run_load1 (v := (sl v1)) Tryd.underlying22 rfl (Opd.t rfl) (fun _ => (hs.box (i := 0) rfl).part 3 rfl)) rfl rfl rfl rfl <| WL_op (Run_lenSlG Tryd.underlying22 (Opd.t rfl) (fun hg => (hs.sl (i := 1) rfl).len)) rfl rfl rfl rfl <| WL_op (Run_ltI (Opd.t rfl) (Opd.t rfl)) rfl rfl rfl rfl <| ?_
  refine WL_nil ?_
  refine At_then ?_
  refine WC_cond (Opd.t rfl) (fun hc13 => ?_) (fun hc13 => ?_)
  ·
    replace hm := bif_t hc13 hm
    refine WC_skip ?_
    refine At_then ?_
    refine WC_seq ?_
    refine WC_block ?_
    refine WC_seq ?_
    refine WC_region ?_
    refine WL_op (Run_fieldAddr fo24_3 (Opd.t rfl)) rfl rfl rfl rfl <| WL_op (Run_load1 (v := (sl v1)) Tryd.underlying22 rfl (Opd.t rfl) (fun _ => (hs.box (i := 0) rfl).part 3 rfl)) rfl rfl rfl rfl <| WL_op (Run_move (Opd.t rfl)) rfl rfl rfl rfl <| ?_
    obtain ⟨e14, he15, hm⟩ := bind_some' hm
    obtain ⟨v16, hC17, hN18, hR19⟩ := cellsM24 (g := true) (fun hg => (hs.sl (i := 1) rfl)) (fun hg => he15)
    replace hs := hs.addL [elem true (elA (sl v1) i11 4) [(.int .i64 e14.op), (.int .i64 e14.n), (.int .i64 e14.at_), (sl v16)], imm (RSl RExpr) [sl v16] e14.l] rfl ⟨fun hg => ⟨hN18 hg, hC17 hg⟩, ⟨_, rfl, hR19 rfl⟩, trivial⟩
    replace hs := Sat.n4 (Γ := Φ) hs rfl
    refine WL_op (Run_idxAddr (p := (elA (sl v1) i11 4)) Tryd.underlying22 ti24 (Opd.t rfl) (Opd.t rfl) (fun hg => (SRd.atA (A := RExpr) (v := (sl v1)) (hs.sl (i := 3) rfl) he15).1)) rfl rfl rfl rfl <| WL_op (Run_loadA (vs := [(.int .i64 e14.op), (.int .i64 e14.n), (.int .i64 e14.at_), (sl v16)]) Tryd.underlying24 rfl ti24 (Opd.t rfl) (fun hg => ((hs.elem (i := 0) rfl) hg).sub 0 rfl) rfl) rfl rfl rfl rfl <| ?_
    obtain ⟨r20, hr21, hm⟩ := bind_some' hm
    refine WL_call (f := 20) (first := []) (cap := []) (xs := [(.tmp 25)]) (vs := [(.agg #[(.int .i64 e14.op), (.int .i64 e14.n), (.int .i64 e14.at_), (sl v16)])]) (args := [(.agg #[(.int .i64 e14.op), (.int .i64 e14.n), (.int .i64 e14.at_), (sl v16)])]) Tryd.call20 Opd.f (.cons (Opd.t rfl) .nil) rfl rfl (ih_scrutinyref13_Type (hs.re 4 [1, 0, 1, 2, 3] rfl) hr21) ?_
    rintro _ w22 ⟨rfl, hs⟩
    replace hs := Sat.n4 (Γ := Φ) hs rfl
    refine WL_op (Run_move (Opd.t rfl)) rfl rfl rfl rfl <| WL_op (Run_extract (vs := [(.int .i64 r20.1), (.int .i64 r20.2.1), (.int .i64 r20.2.2)]) (Opd.t rfl) rfl) rfl rfl rfl rfl <| WL_op (Run_extract (vs := [(.int .i64 r20.1), (.int .i64 r20.2.1), (.int .i64 r20.2.2)]) (Opd.t rfl) rfl) rfl rfl rfl rfl <| WL_op (Run_extract (vs := [(.int .i64 r20.1), (.int .i64 r20.2.1), (.int .i64 r20.2.2)]) (Opd.t rfl) rfl) rfl rfl rfl rfl <| WL_op (Run_assign (Opd.t rfl)) rfl rfl rfl rfl <| WL_op (Run_assign (Opd.t rfl)) rfl rfl rfl rfl <| WL_op (Run_assign (Opd.t rfl)) rfl rfl rfl rfl <| ?_
    refine WL_nil ?_
    refine At_then ?_
    refine WC_seq ?_
    refine WC_seq ?_
    refine WC_region ?_
    refine WL_op (Run_move (Opd.t rfl)) rfl rfl rfl rfl <| WL_op (Run_neI (Opd.t rfl) Opd.c) rfl rfl rfl rfl <| ?_
    refine WL_nil ?_
    refine At_then ?_
    refine WC_cond (Opd.t rfl) (fun hc23 => ?_) (fun hc23 => ?_)
    ·
      replace hm := bif_t hc23 hm
      refine WC_seq ?_
      refine WC_region ?_
      refine WL_op (Run_move (Opd.t rfl)) rfl rfl rfl rfl <| WL_op (Run_move (Opd.t rfl)) rfl rfl rfl rfl <| WL_op (Run_assign Opd.c) rfl rfl rfl rfl <| WL_op (Run_assign (Opd.t rfl)) rfl rfl rfl rfl <| WL_op (Run_assign (Opd.t rfl)) rfl rfl rfl rfl <| ?_
      refine WL_nil ?_
      refine At_then ?_
      refine WC_ret ?_
      refine At_then_ret <| At_blk_ret <| At_then_ret <| At_then_ret <| At_blk_ret <| At_then_ret <| ?_
      refine At_r3 rfl (ResIs.t rfl) (ResIs.t rfl) (ResIs.t rfl) ?_
      cases hm
      exact ⟨rfl, (hs.re 4 [] rfl)⟩
    ·
      replace hm := bif_f hc23 hm
      refine WC_skip ?_
      refine At_then ?_
      refine WC_seq_cut (γ := Int) (fun ints25 w24 => scrutinyref13_Type_K2 bools9 times10 i11 again12 r20 ints25 = some r ∧ Sat (box b5 24 [(.int .i64 e.op), (.int .i64 e.n), (.int .i64 e.at_), (sl v1)] :: imm (RSl RExpr) [sl v1] e.l :: Φ) w24) (fun ints25 => [(1, true, (.pointer (some ⟨b5, 0, none⟩))), (5, true, (.int .i64 ints25)), (6, true, (.int .i64 bools9)), (7, true, (.int .i64 times10)), (8, true, (.int .i64 i11)), (9, true, (.int .i64 r20.1))]) ?_ ?_
      ·
        rintro ints25 w24 ⟨hm, hs⟩
        unfold scrutinyref13_Type_K2 at hm
        refine WC_seq_cut (γ := Int) (fun bools27 w26 => scrutinyref13_Type_K3 times10 i11 again12 r20 ints25 bools27 = some r ∧ Sat (box b5 24 [(.int .i64 e.op), (.int .i64 e.n), (.int .i64 e.at_), (sl v1)] :: imm (RSl RExpr) [sl v1] e.l :: Φ) w26) (fun bools27 => [(1, true, (.pointer (some ⟨b5, 0, none⟩))), (5, true, (.int .i64 ints25)), (6, true, (.int .i64 bools27)), (7, true, (.int .i64 times10)), (8, true, (.int .i64 i11)), (9, true, (.int .i64 r20.1))]) ?_ ?_
        ·
          rintro bools27 w26 ⟨hm, hs⟩
          unfold scrutinyref13_Type_K3 at hm
          refine WC_seq ?_
          refine WC_region ?_
          refine WL_op (Run_move (Opd.t rfl)) rfl rfl rfl rfl <| WL_op (Run_eqI (Opd.t rfl) Opd.c) rfl rfl rfl rfl <| ?_
          refine WL_nil ?_
          refine At_then ?_
          refine WC_cond (Opd.t rfl) (fun hc28 => ?_) (fun hc28 => ?_)
          ·
            replace hm := bif_t hc28 hm
            refine WC_region ?_
            refine WL_op (Run_move (Opd.t rfl)) rfl rfl rfl rfl <| WL_op (Run_add (Opd.t rfl) Opd.c) rfl rfl rfl rfl <| WL_op (Run_assign (Opd.t rfl)) rfl rfl rfl rfl <| ?_
            refine WL_nil ?_
            refine At_blk_normal ?_
            refine At_then ?_
            refine WC_region ?_
            refine WL_op (Run_move (Opd.t rfl)) rfl rfl rfl rfl <| WL_op (Run_add (Opd.t rfl) Opd.c) rfl rfl rfl rfl <| WL_op (Run_assign (Opd.t rfl)) rfl rfl rfl rfl <| ?_
            refine WL_nil ?_
            exact At_again (ints25, bools27, (IntKind.i64.wrap (times10 + 1)), (IntKind.i64.wrap (i11 + 1))) () hm (hs.re 2 [0, 1] rfl) rfl
          ·
            replace hm := bif_f hc28 hm
            refine WC_skip ?_
            refine At_blk_normal ?_
            refine At_then ?_
            refine WC_region ?_
            refine WL_op (Run_move (Opd.t rfl)) rfl rfl rfl rfl <| WL_op (Run_add (Opd.t rfl) Opd.c) rfl rfl rfl rfl <| WL_op (Run_assign (Opd.t rfl)) rfl rfl rfl rfl <| ?_
            refine WL_nil ?_
            exact At_again (ints25, bools27, times10, (IntKind.i64.wrap (i11 + 1))) () hm (hs.re 2 [0, 1] rfl) rfl
        ·
          refine WC_seq ?_
          refine WC_region ?_
          refine WL_op (Run_move (Opd.t rfl)) rfl rfl rfl rfl <| WL_op (Run_eqI (Opd.t rfl) Opd.c) rfl rfl rfl rfl <| ?_
          refine WL_nil ?_
          refine At_then ?_
          refine WC_cond (Opd.t rfl) (fun hc29 => ?_) (fun hc29 => ?_)
          ·
            replace hm := bif_t hc29 hm
            refine WC_region ?_
            refine WL_op (Run_move (Opd.t rfl)) rfl rfl rfl rfl <| WL_op (Run_add (Opd.t rfl) Opd.c) rfl rfl rfl rfl <| WL_op (Run_assign (Opd.t rfl)) rfl rfl rfl rfl <| ?_
            refine WL_nil ?_
            exact At_join (IntKind.i64.wrap (bools9 + 1)) ⟨hm, (hs.re 2 [0, 1] rfl)⟩ rfl
          ·
            replace hm := bif_f hc29 hm
            refine WC_skip ?_
            exact At_join bools9 ⟨hm, (hs.re 2 [0, 1] rfl)⟩ rfl
      ·
        refine WC_seq ?_
        refine WC_region ?_
        refine WL_op (Run_move (Opd.t rfl)) rfl rfl rfl rfl <| WL_op (Run_eqI (Opd.t rfl) Opd.c) rfl rfl rfl rfl <| ?_
        refine WL_nil ?_
        refine At_then ?_
        refine WC_cond (Opd.t rfl) (fun hc30 => ?_) (fun hc30 => ?_)
        ·
          replace hm := bif_t hc30 hm
          refine WC_region ?_
          refine WL_op (Run_move (Opd.t rfl)) rfl rfl rfl rfl <| WL_op (Run_add (Opd.t rfl) Opd.c) rfl rfl rfl rfl <| WL_op (Run_assign (Opd.t rfl)) rfl rfl rfl rfl <| ?_
          refine WL_nil ?_
          exact At_join (IntKind.i64.wrap (ints8 + 1)) ⟨hm, (hs.re 4 [2, 3] rfl)⟩ rfl
        ·
          replace hm := bif_f hc30 hm
          refine WC_skip ?_
          exact At_join ints8 ⟨hm, (hs.re 4 [2, 3] rfl)⟩ rfl
  ·
    replace hm := bif_f hc13 hm
    refine WC_exit ?_
    refine At_then_exit <| At_then_exit <| At_blk_here <| ?_
    refine At_then ?_
    refine WC_seq ?_
    refine WC_region ?_
    refine WL_op (Run_fieldAddr fo24_3 (Opd.t rfl)) rfl rfl rfl rfl <| WL_op (Run_load1 (v := (sl v1)) Tryd.underlying22 rfl (Opd.t rfl) (fun _ => (hs.box (i := 0) rfl).part 3 rfl)) rfl rfl rfl rfl <| WL_op (Run_lenSlG Tryd.underlying22 (Opd.t rfl) (fun hg => (hs.sl (i := 1) rfl).len)) rfl rfl rfl rfl <| WL_op (Run_assign (Opd.t rfl)) rfl rfl rfl rfl <| ?_
    refine WL_nil ?_
    refine At_then ?_
    refine WC_seq ?_
    refine WC_seq ?_
    refine WC_region ?_
    refine WL_op (Run_fieldAddr fo24_0 (Opd.t rfl)) rfl rfl rfl rfl <| WL_op (Run_load1 (v := (.int .i64 e.op)) Tryd.underlying3 rfl (Opd.t rfl) (fun _ => (hs.box (i := 0) rfl).part 0 rfl)) rfl rfl rfl rfl <| ?_
    obtain ⟨b31, e32, hm⟩ := letv_some hm
    refine WL_op (Run.eqB (Run_leI (Opd.t rfl) Opd.c) e32) rfl rfl rfl rfl <| WL_op (Run_move (Opd.t rfl)) rfl rfl rfl rfl <| WL_opG rfl rfl rfl rfl guard_pos (Run_move (Opd.t rfl)) rfl rfl rfl <| WL_opG rfl rfl rfl rfl guard_pos (Run_move (Opd.t rfl)) rfl rfl rfl <| ?_
    obtain ⟨b33, e34, hm⟩ := letv_some hm
    refine WL_opG rfl rfl rfl rfl guard_pos (Run.eqB (Run_eqI (Opd.g rfl id) (Opd.g rfl id)) e34) rfl rfl rfl <| ?_
    obtain ⟨b35, e36, hm⟩ := letv_some hm
    refine WL_op (Run.eqB (Run_and (Opd.t rfl) (Opd.g rfl id)) e36) rfl rfl rfl rfl <| ?_
    refine WL_nil ?_
    refine At_then ?_
    refine WC_cond (Opd.t rfl) (fun hc37 => ?_) (fun hc37 => ?_)
    ·
      replace hm := bif_t hc37 hm
      refine WC_seq ?_
      refine WC_region ?_
      refine WL_op (Run_assign Opd.c) rfl rfl rfl rfl <| WL_op (Run_assign Opd.c) rfl rfl rfl rfl <| WL_op (Run_assign Opd.c) rfl rfl rfl rfl <| ?_
      refine WL_nil ?_
      refine At_then ?_
      refine WC_ret ?_
      refine At_then_ret <| ?_
      refine At_r3 rfl (ResIs.t rfl) (ResIs.t rfl) (ResIs.t rfl) ?_
      cases hm
      exact ⟨rfl, (hs.re 2 [] rfl)⟩
    ·
      replace hm := bif_f hc37 hm
      refine WC_skip ?_
      refine At_then ?_
      refine WC_seq ?_
      refine WC_seq ?_
      refine WC_region ?_
      refine WL_op (Run_fieldAddr fo24_0 (Opd.t rfl)) rfl rfl rfl rfl <| WL_op (Run_load1 (v := (.int .i64 e.op)) Tryd.underlying3 rfl (Opd.t rfl) (fun _ => (hs.box (i := 0) rfl).part 0 rfl)) rfl rfl rfl rfl <| ?_
      obtain ⟨b38, e39, hm⟩ := letv_some hm
      refine WL_op (Run.eqB (Run_geI (Opd.t rfl) Opd.c) e39) rfl rfl rfl rfl <| WL_op (Run_move (Opd.t rfl)) rfl rfl rfl rfl <| WL_opG rfl rfl rfl rfl guard_pos (Run_fieldAddr fo24_0 (Opd.t rfl)) rfl rfl rfl <| WL_opG rfl rfl rfl rfl guard_pos (Run_load1 (v := (.int .i64 e.op)) Tryd.underlying3 rfl (Opd.g rfl id) (fun _ => (hs.box (i := 0) rfl).part 0 rfl)) rfl rfl rfl <| ?_
      obtain ⟨b40, e41, hm⟩ := letv_some hm
      refine WL_opG rfl rfl rfl rfl guard_pos (Run.eqB (Run_leI (Opd.g rfl id) Opd.c) e41) rfl rfl rfl <| ?_
      obtain ⟨b42, e43, hm⟩ := letv_some hm
      refine WL_op (Run.eqB (Run_and (Opd.t rfl) (Opd.g rfl id)) e43) rfl rfl rfl rfl <| WL_op (Run_move (Opd.t rfl)) rfl rfl rfl rfl <| WL_opG rfl rfl rfl rfl guard_pos (Run_move (Opd.t rfl)) rfl rfl rfl <| WL_opG rfl rfl rfl rfl guard_pos (Run_move (Opd.t rfl)) rfl rfl rfl <| ?_
      obtain ⟨b44, e45, hm⟩ := letv_some hm
      refine WL_opG rfl rfl rfl rfl guard_pos (Run.eqB (Run_eqI (Opd.g rfl id) (Opd.g rfl id)) e45) rfl rfl rfl <| ?_
      obtain ⟨b46, e47, hm⟩ := letv_some hm
      refine WL_op (Run.eqB (Run_and (Opd.t rfl) (Opd.g rfl id)) e47) rfl rfl rfl rfl <| WL_op (Run_move (Opd.t rfl)) rfl rfl rfl rfl <| WL_opG rfl rfl rfl rfl guard_neg (Run_fieldAddr fo24_0 (Opd.t rfl)) rfl rfl rfl <| WL_opG rfl rfl rfl rfl guard_neg (Run_load1 (v := (.int .i64 e.op)) Tryd.underlying3 rfl (Opd.g rfl id) (fun _ => (hs.box (i := 0) rfl).part 0 rfl)) rfl rfl rfl <| ?_
      obtain ⟨b48, e49, hm⟩ := letv_some hm
      refine WL_opG rfl rfl rfl rfl guard_neg (Run.eqB (Run_eqI (Opd.g rfl id) Opd.c) e49) rfl rfl rfl <| ?_
      obtain ⟨b50, e51, hm⟩ := letv_some hm
      refine WL_op (Run.eqB (Run_or (Opd.t rfl) (Opd.g rfl id)) e51) rfl rfl rfl rfl <| WL_op (Run_move (Opd.t rfl)) rfl rfl rfl rfl <| WL_opG rfl rfl rfl rfl guard_neg (Run_fieldAddr fo24_0 (Opd.t rfl)) rfl rfl rfl <| WL_opG rfl rfl rfl rfl guard_neg (Run_load1 (v := (.int .i64 e.op)) Tryd.underlying3 rfl (Opd.g rfl id) (fun _ => (hs.box (i := 0) rfl).part 0 rfl)) rfl rfl rfl <| ?_
      obtain ⟨b52, e53, hm⟩ := letv_some hm
      refine WL_opG rfl rfl rfl rfl guard_neg (Run.eqB (Run_eqI (Opd.g rfl id) Opd.c) e53) rfl rfl rfl <| ?_
      obtain ⟨b54, e55, hm⟩ := letv_some hm
      refine WL_op (Run.eqB (Run_or (Opd.t rfl) (Opd.g rfl id)) e55) rfl rfl rfl rfl <| ?_
      refine WL_nil ?_
      refine At_then ?_
      refine WC_cond (Opd.t rfl) (fun hc56 => ?_) (fun hc56 => ?_)
      ·
        replace hm := bif_t hc56 hm
        refine WC_seq ?_
        refine WC_region ?_
        refine WL_op (Run_assign Opd.c) rfl rfl rfl rfl <| WL_op (Run_assign Opd.c) rfl rfl rfl rfl <| WL_op (Run_assign Opd.c) rfl rfl rfl rfl <| ?_
        refine WL_nil ?_
        refine At_then ?_
        refine WC_ret ?_
        refine At_then_ret <| ?_
        refine At_r3 rfl (ResIs.t rfl) (ResIs.t rfl) (ResIs.t rfl) ?_
        cases hm
        exact ⟨rfl, (hs.re 2 [] rfl)⟩
      ·
        replace hm := bif_f hc56 hm
        refine WC_skip ?_
        refine At_then ?_
        refine WC_seq ?_
        refine WC_seq ?_
        refine WC_region ?_
        refine WL_op (Run_fieldAddr fo24_0 (Opd.t rfl)) rfl rfl rfl rfl <| WL_op (Run_load1 (v := (.int .i64 e.op)) Tryd.underlying3 rfl (Opd.t rfl) (fun _ => (hs.box (i := 0) rfl).part 0 rfl)) rfl rfl rfl rfl <| ?_
        obtain ⟨b57, e58, hm⟩ := letv_some hm
        refine WL_op (Run.eqB (Run_geI (Opd.t rfl) Opd.c) e58) rfl rfl rfl rfl <| WL_op (Run_move (Opd.t rfl)) rfl rfl rfl rfl <| WL_opG rfl rfl rfl rfl guard_pos (Run_fieldAddr fo24_0 (Opd.t rfl)) rfl rfl rfl <| WL_opG rfl rfl rfl rfl guard_pos (Run_load1 (v := (.int .i64 e.op)) Tryd.underlying3 rfl (Opd.g rfl id) (fun _ => (hs.box (i := 0) rfl).part 0 rfl)) rfl rfl rfl <| ?_
        obtain ⟨b59, e60, hm⟩ := letv_some hm
        refine WL_opG rfl rfl rfl rfl guard_pos (Run.eqB (Run_leI (Opd.g rfl id) Opd.c) e60) rfl rfl rfl <| ?_
        obtain ⟨b61, e62, hm⟩ := letv_some hm
        refine WL_op (Run.eqB (Run_and (Opd.t rfl) (Opd.g rfl id)) e62) rfl rfl rfl rfl <| WL_op (Run_move (Opd.t rfl)) rfl rfl rfl rfl <| WL_opG rfl rfl rfl rfl guard_pos (Run_move (Opd.t rfl)) rfl rfl rfl <| WL_opG rfl rfl rfl rfl guard_pos (Run_move (Opd.t rfl)) rfl rfl rfl <| ?_
        obtain ⟨b63, e64, hm⟩ := letv_some hm
        refine WL_opG rfl rfl rfl rfl guard_pos (Run.eqB (Run_eqI (Opd.g rfl id) (Opd.g rfl id)) e64) rfl rfl rfl <| ?_
        obtain ⟨b65, e66, hm⟩ := letv_some hm
        refine WL_op (Run.eqB (Run_and (Opd.t rfl) (Opd.g rfl id)) e66) rfl rfl rfl rfl <| ?_
        refine WL_nil ?_
        refine At_then ?_
        refine WC_cond (Opd.t rfl) (fun hc67 => ?_) (fun hc67 => ?_)
        ·
          replace hm := bif_t hc67 hm
          refine WC_seq ?_
          refine WC_region ?_
          refine WL_op (Run_assign Opd.c) rfl rfl rfl rfl <| WL_op (Run_assign Opd.c) rfl rfl rfl rfl <| WL_op (Run_assign Opd.c) rfl rfl rfl rfl <| ?_
          refine WL_nil ?_
          refine At_then ?_
          refine WC_ret ?_
          refine At_then_ret <| ?_
          refine At_r3 rfl (ResIs.t rfl) (ResIs.t rfl) (ResIs.t rfl) ?_
          cases hm
          exact ⟨rfl, (hs.re 2 [] rfl)⟩
        ·
          replace hm := bif_f hc67 hm
          refine WC_skip ?_
          refine At_then ?_
          refine WC_seq ?_
          refine WC_seq ?_
          refine WC_region ?_
          refine WL_op (Run_fieldAddr fo24_0 (Opd.t rfl)) rfl rfl rfl rfl <| WL_op (Run_load1 (v := (.int .i64 e.op)) Tryd.underlying3 rfl (Opd.t rfl) (fun _ => (hs.box (i := 0) rfl).part 0 rfl)) rfl rfl rfl rfl <| ?_
          obtain ⟨b68, e69, hm⟩ := letv_some hm
          refine WL_op (Run.eqB (Run_geI (Opd.t rfl) Opd.c) e69) rfl rfl rfl rfl <| WL_op (Run_move (Opd.t rfl)) rfl rfl rfl rfl <| WL_opG rfl rfl rfl rfl guard_pos (Run_move (Opd.t rfl)) rfl rfl rfl <| WL_opG rfl rfl rfl rfl guard_pos (Run_move (Opd.t rfl)) rfl rfl rfl <| WL_opG rfl rfl rfl rfl guard_pos (Run_add (Opd.g rfl id) (Opd.g rfl id)) rfl rfl rfl <| WL_opG rfl rfl rfl rfl guard_pos (Run_move (Opd.t rfl)) rfl rfl rfl <| ?_
          obtain ⟨b70, e71, hm⟩ := letv_some hm
          refine WL_opG rfl rfl rfl rfl guard_pos (Run.eqB (Run_eqI (Opd.g rfl id) (Opd.g rfl id)) e71) rfl rfl rfl <| ?_
          obtain ⟨b72, e73, hm⟩ := letv_some hm
          refine WL_op (Run.eqB (Run_and (Opd.t rfl) (Opd.g rfl id)) e73) rfl rfl rfl rfl <| ?_
          refine WL_nil ?_
          refine At_then ?_
          refine WC_cond (Opd.t rfl) (fun hc74 => ?_) (fun hc74 => ?_)
          ·
            replace hm := bif_t hc74 hm
            refine WC_seq ?_
            refine WC_region ?_
            refine WL_op (Run_assign Opd.c) rfl rfl rfl rfl <| WL_op (Run_assign Opd.c) rfl rfl rfl rfl <| WL_op (Run_assign Opd.c) rfl rfl rfl rfl <| ?_
            refine WL_nil ?_
            refine At_then ?_
            refine WC_ret ?_
            refine At_then_ret <| ?_
            refine At_r3 rfl (ResIs.t rfl) (ResIs.t rfl) (ResIs.t rfl) ?_
            cases hm
            exact ⟨rfl, (hs.re 2 [] rfl)⟩
          ·
            replace hm := bif_f hc74 hm
            refine WC_skip ?_
            refine At_then ?_
            refine WC_seq ?_
            refine WC_region_mixed [0, 1, 0, 4, 15] (.q 0 0 (.q 1 1 (.q 2 3 (.q 3 7 (.q 4 15 .nil))))) (by kernel_rfl) (by kernel_rfl) ?_
            intro w75 hx76
            replace hs := hs.ext hx76
            refine WD_pure (fun _ => (Run_fieldAddr fo24_2 (Opd.t rfl))) rfl rfl rfl rfl <| WD_op (fun w => CellsAt w ⟨b5, 2, none⟩ [(.int .i64 e.at_)]) ((hs.box (i := 0) rfl).part 2 rfl) (fun _ hJ => (Run_load1 (v := (.int .i64 e.at_)) Tryd.underlying3 rfl (Opd.t rfl) (fun _ => hJ))) rfl rfl rfl rfl <| WD_pure (fun _ => (Run_assign Opd.c)) rfl rfl rfl rfl <| WD_pure (fun _ => (Run_assign Opd.c)) rfl rfl rfl rfl <| WD_pure (fun _ => (Run_assign (Opd.t rfl))) rfl rfl rfl rfl <| ?_
            refine WD_nil ?_
            refine At_then ?_
            refine WC_ret ?_
            refine At_r3 rfl (ResIs.t rfl) (ResIs.t rfl) (ResIs.t rfl) ?_
            cases hm
            exact ⟨rfl, (hs.re 2 [] rfl)⟩

set_option maxRecDepth 100000 in
set_option maxHeartbeats 4000000 in
theorem scrutinyref13_Type_ok {Φ : Ctx} {w : World} {e : Ex} {v1 : SLV} {r : (Int × Int × Int)} (hs : Sat (imm (RSl RExpr) [sl v1] e.l :: Φ) w) (hm : scrutinyref13_Type e = some r) :
    CallsR Tryd.prog 20 [(.agg #[(.int .i64 e.op), (.int .i64 e.n), (.int .i64 e.at_), (sl v1)])] w (fun v w' => v = (.tuple #[(.int .i64 r.1), (.int .i64 r.2.1), (.int .i64 r.2.2)]) ∧ Sat (Φ) w') := by
  have key : ∀ (N : Nat) {Φ : Ctx} {w : World} {e : Ex} {v1 : SLV} {r : (Int × Int × Int)}, Sat (imm (RSl RExpr) [sl v1] e.l :: Φ) w → fixN (fun k (s : Ex) => scrutinyref13_Type_F k s) N e = some r → CallsR Tryd.prog 20 [(.agg #[(.int .i64 e.op), (.int .i64 e.n), (.int .i64 e.at_), (sl v1)])] w (fun v w' => v = (.tuple #[(.int .i64 r.1), (.int .i64 r.2.1), (.int .i64 r.2.2)]) ∧ Sat (Φ) w') := by
    intro N
    induction N with
    | zero => intros; rename_i h; cases h
    | succ N ih => intros; rename_i hs hm; rw [fixN_succ] at hm; exact scrutinyref13_Type_F_ok (@ih) hs hm
  unfold scrutinyref13_Type at hm
  exact key FUEL hs hm

set_option maxRecDepth 100000 in
set_option maxHeartbeats 4000000 in
theorem scrutinyref13_digits_F_ok {k_scrutinyref13_digits : Int → Option Str} (ih_scrutinyref13_digits : ∀ {Φ : Ctx} {w : World} {n : Int} {r : Str}, Sat (Φ) w → k_scrutinyref13_digits n = some r → CallsR Tryd.prog 37 [(.int .i64 n)] w (fun v w' => v = (S r) ∧ Sat (Φ) w')) {Φ : Ctx} {w : World} {n : Int} {r : Str} (hs : Sat (Φ) w) (hm : scrutinyref13_digits_F k_scrutinyref13_digits n = some r) :
    CallsR Tryd.prog 37 [(.int .i64 n)] w (fun v w' => v = (S r) ∧ Sat (Φ) w') := by
  refine CallsX_enter Tryd.func37 rfl Tryd.ntmps37 rfl ?_
  unfold scrutinyref13_digits_F at hm
  refine WC_seq ?_
  refine WC_region ?_
  refine WL_op (Run_assign Opd.c) rfl rfl rfl rfl <| ?_
  refine WL_nil ?_
  refine At_then ?_
  refine WC_seq ?_
  refine WC_seq ?_
  refine WC_region ?_
  refine WL_op (Run_move (Opd.t rfl)) rfl rfl rfl rfl <| WL_op (Run_ltI (Opd.t rfl) Opd.c) rfl rfl rfl rfl <| ?_
  refine WL_nil ?_
  refine At_then ?_
  refine WC_cond (Opd.t rfl) (fun hc3 => ?_) (fun hc3 => ?_)
  ·
    replace hm := bif_t hc3 hm
    refine WC_seq ?_
    refine WC_region ?_
    refine WL_op (Run_move (Opd.t rfl)) rfl rfl rfl rfl <| WL_op (Run_move (Opd.t rfl)) rfl rfl rfl rfl <| WL_op (Run_add (Opd.t rfl) Opd.c) rfl rfl rfl rfl <| ?_
    obtain ⟨k4, hm⟩ := chk_some hm
    refine WL_op (Run_cutS (lo := (some (.tmp 5))) (hi := (some (.tmp 7))) Tryd.underlying9 Opd.c ⟨_, (Opd.t rfl)⟩ ⟨_, (Opd.t rfl)⟩ (fun _ => k4)) rfl rfl rfl rfl <| WL_op (Run_assign (Opd.t rfl)) rfl rfl rfl rfl <| ?_
    refine WL_nil ?_
    refine At_then ?_
    refine WC_ret ?_
    refine At_then_ret <| ?_
    refine At_r1 rfl (ResIs.t rfl) ?_
    cases hm
    exact ⟨rfl, (hs.re 0 [] rfl)⟩
  ·
    replace hm := bif_f hc3 hm
    refine WC_skip ?_
    refine At_then ?_
    refine WC_seq ?_
    refine WC_region ?_
    refine WL_op (Run_move (Opd.t rfl)) rfl rfl rfl rfl <| WL_op (Run_quo (Opd.t rfl) Opd.c (by rfl)) rfl rfl rfl rfl <| ?_
    obtain ⟨r5, hr6, hm⟩ := bind_some' hm
    refine WL_call (f := 37) (first := []) (cap := []) (xs := [(.tmp 10)]) (vs := [(.int .i64 (IntKind.i64.wrap (Int.tdiv n 10)))]) (args := [(.int .i64 (IntKind.i64.wrap (Int.tdiv n 10)))]) Tryd.call37 Opd.f (.cons (Opd.t rfl) .nil) rfl rfl (ih_scrutinyref13_digits (hs.re 0 [] rfl) hr6) ?_
    rintro _ w7 ⟨rfl, hs⟩
    refine WL_op (Run_move (Opd.t rfl)) rfl rfl rfl rfl <| WL_op (Run_rem (Opd.t rfl) Opd.c (by rfl)) rfl rfl rfl rfl <| ?_
    obtain ⟨r8, hr9, hm⟩ := bind_some' hm
    refine WL_call (f := 37) (first := []) (cap := []) (xs := [(.tmp 13)]) (vs := [(.int .i64 (Int.tmod n 10))]) (args := [(.int .i64 (Int.tmod n 10))]) Tryd.call37 Opd.f (.cons (Opd.t rfl) .nil) rfl rfl (ih_scrutinyref13_digits (hs.re 0 [] rfl) hr9) ?_
    rintro _ w10 ⟨rfl, hs⟩
    obtain ⟨k11, hm⟩ := chk_some hm
    refine WL_op (Run_cat (Opd.t rfl) (Opd.t rfl) (fun _ => k11)) rfl rfl rfl rfl <| WL_op (Run_assign (Opd.t rfl)) rfl rfl rfl rfl <| ?_
    refine WL_nil ?_
    refine At_then ?_
    refine WC_ret ?_
    refine At_r1 rfl (ResIs.t rfl) ?_
    cases hm
    exact ⟨rfl, (hs.re 0 [] rfl)⟩

set_option maxRecDepth 100000 in
set_option maxHeartbeats 4000000 in
theorem scrutinyref13_digits_ok {Φ : Ctx} {w : World} {n : Int} {r : Str} (hs : Sat (Φ) w) (hm : scrutinyref13_digits n = some r) :
    CallsR Tryd.prog 37 [(.int .i64 n)] w (fun v w' => v = (S r) ∧ Sat (Φ) w') := by
  have key : ∀ (N : Nat) {Φ : Ctx} {w : World} {n : Int} {r : Str}, Sat (Φ) w → fixN (fun k (s : Int) => scrutinyref13_digits_F k s) N n = some r → CallsR Tryd.prog 37 [(.int .i64 n)] w (fun v w' => v = (S r) ∧ Sat (Φ) w') := by
    intro N
    induction N with
    | zero => intros; rename_i h; cases h
    | succ N ih => intros; rename_i hs hm; rw [fixN_succ] at hm; exact scrutinyref13_digits_F_ok (@ih) hs hm
  unfold scrutinyref13_digits at hm
  exact key FUEL hs hm

end Go.Proofs.YtmeombbmhpcacaaDoor
