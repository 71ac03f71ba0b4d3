/- Printed by a program: the walks. -/
import Derived.Test.YtmeombbmhpcacaaDoorWalk14
namespace Go.Proofs.YtmeombbmhpcacaaDoor
open Go.Proofs

set_option maxRecDepth 100000 in
set_option maxHeartbeats 4000000 in
theorem scrutinyref13_Eval_F_ok {k_scrutinyref13_Eval : (Ex × (List Int)) → Option Int} (ih_scrutinyref13_Eval : ∀ {Φ : Ctx} {w : World} {e : Ex} {v3 : (List Int)} {v1 : SLV} {v4 : SLV} {r : Int}, Sat (imm (RSl RExpr) [sl v1] e.l :: imm (RSl (RI .i64)) [sl v4] v3 :: Φ) w → k_scrutinyref13_Eval (e, v3) = some r → CallsR Tryd.prog 25 [(.agg #[(.int .i64 e.op), (.int .i64 e.n), (.int .i64 e.at_), (sl v1)]), (sl v4)] w (fun v w' => v = (.int .i64 r) ∧ Sat (Φ) w')) {Φ : Ctx} {w : World} {e : Ex} {v3 : (List Int)} {v1 : SLV} {v4 : SLV} {r : Int} (hs : Sat (imm (RSl RExpr) [sl v1] e.l :: imm (RSl (RI .i64)) [sl v4] v3 :: Φ) w) (hm : scrutinyref13_Eval_F k_scrutinyref13_Eval e v3 = some r) :
    CallsR Tryd.prog 25 [(.agg #[(.int .i64 e.op), (.int .i64 e.n), (.int .i64 e.at_), (sl v1)]), (sl v4)] w (fun v w' => v = (.int .i64 r) ∧ Sat (Φ) w') := by
  refine CallsX_enter Tryd.func25 rfl Tryd.ntmps25 rfl ?_
  unfold scrutinyref13_Eval_F at hm
  refine WC_seq ?_
  refine WC_region ?_
  refine WS_box (zs := [(.int .i64 e.op), (.int .i64 e.n), (.int .i64 e.at_), (sl v1)]) hs (Opd.t rfl) rfl rfl ?_
  intro b3 w4 hs
  replace hs := Sat.n3 (Γ := Φ) hs rfl
  refine WL_op (Run_assign Opd.c) rfl rfl rfl rfl <| ?_
  refine WL_nil ?_
  refine At_then ?_
  refine WC_seq ?_
  refine WC_region ?_
  refine WL_op (Run_assign Opd.c) rfl rfl rfl rfl <| ?_
  refine WL_nil ?_
  refine At_then ?_
  refine WC_seq ?_
  refine WC_region ?_
  refine WL_op (Run_assign Opd.c) rfl rfl rfl rfl <| ?_
  refine WL_nil ?_
  refine At_then ?_
  refine WC_seq_cut (γ := Int) (fun a6 w5 => scrutinyref13_Eval_K1 k_scrutinyref13_Eval e v3 a6 = some r ∧ Sat (imm (RSl (RI .i64)) [sl v4] v3 :: box b3 24 [(.int .i64 e.op), (.int .i64 e.n), (.int .i64 e.at_), (sl v1)] :: imm (RSl RExpr) [sl v1] e.l :: Φ) w5) (fun a6 => [(1, true, (sl v4)), (2, true, (.pointer (some ⟨b3, 0, none⟩))), (5, true, (.int .i64 a6)), (6, true, (.int .i64 0))]) ?_ ?_
  ·
    rintro a6 w5 ⟨hm, hs⟩
    unfold scrutinyref13_Eval_K1 at hm
    refine WC_seq_cut (γ := Int) (fun b8 w7 => scrutinyref13_Eval_K2 e v3 a6 b8 = some r ∧ Sat (imm (RSl (RI .i64)) [sl v4] v3 :: box b3 24 [(.int .i64 e.op), (.int .i64 e.n), (.int .i64 e.at_), (sl v1)] :: imm (RSl RExpr) [sl v1] e.l :: Φ) w7) (fun b8 => [(1, true, (sl v4)), (2, true, (.pointer (some ⟨b3, 0, none⟩))), (5, true, (.int .i64 a6)), (6, true, (.int .i64 b8))]) ?_ ?_
    ·
      rintro b8 w7 ⟨hm, hs⟩
      unfold scrutinyref13_Eval_K2 at hm
      refine WC_seq ?_
      refine WC_seq ?_
      refine WC_region ?_
      refine WL_op (Run_fieldAddr fo24_0 (Opd.t rfl)) rfl rfl rfl rfl <| WL_op (Run_load1 (v := (.int .i64 e.op)) Tryd.underlying3 rfl (Opd.t rfl) (fun _ => (hs.box (i := 1) rfl).part 0 rfl)) rfl rfl rfl rfl <| ?_
      refine WL_nil ?_
      refine At_then ?_
      refine WC_block ?_
      refine WC_seq ?_
      refine WC_region ?_
      refine WL_op (Run_eqI (Opd.t rfl) Opd.c) rfl rfl rfl rfl <| WL_op (Run_assign (Opd.t rfl)) rfl rfl rfl rfl <| ?_
      refine WL_nil ?_
      refine At_then ?_
      refine WC_cond (Opd.t rfl) (fun hc9 => ?_) (fun hc9 => ?_)
      ·
        replace hm := bif_t hc9 hm
        refine WC_seq ?_
        refine WC_region ?_
        refine WL_op (Run_fieldAddr fo24_1 (Opd.t rfl)) rfl rfl rfl rfl <| WL_op (Run_load1 (v := (.int .i64 e.n)) Tryd.underlying3 rfl (Opd.t rfl) (fun _ => (hs.box (i := 1) rfl).part 1 rfl)) rfl rfl rfl rfl <| WL_op (Run_assign (Opd.t rfl)) rfl rfl rfl rfl <| ?_
        refine WL_nil ?_
        refine At_then ?_
        refine WC_ret ?_
        refine At_blk_ret <| At_then_ret <| ?_
        refine At_r1 rfl (ResIs.t rfl) ?_
        cases hm
        exact ⟨rfl, (hs.re 3 [] rfl)⟩
      ·
        replace hm := bif_f hc9 hm
        refine WC_seq ?_
        refine WC_region ?_
        refine WL_op (Run_eqI (Opd.t rfl) Opd.c) rfl rfl rfl rfl <| WL_op (Run_assign (Opd.t rfl)) rfl rfl rfl rfl <| ?_
        refine WL_nil ?_
        refine At_then ?_
        refine WC_cond (Opd.t rfl) (fun hc10 => ?_) (fun hc10 => ?_)
        ·
          replace hm := bif_t hc10 hm
          refine WC_seq ?_
          refine WC_seq ?_
          refine WC_region ?_
          refine WL_op (Run_fieldAddr fo24_1 (Opd.t rfl)) rfl rfl rfl rfl <| WL_op (Run_load1 (v := (.int .i64 e.n)) Tryd.underlying3 rfl (Opd.t rfl) (fun _ => (hs.box (i := 1) rfl).part 1 rfl)) rfl rfl rfl rfl <| ?_
          obtain ⟨b11, e12, hm⟩ := letv_some hm
          refine WL_op (Run.eqB (Run_geI (Opd.t rfl) Opd.c) e12) rfl rfl rfl rfl <| WL_op (Run_move (Opd.t rfl)) rfl rfl rfl rfl <| WL_opG rfl rfl rfl rfl guard_pos (Run_fieldAddr fo24_1 (Opd.t rfl)) rfl rfl rfl <| WL_opG rfl rfl rfl rfl guard_pos (Run_load1 (v := (.int .i64 e.n)) Tryd.underlying3 rfl (Opd.g rfl id) (fun _ => (hs.box (i := 1) rfl).part 1 rfl)) rfl rfl rfl <| WL_opG rfl rfl rfl rfl guard_pos (Run_move (Opd.t rfl)) rfl rfl rfl <| WL_opG rfl rfl rfl rfl guard_pos (Run_lenSlG Tryd.underlying25 (Opd.g rfl id) (fun hg => (hs.sl (i := 0) rfl).len)) rfl rfl rfl <| ?_
          obtain ⟨b13, e14, hm⟩ := letv_some hm
          refine WL_opG rfl rfl rfl rfl guard_pos (Run.eqB (Run_ltI (Opd.g rfl id) (Opd.g rfl id)) e14) rfl rfl rfl <| ?_
          obtain ⟨b15, e16, hm⟩ := letv_some hm
          refine WL_op (Run.eqB (Run_and (Opd.t rfl) (Opd.g rfl id)) e16) rfl rfl rfl rfl <| ?_
          refine WL_nil ?_
          refine At_then ?_
          refine WC_cond (Opd.t rfl) (fun hc17 => ?_) (fun hc17 => ?_)
          ·
            replace hm := bif_t hc17 hm
            refine WC_seq ?_
            refine WC_region ?_
            refine WL_op (Run_move (Opd.t rfl)) rfl rfl rfl rfl <| WL_op (Run_fieldAddr fo24_1 (Opd.t rfl)) rfl rfl rfl rfl <| WL_op (Run_load1 (v := (.int .i64 e.n)) Tryd.underlying3 rfl (Opd.t rfl) (fun _ => (hs.box (i := 1) rfl).part 1 rfl)) rfl rfl rfl rfl <| ?_
            obtain ⟨e18, he19, hm⟩ := bind_some' hm
            refine WL_op (Run_idxAddr (p := (elA (sl v4) e.n 1)) Tryd.underlying25 ti3 (Opd.t rfl) (Opd.t rfl) (fun hg => (SRd.atA (A := (RI .i64)) (v := (sl v4)) (hs.sl (i := 0) rfl) he19).1)) rfl rfl rfl rfl <| WL_op (Run_load1 (v := (.int .i64 e18)) Tryd.underlying3 rfl (Opd.t rfl) (fun hg => (SRd.cellsF (A := (RI .i64)) (v := (sl v4)) (hs.sl (i := 0) rfl) he19 (fun _ h => openT3 h)).sub 0 rfl)) rfl rfl rfl rfl <| WL_op (Run_assign (Opd.t rfl)) rfl rfl rfl rfl <| ?_
            refine WL_nil ?_
            refine At_then ?_
            refine WC_ret ?_
            refine At_then_ret <| At_blk_ret <| At_then_ret <| ?_
            refine At_r1 rfl (ResIs.t rfl) ?_
            cases hm
            exact ⟨rfl, (hs.re 3 [] rfl)⟩
          ·
            replace hm := bif_f hc17 hm
            refine WC_skip ?_
            refine At_then ?_
            refine WC_seq ?_
            refine WC_region ?_
            refine WL_op (Run_assign Opd.c) rfl rfl rfl rfl <| ?_
            refine WL_nil ?_
            refine At_then ?_
            refine WC_ret ?_
            refine At_blk_ret <| At_then_ret <| ?_
            refine At_r1 rfl (ResIs.t rfl) ?_
            cases hm
            exact ⟨rfl, (hs.re 3 [] rfl)⟩
        ·
          replace hm := bif_f hc10 hm
          refine WC_seq ?_
          refine WC_region ?_
          refine WL_op (Run_eqI (Opd.t rfl) Opd.c) rfl rfl rfl rfl <| WL_op (Run_assign (Opd.t rfl)) rfl rfl rfl rfl <| ?_
          refine WL_nil ?_
          refine At_then ?_
          refine WC_cond (Opd.t rfl) (fun hc20 => ?_) (fun hc20 => ?_)
          ·
            replace hm := bif_t hc20 hm
            refine WC_seq ?_
            refine WC_region ?_
            refine WL_op (Run_move (Opd.t rfl)) rfl rfl rfl rfl <| WL_op (Run_move (Opd.t rfl)) rfl rfl rfl rfl <| WL_op (Run_add (Opd.t rfl) (Opd.t rfl)) rfl rfl rfl rfl <| WL_op (Run_assign (Opd.t rfl)) rfl rfl rfl rfl <| ?_
            refine WL_nil ?_
            refine At_then ?_
            refine WC_ret ?_
            refine At_blk_ret <| At_then_ret <| ?_
            refine At_r1 rfl (ResIs.t rfl) ?_
            cases hm
            exact ⟨rfl, (hs.re 3 [] rfl)⟩
          ·
            replace hm := bif_f hc20 hm
            refine WC_seq ?_
            refine WC_region ?_
            refine WL_op (Run_eqI (Opd.t rfl) Opd.c) rfl rfl rfl rfl <| WL_op (Run_assign (Opd.t rfl)) rfl rfl rfl rfl <| ?_
            refine WL_nil ?_
            refine At_then ?_
            refine WC_cond (Opd.t rfl) (fun hc21 => ?_) (fun hc21 => ?_)
            ·
              replace hm := bif_t hc21 hm
              refine WC_seq ?_
              refine WC_region ?_
              refine WL_op (Run_move (Opd.t rfl)) rfl rfl rfl rfl <| WL_op (Run_move (Opd.t rfl)) rfl rfl rfl rfl <| WL_op (Run_sub (Opd.t rfl) (Opd.t rfl)) rfl rfl rfl rfl <| WL_op (Run_assign (Opd.t rfl)) rfl rfl rfl rfl <| ?_
              refine WL_nil ?_
              refine At_then ?_
              refine WC_ret ?_
              refine At_blk_ret <| At_then_ret <| ?_
              refine At_r1 rfl (ResIs.t rfl) ?_
              cases hm
              exact ⟨rfl, (hs.re 3 [] rfl)⟩
            ·
              replace hm := bif_f hc21 hm
              refine WC_seq ?_
              refine WC_region ?_
              refine WL_op (Run_eqI (Opd.t rfl) Opd.c) rfl rfl rfl rfl <| WL_op (Run_assign (Opd.t rfl)) rfl rfl rfl rfl <| ?_
              refine WL_nil ?_
              refine At_then ?_
              refine WC_cond (Opd.t rfl) (fun hc22 => ?_) (fun hc22 => ?_)
              ·
                replace hm := bif_t hc22 hm
                refine WC_seq ?_
                refine WC_region ?_
                refine WL_op (Run_move (Opd.t rfl)) rfl rfl rfl rfl <| WL_op (Run_move (Opd.t rfl)) rfl rfl rfl rfl <| WL_op (Run_mul (Opd.t rfl) (Opd.t rfl)) rfl rfl rfl rfl <| WL_op (Run_assign (Opd.t rfl)) rfl rfl rfl rfl <| ?_
                refine WL_nil ?_
                refine At_then ?_
                refine WC_ret ?_
                refine At_blk_ret <| At_then_ret <| ?_
                refine At_r1 rfl (ResIs.t rfl) ?_
                cases hm
                exact ⟨rfl, (hs.re 3 [] rfl)⟩
              ·
                replace hm := bif_f hc22 hm
                refine WC_seq ?_
                refine WC_region ?_
                refine WL_op (Run_eqI (Opd.t rfl) Opd.c) rfl rfl rfl rfl <| WL_op (Run_assign (Opd.t rfl)) rfl rfl rfl rfl <| ?_
                refine WL_nil ?_
                refine At_then ?_
                refine WC_cond (Opd.t rfl) (fun hc23 => ?_) (fun hc23 => ?_)
                ·
                  replace hm := bif_t hc23 hm
                  refine WC_seq ?_
                  refine WC_region ?_
                  refine WL_op (Run_move (Opd.t rfl)) rfl rfl rfl rfl <| WL_op (Run_neg (Opd.t rfl)) rfl rfl rfl rfl <| WL_op (Run_assign (Opd.t rfl)) rfl rfl rfl rfl <| ?_
                  refine WL_nil ?_
                  refine At_then ?_
                  refine WC_ret ?_
                  refine At_blk_ret <| At_then_ret <| ?_
                  refine At_r1 rfl (ResIs.t rfl) ?_
                  cases hm
                  exact ⟨rfl, (hs.re 3 [] rfl)⟩
                ·
                  replace hm := bif_f hc23 hm
                  refine WC_seq ?_
                  refine WC_region ?_
                  refine WL_op (Run_eqI (Opd.t rfl) Opd.c) rfl rfl rfl rfl <| WL_op (Run_assign (Opd.t rfl)) rfl rfl rfl rfl <| ?_
                  refine WL_nil ?_
                  refine At_then ?_
                  refine WC_cond (Opd.t rfl) (fun hc24 => ?_) (fun hc24 => ?_)
                  ·
                    replace hm := bif_t hc24 hm
                    refine WC_seq ?_
                    refine WC_region ?_
                    refine WL_op (Run_move (Opd.t rfl)) rfl rfl rfl rfl <| WL_op (Run_move (Opd.t rfl)) rfl rfl rfl rfl <| WL_op (Run_eqI (Opd.t rfl) (Opd.t rfl)) rfl rfl rfl rfl <| ?_
                    obtain ⟨r25, hr26, hm⟩ := bind_some' hm
                    refine WL_call (f := 39) (first := []) (cap := []) (xs := [(.tmp 73)]) (vs := [(.bool (a6 == b8))]) (args := [(.bool (a6 == b8))]) Tryd.call39 Opd.f (.cons (Opd.t rfl) .nil) rfl rfl (scrutinyref13_truth_ok (hs.re 3 [0, 1, 2] rfl) hr26) ?_
                    rintro _ w27 ⟨rfl, hs⟩
                    replace hs := Sat.n3 (Γ := Φ) hs rfl
                    refine WL_op (Run_assign (Opd.t rfl)) rfl rfl rfl rfl <| ?_
                    refine WL_nil ?_
                    refine At_then ?_
                    refine WC_ret ?_
                    refine At_blk_ret <| At_then_ret <| ?_
                    refine At_r1 rfl (ResIs.t rfl) ?_
                    cases hm
                    exact ⟨rfl, (hs.re 3 [] rfl)⟩
                  ·
                    replace hm := bif_f hc24 hm
                    refine WC_seq ?_
                    refine WC_region ?_
                    refine WL_op (Run_eqI (Opd.t rfl) Opd.c) rfl rfl rfl rfl <| WL_op (Run_assign (Opd.t rfl)) rfl rfl rfl rfl <| ?_
                    refine WL_nil ?_
                    refine At_then ?_
                    refine WC_cond (Opd.t rfl) (fun hc28 => ?_) (fun hc28 => ?_)
                    ·
                      replace hm := bif_t hc28 hm
                      refine WC_seq ?_
                      refine WC_region ?_
                      refine WL_op (Run_move (Opd.t rfl)) rfl rfl rfl rfl <| WL_op (Run_move (Opd.t rfl)) rfl rfl rfl rfl <| WL_op (Run_neI (Opd.t rfl) (Opd.t rfl)) rfl rfl rfl rfl <| ?_
                      obtain ⟨r29, hr30, hm⟩ := bind_some' hm
                      refine WL_call (f := 39) (first := []) (cap := []) (xs := [(.tmp 79)]) (vs := [(.bool (a6 != b8))]) (args := [(.bool (a6 != b8))]) Tryd.call39 Opd.f (.cons (Opd.t rfl) .nil) rfl rfl (scrutinyref13_truth_ok (hs.re 3 [0, 1, 2] rfl) hr30) ?_
                      rintro _ w31 ⟨rfl, hs⟩
                      replace hs := Sat.n3 (Γ := Φ) hs rfl
                      refine WL_op (Run_assign (Opd.t rfl)) rfl rfl rfl rfl <| ?_
                      refine WL_nil ?_
                      refine At_then ?_
                      refine WC_ret ?_
                      refine At_blk_ret <| At_then_ret <| ?_
                      refine At_r1 rfl (ResIs.t rfl) ?_
                      cases hm
                      exact ⟨rfl, (hs.re 3 [] rfl)⟩
                    ·
                      replace hm := bif_f hc28 hm
                      refine WC_seq ?_
                      refine WC_region ?_
                      refine WL_op (Run_eqI (Opd.t rfl) Opd.c) rfl rfl rfl rfl <| WL_op (Run_assign (Opd.t rfl)) rfl rfl rfl rfl <| ?_
                      refine WL_nil ?_
                      refine At_then ?_
                      refine WC_cond (Opd.t rfl) (fun hc32 => ?_) (fun hc32 => ?_)
                      ·
                        replace hm := bif_t hc32 hm
                        refine WC_seq ?_
                        refine WC_region ?_
                        refine WL_op (Run_move (Opd.t rfl)) rfl rfl rfl rfl <| WL_op (Run_move (Opd.t rfl)) rfl rfl rfl rfl <| WL_op (Run_ltI (Opd.t rfl) (Opd.t rfl)) rfl rfl rfl rfl <| ?_
                        obtain ⟨r33, hr34, hm⟩ := bind_some' hm
                        refine WL_call (f := 39) (first := []) (cap := []) (xs := [(.tmp 85)]) (vs := [(.bool (decide (a6 < b8)))]) (args := [(.bool (decide (a6 < b8)))]) Tryd.call39 Opd.f (.cons (Opd.t rfl) .nil) rfl rfl (scrutinyref13_truth_ok (hs.re 3 [0, 1, 2] rfl) hr34) ?_
                        rintro _ w35 ⟨rfl, hs⟩
                        replace hs := Sat.n3 (Γ := Φ) hs rfl
                        refine WL_op (Run_assign (Opd.t rfl)) rfl rfl rfl rfl <| ?_
                        refine WL_nil ?_
                        refine At_then ?_
                        refine WC_ret ?_
                        refine At_blk_ret <| At_then_ret <| ?_
                        refine At_r1 rfl (ResIs.t rfl) ?_
                        cases hm
                        exact ⟨rfl, (hs.re 3 [] rfl)⟩
                      ·
                        replace hm := bif_f hc32 hm
                        refine WC_seq ?_
                        refine WC_region ?_
                        refine WL_op (Run_eqI (Opd.t rfl) Opd.c) rfl rfl rfl rfl <| WL_op (Run_assign (Opd.t rfl)) rfl rfl rfl rfl <| ?_
                        refine WL_nil ?_
                        refine At_then ?_
                        refine WC_cond (Opd.t rfl) (fun hc36 => ?_) (fun hc36 => ?_)
                        ·
                          replace hm := bif_t hc36 hm
                          refine WC_seq ?_
                          refine WC_region ?_
                          refine WL_op (Run_move (Opd.t rfl)) rfl rfl rfl rfl <| WL_op (Run_move (Opd.t rfl)) rfl rfl rfl rfl <| WL_op (Run_leI (Opd.t rfl) (Opd.t rfl)) rfl rfl rfl rfl <| ?_
                          obtain ⟨r37, hr38, hm⟩ := bind_some' hm
                          refine WL_call (f := 39) (first := []) (cap := []) (xs := [(.tmp 91)]) (vs := [(.bool (decide (a6 ≤ b8)))]) (args := [(.bool (decide (a6 ≤ b8)))]) Tryd.call39 Opd.f (.cons (Opd.t rfl) .nil) rfl rfl (scrutinyref13_truth_ok (hs.re 3 [0, 1, 2] rfl) hr38) ?_
                          rintro _ w39 ⟨rfl, hs⟩
                          replace hs := Sat.n3 (Γ := Φ) hs rfl
                          refine WL_op (Run_assign (Opd.t rfl)) rfl rfl rfl rfl <| ?_
                          refine WL_nil ?_
                          refine At_then ?_
                          refine WC_ret ?_
                          refine At_blk_ret <| At_then_ret <| ?_
                          refine At_r1 rfl (ResIs.t rfl) ?_
                          cases hm
                          exact ⟨rfl, (hs.re 3 [] rfl)⟩
                        ·
                          replace hm := bif_f hc36 hm
                          refine WC_seq ?_
                          refine WC_region ?_
                          refine WL_op (Run_eqI (Opd.t rfl) Opd.c) rfl rfl rfl rfl <| WL_op (Run_assign (Opd.t rfl)) rfl rfl rfl rfl <| ?_
                          refine WL_nil ?_
                          refine At_then ?_
                          refine WC_cond (Opd.t rfl) (fun hc40 => ?_) (fun hc40 => ?_)
                          ·
                            replace hm := bif_t hc40 hm
                            refine WC_seq ?_
                            refine WC_region ?_
                            refine WL_op (Run_move (Opd.t rfl)) rfl rfl rfl rfl <| WL_op (Run_move (Opd.t rfl)) rfl rfl rfl rfl <| WL_op (Run_gtI (Opd.t rfl) (Opd.t rfl)) rfl rfl rfl rfl <| ?_
                            obtain ⟨r41, hr42, hm⟩ := bind_some' hm
                            refine WL_call (f := 39) (first := []) (cap := []) (xs := [(.tmp 97)]) (vs := [(.bool (decide (b8 < a6)))]) (args := [(.bool (decide (b8 < a6)))]) Tryd.call39 Opd.f (.cons (Opd.t rfl) .nil) rfl rfl (scrutinyref13_truth_ok (hs.re 3 [0, 1, 2] rfl) hr42) ?_
                            rintro _ w43 ⟨rfl, hs⟩
                            replace hs := Sat.n3 (Γ := Φ) hs rfl
                            refine WL_op (Run_assign (Opd.t rfl)) rfl rfl rfl rfl <| ?_
                            refine WL_nil ?_
                            refine At_then ?_
                            refine WC_ret ?_
                            refine At_blk_ret <| At_then_ret <| ?_
                            refine At_r1 rfl (ResIs.t rfl) ?_
                            cases hm
                            exact ⟨rfl, (hs.re 3 [] rfl)⟩
                          ·
                            replace hm := bif_f hc40 hm
                            refine WC_seq ?_
                            refine WC_region ?_
                            refine WL_op (Run_eqI (Opd.t rfl) Opd.c) rfl rfl rfl rfl <| WL_op (Run_assign (Opd.t rfl)) rfl rfl rfl rfl <| ?_
                            refine WL_nil ?_
                            refine At_then ?_
                            refine WC_cond (Opd.t rfl) (fun hc44 => ?_) (fun hc44 => ?_)
                            ·
                              replace hm := bif_t hc44 hm
                              refine WC_seq ?_
                              refine WC_region ?_
                              refine WL_op (Run_move (Opd.t rfl)) rfl rfl rfl rfl <| WL_op (Run_move (Opd.t rfl)) rfl rfl rfl rfl <| WL_op (Run_geI (Opd.t rfl) (Opd.t rfl)) rfl rfl rfl rfl <| ?_
                              obtain ⟨r45, hr46, hm⟩ := bind_some' hm
                              refine WL_call (f := 39) (first := []) (cap := []) (xs := [(.tmp 103)]) (vs := [(.bool (decide (b8 ≤ a6)))]) (args := [(.bool (decide (b8 ≤ a6)))]) Tryd.call39 Opd.f (.cons (Opd.t rfl) .nil) rfl rfl (scrutinyref13_truth_ok (hs.re 3 [0, 1, 2] rfl) hr46) ?_
                              rintro _ w47 ⟨rfl, hs⟩
                              replace hs := Sat.n3 (Γ := Φ) hs rfl
                              refine WL_op (Run_assign (Opd.t rfl)) rfl rfl rfl rfl <| ?_
                              refine WL_nil ?_
                              refine At_then ?_
                              refine WC_ret ?_
                              refine At_blk_ret <| At_then_ret <| ?_
                              refine At_r1 rfl (ResIs.t rfl) ?_
                              cases hm
                              exact ⟨rfl, (hs.re 3 [] rfl)⟩
                            ·
                              replace hm := bif_f hc44 hm
                              refine WC_seq ?_
                              refine WC_region ?_
                              refine WL_op (Run_eqI (Opd.t rfl) Opd.c) rfl rfl rfl rfl <| WL_op (Run_assign (Opd.t rfl)) rfl rfl rfl rfl <| ?_
                              refine WL_nil ?_
                              refine At_then ?_
                              refine WC_cond (Opd.t rfl) (fun hc48 => ?_) (fun hc48 => ?_)
                              ·
                                replace hm := bif_t hc48 hm
                                refine WC_seq ?_
                                refine WC_region ?_
                                refine WL_op (Run_assign Opd.c) rfl rfl rfl rfl <| ?_
                                refine WL_nil ?_
                                refine At_then ?_
                                refine WC_ret ?_
                                refine At_blk_ret <| At_then_ret <| ?_
                                refine At_r1 rfl (ResIs.t rfl) ?_
                                cases hm
                                exact ⟨rfl, (hs.re 3 [] rfl)⟩
                              ·
                                replace hm := bif_f hc48 hm
                                refine WC_seq ?_
                                refine WC_region ?_
                                refine WL_op (Run_eqI (Opd.t rfl) Opd.c) rfl rfl rfl rfl <| WL_op (Run_assign (Opd.t rfl)) rfl rfl rfl rfl <| ?_
                                refine WL_nil ?_
                                refine At_then ?_
                                refine WC_cond (Opd.t rfl) (fun hc49 => ?_) (fun hc49 => ?_)
                                ·
                                  replace hm := bif_t hc49 hm
                                  refine WC_seq ?_
                                  refine WC_region ?_
                                  refine WL_op (Run_move (Opd.t rfl)) rfl rfl rfl rfl <| WL_op (Run_eqI (Opd.t rfl) Opd.c) rfl rfl rfl rfl <| ?_
                                  obtain ⟨r50, hr51, hm⟩ := bind_some' hm
                                  refine WL_call (f := 39) (first := []) (cap := []) (xs := [(.tmp 110)]) (vs := [(.bool (a6 == 0))]) (args := [(.bool (a6 == 0))]) Tryd.call39 Opd.f (.cons (Opd.t rfl) .nil) rfl rfl (scrutinyref13_truth_ok (hs.re 3 [0, 1, 2] rfl) hr51) ?_
                                  rintro _ w52 ⟨rfl, hs⟩
                                  replace hs := Sat.n3 (Γ := Φ) hs rfl
                                  refine WL_op (Run_assign (Opd.t rfl)) rfl rfl rfl rfl <| ?_
                                  refine WL_nil ?_
                                  refine At_then ?_
                                  refine WC_ret ?_
                                  refine At_blk_ret <| At_then_ret <| ?_
                                  refine At_r1 rfl (ResIs.t rfl) ?_
                                  cases hm
                                  exact ⟨rfl, (hs.re 3 [] rfl)⟩
                                ·
                                  replace hm := bif_f hc49 hm
                                  refine WC_seq ?_
                                  refine WC_region ?_
                                  refine WL_op (Run_eqI (Opd.t rfl) Opd.c) rfl rfl rfl rfl <| WL_op (Run_assign (Opd.t rfl)) rfl rfl rfl rfl <| ?_
                                  refine WL_nil ?_
                                  refine At_then ?_
                                  refine WC_cond (Opd.t rfl) (fun hc53 => ?_) (fun hc53 => ?_)
                                  ·
                                    replace hm := bif_t hc53 hm
                                    refine WC_seq ?_
                                    refine WC_region ?_
                                    refine WL_op (Run_move (Opd.t rfl)) rfl rfl rfl rfl <| ?_
                                    obtain ⟨b54, e55, hm⟩ := letv_some hm
                                    refine WL_op (Run.eqB (Run_eqI (Opd.t rfl) Opd.c) e55) rfl rfl rfl rfl <| WL_op (Run_move (Opd.t rfl)) rfl rfl rfl rfl <| WL_opG rfl rfl rfl rfl guard_pos (Run_move (Opd.t rfl)) rfl rfl rfl <| ?_
                                    obtain ⟨b56, e57, hm⟩ := letv_some hm
                                    refine WL_opG rfl rfl rfl rfl guard_pos (Run.eqB (Run_eqI (Opd.g rfl id) Opd.c) e57) rfl rfl rfl <| ?_
                                    obtain ⟨b58, e59, hm⟩ := letv_some hm
                                    refine WL_op (Run.eqB (Run_and (Opd.t rfl) (Opd.g rfl id)) e59) rfl rfl rfl rfl <| ?_
                                    obtain ⟨r60, hr61, hm⟩ := bind_some' hm
                                    refine WL_call (f := 39) (first := []) (cap := []) (xs := [(.tmp 119)]) (vs := [(.bool b58)]) (args := [(.bool b58)]) Tryd.call39 Opd.f (.cons (Opd.t rfl) .nil) rfl rfl (scrutinyref13_truth_ok (hs.re 3 [0, 1, 2] rfl) hr61) ?_
                                    rintro _ w62 ⟨rfl, hs⟩
                                    replace hs := Sat.n3 (Γ := Φ) hs rfl
                                    refine WL_op (Run_assign (Opd.t rfl)) rfl rfl rfl rfl <| ?_
                                    refine WL_nil ?_
                                    refine At_then ?_
                                    refine WC_ret ?_
                                    refine At_blk_ret <| At_then_ret <| ?_
                                    refine At_r1 rfl (ResIs.t rfl) ?_
                                    cases hm
                                    exact ⟨rfl, (hs.re 3 [] rfl)⟩
                                  ·
                                    replace hm := bif_f hc53 hm
                                    refine WC_seq ?_
                                    refine WC_region ?_
                                    refine WL_op (Run_eqI (Opd.t rfl) Opd.c) rfl rfl rfl rfl <| WL_op (Run_assign (Opd.t rfl)) rfl rfl rfl rfl <| ?_
                                    refine WL_nil ?_
                                    refine At_then ?_
                                    refine WC_cond (Opd.t rfl) (fun hc63 => ?_) (fun hc63 => ?_)
                                    ·
                                      replace hm := bif_t hc63 hm
                                      refine WC_seq ?_
                                      refine WC_region ?_
                                      refine WL_op (Run_move (Opd.t rfl)) rfl rfl rfl rfl <| ?_
                                      obtain ⟨b64, e65, hm⟩ := letv_some hm
                                      refine WL_op (Run.eqB (Run_eqI (Opd.t rfl) Opd.c) e65) rfl rfl rfl rfl <| WL_op (Run_move (Opd.t rfl)) rfl rfl rfl rfl <| WL_opG rfl rfl rfl rfl guard_neg (Run_move (Opd.t rfl)) rfl rfl rfl <| ?_
                                      obtain ⟨b66, e67, hm⟩ := letv_some hm
                                      refine WL_opG rfl rfl rfl rfl guard_neg (Run.eqB (Run_eqI (Opd.g rfl id) Opd.c) e67) rfl rfl rfl <| ?_
                                      obtain ⟨b68, e69, hm⟩ := letv_some hm
                                      refine WL_op (Run.eqB (Run_or (Opd.t rfl) (Opd.g rfl id)) e69) rfl rfl rfl rfl <| ?_
                                      obtain ⟨r70, hr71, hm⟩ := bind_some' hm
                                      refine WL_call (f := 39) (first := []) (cap := []) (xs := [(.tmp 128)]) (vs := [(.bool b68)]) (args := [(.bool b68)]) Tryd.call39 Opd.f (.cons (Opd.t rfl) .nil) rfl rfl (scrutinyref13_truth_ok (hs.re 3 [0, 1, 2] rfl) hr71) ?_
                                      rintro _ w72 ⟨rfl, hs⟩
                                      replace hs := Sat.n3 (Γ := Φ) hs rfl
                                      refine WL_op (Run_assign (Opd.t rfl)) rfl rfl rfl rfl <| ?_
                                      refine WL_nil ?_
                                      refine At_then ?_
                                      refine WC_ret ?_
                                      refine At_blk_ret <| At_then_ret <| ?_
                                      refine At_r1 rfl (ResIs.t rfl) ?_
                                      cases hm
                                      exact ⟨rfl, (hs.re 3 [] rfl)⟩
                                    ·
                                      replace hm := bif_f hc63 hm
                                      refine WC_seq ?_
                                      refine WC_region ?_
                                      refine WL_op (Run_eqI (Opd.t rfl) Opd.c) rfl rfl rfl rfl <| WL_op (Run_assign (Opd.t rfl)) rfl rfl rfl rfl <| ?_
                                      refine WL_nil ?_
                                      refine At_then ?_
                                      refine WC_cond (Opd.t rfl) (fun hc73 => ?_) (fun hc73 => ?_)
                                      ·
                                        replace hm := bif_t hc73 hm
                                        refine WC_seq ?_
                                        refine WC_region ?_
                                        refine WL_op (Run_move (Opd.t rfl)) rfl rfl rfl rfl <| ?_
                                        obtain ⟨b74, e75, hm⟩ := letv_some hm
                                        refine WL_op (Run.eqB (Run_eqI (Opd.t rfl) Opd.c) e75) rfl rfl rfl rfl <| WL_op (Run_move (Opd.t rfl)) rfl rfl rfl rfl <| WL_opG rfl rfl rfl rfl guard_neg (Run_move (Opd.t rfl)) rfl rfl rfl <| ?_
                                        obtain ⟨b76, e77, hm⟩ := letv_some hm
                                        refine WL_opG rfl rfl rfl rfl guard_neg (Run.eqB (Run_eqI (Opd.g rfl id) Opd.c) e77) rfl rfl rfl <| ?_
                                        obtain ⟨b78, e79, hm⟩ := letv_some hm
                                        refine WL_op (Run.eqB (Run_or (Opd.t rfl) (Opd.g rfl id)) e79) rfl rfl rfl rfl <| ?_
                                        obtain ⟨r80, hr81, hm⟩ := bind_some' hm
                                        refine WL_call (f := 39) (first := []) (cap := []) (xs := [(.tmp 137)]) (vs := [(.bool b78)]) (args := [(.bool b78)]) Tryd.call39 Opd.f (.cons (Opd.t rfl) .nil) rfl rfl (scrutinyref13_truth_ok (hs.re 3 [0, 1, 2] rfl) hr81) ?_
                                        rintro _ w82 ⟨rfl, hs⟩
                                        replace hs := Sat.n3 (Γ := Φ) hs rfl
                                        refine WL_op (Run_assign (Opd.t rfl)) rfl rfl rfl rfl <| ?_
                                        refine WL_nil ?_
                                        refine At_then ?_
                                        refine WC_ret ?_
                                        refine At_blk_ret <| At_then_ret <| ?_
                                        refine At_r1 rfl (ResIs.t rfl) ?_
                                        cases hm
                                        exact ⟨rfl, (hs.re 3 [] rfl)⟩
                                      ·
                                        replace hm := bif_f hc73 hm
                                        refine WC_seq ?_
                                        refine WC_region ?_
                                        refine WL_op (Run_eqI (Opd.t rfl) Opd.c) rfl rfl rfl rfl <| WL_op (Run_assign (Opd.t rfl)) rfl rfl rfl rfl <| ?_
                                        refine WL_nil ?_
                                        refine At_then ?_
                                        refine WC_cond (Opd.t rfl) (fun hc83 => ?_) (fun hc83 => ?_)
                                        ·
                                          replace hm := bif_t hc83 hm
                                          refine WC_seq ?_
                                          refine WC_region ?_
                                          refine WL_op (Run_move (Opd.t rfl)) rfl rfl rfl rfl <| WL_op (Run_move (Opd.t rfl)) rfl rfl rfl rfl <| WL_op (Run_eqI (Opd.t rfl) (Opd.t rfl)) rfl rfl rfl rfl <| ?_
                                          obtain ⟨r84, hr85, hm⟩ := bind_some' hm
                                          refine WL_call (f := 39) (first := []) (cap := []) (xs := [(.tmp 143)]) (vs := [(.bool (a6 == b8))]) (args := [(.bool (a6 == b8))]) Tryd.call39 Opd.f (.cons (Opd.t rfl) .nil) rfl rfl (scrutinyref13_truth_ok (hs.re 3 [0, 1, 2] rfl) hr85) ?_
                                          rintro _ w86 ⟨rfl, hs⟩
                                          replace hs := Sat.n3 (Γ := Φ) hs rfl
                                          refine WL_op (Run_assign (Opd.t rfl)) rfl rfl rfl rfl <| ?_
                                          refine WL_nil ?_
                                          refine At_then ?_
                                          refine WC_ret ?_
                                          refine At_blk_ret <| At_then_ret <| ?_
                                          refine At_r1 rfl (ResIs.t rfl) ?_
                                          cases hm
                                          exact ⟨rfl, (hs.re 3 [] rfl)⟩
                                        ·
                                          replace hm := bif_f hc83 hm
                                          refine WC_skip ?_
                                          refine At_blk_normal ?_
                                          refine At_then ?_
                                          refine WC_seq ?_
                                          refine WC_region ?_
                                          refine WL_op (Run_assign Opd.c) rfl rfl rfl rfl <| ?_
                                          refine WL_nil ?_
                                          refine At_then ?_
                                          refine WC_ret ?_
                                          refine At_r1 rfl (ResIs.t rfl) ?_
                                          cases hm
                                          exact ⟨rfl, (hs.re 3 [] rfl)⟩
    ·
      refine WC_seq ?_
      refine WC_region ?_
      refine WL_op (Run_fieldAddr fo24_3 (Opd.t rfl)) rfl rfl rfl rfl <| WL_op (Run_load1 (v := (sl v1)) Tryd.underlying22 rfl (Opd.t rfl) (fun _ => (hs.box (i := 1) rfl).part 3 rfl)) rfl rfl rfl rfl <| WL_op (Run_lenSlG Tryd.underlying22 (Opd.t rfl) (fun hg => (hs.sl (i := 2) rfl).len)) rfl rfl rfl rfl <| WL_op (Run_gtI (Opd.t rfl) Opd.c) rfl rfl rfl rfl <| ?_
      refine WL_nil ?_
      refine At_then ?_
      refine WC_cond (Opd.t rfl) (fun hc87 => ?_) (fun hc87 => ?_)
      ·
        replace hm := bif_t hc87 hm
        refine WC_region ?_
        refine WL_op (Run_fieldAddr fo24_3 (Opd.t rfl)) rfl rfl rfl rfl <| WL_op (Run_load1 (v := (sl v1)) Tryd.underlying22 rfl (Opd.t rfl) (fun _ => (hs.box (i := 1) rfl).part 3 rfl)) rfl rfl rfl rfl <| ?_
        obtain ⟨e88, he89, hm⟩ := bind_some' hm
        obtain ⟨v90, hC91, hN92, hR93⟩ := cellsM24 (g := true) (fun hg => (hs.sl (i := 2) rfl)) (fun hg => he89)
        replace hs := hs.addL [elem true (elA (sl v1) 1 4) [(.int .i64 e88.op), (.int .i64 e88.n), (.int .i64 e88.at_), (sl v90)], imm (RSl RExpr) [sl v90] e88.l] rfl ⟨fun hg => ⟨hN92 hg, hC91 hg⟩, ⟨_, rfl, hR93 rfl⟩, trivial⟩
        replace hs := Sat.n5 (Γ := Φ) hs rfl
        refine WL_op (Run_idxAddr (p := (elA (sl v1) 1 4)) Tryd.underlying22 ti24 (Opd.t rfl) Opd.c (fun hg => (SRd.atA (A := RExpr) (v := (sl v1)) (hs.sl (i := 4) rfl) he89).1)) rfl rfl rfl rfl <| WL_op (Run_loadA (vs := [(.int .i64 e88.op), (.int .i64 e88.n), (.int .i64 e88.at_), (sl v90)]) Tryd.underlying24 rfl ti24 (Opd.t rfl) (fun hg => ((hs.elem (i := 0) rfl) hg).sub 0 rfl) rfl) rfl rfl rfl rfl <| WL_op (Run_move (Opd.t rfl)) rfl rfl rfl rfl <| ?_
        obtain ⟨r94, hr95, hm⟩ := bind_some' hm
        refine WL_call (f := 25) (first := []) (cap := []) (xs := [(.tmp 24), (.tmp 25)]) (vs := [(.agg #[(.int .i64 e88.op), (.int .i64 e88.n), (.int .i64 e88.at_), (sl v90)]), (sl v4)]) (args := [(.agg #[(.int .i64 e88.op), (.int .i64 e88.n), (.int .i64 e88.at_), (sl v90)]), (sl v4)]) Tryd.call25 Opd.f (.cons (Opd.t rfl) (.cons (Opd.t rfl) .nil)) rfl rfl (ih_scrutinyref13_Eval (hs.re 5 [1, 2, 0, 1, 2, 3, 4] rfl) hr95) ?_
        rintro _ w96 ⟨rfl, hs⟩
        replace hs := Sat.n5 (Γ := Φ) hs rfl
        refine WL_op (Run_assign (Opd.t rfl)) rfl rfl rfl rfl <| ?_
        refine WL_nil ?_
        exact At_join r94 ⟨hm, (hs.re 5 [2, 3, 4] rfl)⟩ rfl
      ·
        replace hm := bif_f hc87 hm
        refine WC_skip ?_
        exact At_join 0 ⟨hm, (hs.re 3 [0, 1, 2] rfl)⟩ rfl
  ·
    refine WC_seq ?_
    refine WC_region ?_
    refine WL_op (Run_fieldAddr fo24_3 (Opd.t rfl)) rfl rfl rfl rfl <| WL_op (Run_load1 (v := (sl v1)) Tryd.underlying22 rfl (Opd.t rfl) (fun _ => (hs.box (i := 0) rfl).part 3 rfl)) rfl rfl rfl rfl <| WL_op (Run_lenSlG Tryd.underlying22 (Opd.t rfl) (fun hg => (hs.sl (i := 1) rfl).len)) rfl rfl rfl rfl <| WL_op (Run_gtI (Opd.t rfl) Opd.c) rfl rfl rfl rfl <| ?_
    refine WL_nil ?_
    refine At_then ?_
    refine WC_cond (Opd.t rfl) (fun hc97 => ?_) (fun hc97 => ?_)
    ·
      replace hm := bif_t hc97 hm
      refine WC_region ?_
      refine WL_op (Run_fieldAddr fo24_3 (Opd.t rfl)) rfl rfl rfl rfl <| WL_op (Run_load1 (v := (sl v1)) Tryd.underlying22 rfl (Opd.t rfl) (fun _ => (hs.box (i := 0) rfl).part 3 rfl)) rfl rfl rfl rfl <| ?_
      obtain ⟨e98, he99, hm⟩ := bind_some' hm
      obtain ⟨v100, hC101, hN102, hR103⟩ := cellsM24 (g := true) (fun hg => (hs.sl (i := 1) rfl)) (fun hg => he99)
      replace hs := hs.addL [elem true (elA (sl v1) 0 4) [(.int .i64 e98.op), (.int .i64 e98.n), (.int .i64 e98.at_), (sl v100)], imm (RSl RExpr) [sl v100] e98.l] rfl ⟨fun hg => ⟨hN102 hg, hC101 hg⟩, ⟨_, rfl, hR103 rfl⟩, trivial⟩
      replace hs := Sat.n5 (Γ := Φ) hs rfl
      refine WL_op (Run_idxAddr (p := (elA (sl v1) 0 4)) Tryd.underlying22 ti24 (Opd.t rfl) Opd.c (fun hg => (SRd.atA (A := RExpr) (v := (sl v1)) (hs.sl (i := 3) rfl) he99).1)) rfl rfl rfl rfl <| WL_op (Run_loadA (vs := [(.int .i64 e98.op), (.int .i64 e98.n), (.int .i64 e98.at_), (sl v100)]) Tryd.underlying24 rfl ti24 (Opd.t rfl) (fun hg => ((hs.elem (i := 0) rfl) hg).sub 0 rfl) rfl) rfl rfl rfl rfl <| WL_op (Run_move (Opd.t rfl)) rfl rfl rfl rfl <| ?_
      obtain ⟨r104, hr105, hm⟩ := bind_some' hm
      refine WL_call (f := 25) (first := []) (cap := []) (xs := [(.tmp 14), (.tmp 15)]) (vs := [(.agg #[(.int .i64 e98.op), (.int .i64 e98.n), (.int .i64 e98.at_), (sl v100)]), (sl v4)]) (args := [(.agg #[(.int .i64 e98.op), (.int .i64 e98.n), (.int .i64 e98.at_), (sl v100)]), (sl v4)]) Tryd.call25 Opd.f (.cons (Opd.t rfl) (.cons (Opd.t rfl) .nil)) rfl rfl (ih_scrutinyref13_Eval (hs.re 5 [1, 4, 0, 1, 2, 3, 4] rfl) hr105) ?_
      rintro _ w106 ⟨rfl, hs⟩
      replace hs := Sat.n5 (Γ := Φ) hs rfl
      refine WL_op (Run_assign (Opd.t rfl)) rfl rfl rfl rfl <| ?_
      refine WL_nil ?_
      exact At_join r104 ⟨hm, (hs.re 5 [4, 2, 3] rfl)⟩ rfl
    ·
      replace hm := bif_f hc97 hm
      refine WC_skip ?_
      exact At_join 0 ⟨hm, (hs.re 3 [2, 0, 1] rfl)⟩ rfl

set_option maxRecDepth 100000 in
set_option maxHeartbeats 4000000 in
theorem scrutinyref13_Eval_ok {Φ : Ctx} {w : World} {e : Ex} {v3 : (List Int)} {v1 : SLV} {v4 : SLV} {r : Int} (hs : Sat (imm (RSl RExpr) [sl v1] e.l :: imm (RSl (RI .i64)) [sl v4] v3 :: Φ) w) (hm : scrutinyref13_Eval e v3 = some r) :
    CallsR Tryd.prog 25 [(.agg #[(.int .i64 e.op), (.int .i64 e.n), (.int .i64 e.at_), (sl v1)]), (sl v4)] w (fun v w' => v = (.int .i64 r) ∧ Sat (Φ) w') := by
  have key : ∀ (N : Nat) {Φ : Ctx} {w : World} {e : Ex} {v3 : (List Int)} {v1 : SLV} {v4 : SLV} {r : Int}, Sat (imm (RSl RExpr) [sl v1] e.l :: imm (RSl (RI .i64)) [sl v4] v3 :: Φ) w → fixN (fun k (s : (Ex × (List Int))) => scrutinyref13_Eval_F k s.1 s.2) N (e, v3) = some r → CallsR Tryd.prog 25 [(.agg #[(.int .i64 e.op), (.int .i64 e.n), (.int .i64 e.at_), (sl v1)]), (sl v4)] w (fun v w' => v = (.int .i64 r) ∧ Sat (Φ) w') := by
    intro N
    induction N with
    | zero => intros; rename_i h; cases h
    | succ N ih => intros; rename_i hs hm; rw [fixN_succ] at hm; exact scrutinyref13_Eval_F_ok (@ih) hs hm
  unfold scrutinyref13_Eval at hm
  exact key FUEL hs hm

end Go.Proofs.YtmeombbmhpcacaaDoor
