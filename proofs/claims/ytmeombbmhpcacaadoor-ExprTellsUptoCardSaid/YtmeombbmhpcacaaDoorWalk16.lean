/- Printed by a program: the walks. -/
import Derived.Test.YtmeombbmhpcacaaDoorWalk15
namespace Go.Proofs.YtmeombbmhpcacaaDoor
open Go.Proofs

set_option maxRecDepth 100000 in
set_option maxHeartbeats 4000000 in
theorem scrutinylaw13_ExprTells_ok {Φ : Ctx} {w : World} {with_ : (Ex × Ex × (List Int) × Str)} {v1 : SLV} {v3 : SLV} {v5 : SLV} {r : Bool} (hs : Sat (imm (RSl RExpr) [sl v1] with_.1.l :: imm (RSl RExpr) [sl v3] with_.2.1.l :: imm (RSl (RI .i64)) [sl v5] with_.2.2.1 :: gl 0 (keysL.map S) :: gl 1 (textsL.map S) :: gl 2 (pow10L.map (Value.int .u64)) :: Φ) w) (hm : scrutinylaw13_ExprTells with_ = some r) :
    CallsR Tryd.prog 3 [(.agg #[(.int .i64 with_.1.op), (.int .i64 with_.1.n), (.int .i64 with_.1.at_), (sl v1), (.int .i64 with_.2.1.op), (.int .i64 with_.2.1.n), (.int .i64 with_.2.1.at_), (sl v3), (sl v5), (S with_.2.2.2)])] w (fun v w' => v = (.bool r) ∧ Sat (Φ) w') := by
  refine CallsX_enter Tryd.func3 rfl Tryd.ntmps3 rfl ?_
  unfold scrutinylaw13_ExprTells at hm
  refine WC_seq ?_
  refine WC_region ?_
  refine WS_box (zs := [(.int .i64 with_.1.op), (.int .i64 with_.1.n), (.int .i64 with_.1.at_), (sl v1), (.int .i64 with_.2.1.op), (.int .i64 with_.2.1.n), (.int .i64 with_.2.1.at_), (sl v3), (sl v5), (S with_.2.2.2)]) hs (Opd.t rfl) rfl rfl ?_
  intro b3 w4 hs
  replace hs := Sat.n7 (Γ := Φ) hs rfl
  refine WL_op (Run_assign Opd.c) rfl rfl rfl rfl <| ?_
  refine WL_nil ?_
  refine At_then ?_
  refine WC_seq ?_
  refine WC_region ?_
  refine WL_op (Run_fieldAddr fo27_0 (Opd.t rfl)) rfl rfl rfl rfl <| WL_op (Run_loadA (vs := [(.int .i64 with_.1.op), (.int .i64 with_.1.n), (.int .i64 with_.1.at_), (sl v1)]) Tryd.underlying24 rfl ti24 (Opd.t rfl) (fun _ => (hs.box (i := 0) rfl).part 0 rfl) rfl) rfl rfl rfl rfl <| ?_
  refine WS_alloc (zs := [(.int .i64 0), (.int .i64 0), (.int .i64 0), (sl (none, 0, 0))]) hs ti24 rfl rfl ?_
  intro b5 w6 hs
  replace hs := Sat.n8 (Γ := Φ) hs rfl
  refine WS_store (us := [(.int .i64 with_.1.op), (.int .i64 with_.1.n), (.int .i64 with_.1.at_), (sl v1)]) (vs' := [(.int .i64 with_.1.op), (.int .i64 with_.1.n), (.int .i64 with_.1.at_), (sl v1)]) hs 0 rfl ti24 (Opd.t rfl) (Opd.t rfl) rfl rfl rfl rfl rfl ?_
  intro w7 hs
  replace hs := Sat.n8 (Γ := Φ) hs rfl
  refine WL_nil ?_
  refine At_then ?_
  refine WC_seq ?_
  refine WC_region ?_
  refine WL_op (Run_fieldAddr fo27_1 (Opd.t rfl)) rfl rfl rfl rfl <| WL_op (Run_loadA (vs := [(.int .i64 with_.2.1.op), (.int .i64 with_.2.1.n), (.int .i64 with_.2.1.at_), (sl v3)]) Tryd.underlying24 rfl ti24 (Opd.t rfl) (fun _ => (hs.box (i := 1) rfl).part 4 rfl) rfl) rfl rfl rfl rfl <| ?_
  refine WS_alloc (zs := [(.int .i64 0), (.int .i64 0), (.int .i64 0), (sl (none, 0, 0))]) hs ti24 rfl rfl ?_
  intro b8 w9 hs
  replace hs := Sat.n9 (Γ := Φ) hs rfl
  refine WS_store (us := [(.int .i64 with_.2.1.op), (.int .i64 with_.2.1.n), (.int .i64 with_.2.1.at_), (sl v3)]) (vs' := [(.int .i64 with_.2.1.op), (.int .i64 with_.2.1.n), (.int .i64 with_.2.1.at_), (sl v3)]) hs 0 rfl ti24 (Opd.t rfl) (Opd.t rfl) rfl rfl rfl rfl rfl ?_
  intro w10 hs
  replace hs := Sat.n9 (Γ := Φ) hs rfl
  refine WL_nil ?_
  refine At_then ?_
  refine WC_seq ?_
  refine WC_region ?_
  refine WL_op (Run_fieldAddr fo27_2 (Opd.t rfl)) rfl rfl rfl rfl <| WL_op (Run_load1 (v := (sl v5)) Tryd.underlying25 rfl (Opd.t rfl) (fun _ => (hs.box (i := 2) rfl).part 8 rfl)) rfl rfl rfl rfl <| WL_op (Run_assign (Opd.t rfl)) rfl rfl rfl rfl <| ?_
  refine WL_nil ?_
  refine At_then ?_
  refine WC_seq ?_
  refine WC_region ?_
  refine WL_op (Run_fieldAddr fo27_3 (Opd.t rfl)) rfl rfl rfl rfl <| WL_op (Run_load1 (v := (S with_.2.2.2)) Tryd.underlying9 rfl (Opd.t rfl) (fun _ => (hs.box (i := 2) rfl).part 9 rfl)) rfl rfl rfl rfl <| WL_op (Run_assign (Opd.t rfl)) rfl rfl rfl rfl <| ?_
  refine WL_nil ?_
  refine At_then ?_
  refine WC_seq ?_
  refine WC_region ?_
  obtain ⟨r11, hr12, hm⟩ := bind_some' hm
  refine WL_call (f := 10) (first := []) (cap := []) (xs := []) (vs := []) (args := []) Tryd.call10 Opd.f .nil rfl rfl (scrutinylaw13_shown_ok (hs.re 9 [6, 7, 8, 0, 1, 2, 3, 4, 5, 6, 7, 8] rfl) hr12) ?_
  rintro _ w13 ⟨rfl, hs⟩
  replace hs := Sat.n9 (Γ := Φ) hs rfl
  refine WL_op (Run_assign (Opd.t rfl)) rfl rfl rfl rfl <| ?_
  refine WL_nil ?_
  refine At_then ?_
  refine WC_seq ?_
  refine WC_seq ?_
  refine WC_region ?_
  refine WL_op (Run_loadA (vs := [(.int .i64 with_.1.op), (.int .i64 with_.1.n), (.int .i64 with_.1.at_), (sl v1)]) Tryd.underlying24 rfl ti24 (Opd.t rfl) (fun _ => (hs.box (i := 1) rfl).part 0 rfl) rfl) rfl rfl rfl rfl <| ?_
  obtain ⟨r14, hr15, hm⟩ := bind_some' hm
  refine WL_call (f := 11) (first := []) (cap := []) (xs := [(.tmp 23)]) (vs := [(.agg #[(.int .i64 with_.1.op), (.int .i64 with_.1.n), (.int .i64 with_.1.at_), (sl v1)])]) (args := [(.agg #[(.int .i64 with_.1.op), (.int .i64 with_.1.n), (.int .i64 with_.1.at_), (sl v1)])]) Tryd.call11 Opd.f (.cons (Opd.t rfl) .nil) rfl rfl (scrutinyref13_Few_ok (hs.re 9 [3, 0, 1, 2, 3, 4, 5, 6, 7, 8] rfl) hr15) ?_
  rintro _ w16 ⟨rfl, hs⟩
  replace hs := Sat.n9 (Γ := Φ) hs rfl
  obtain ⟨b17, e18, hm⟩ := letv_some hm
  refine WL_op (Run.eqB (Run_notB (Opd.t rfl)) e18) rfl rfl rfl rfl <| WL_op (Run_move (Opd.t rfl)) rfl rfl rfl rfl <| WL_opG rfl rfl rfl rfl guard_neg (Run_loadA (vs := [(.int .i64 with_.2.1.op), (.int .i64 with_.2.1.n), (.int .i64 with_.2.1.at_), (sl v3)]) Tryd.underlying24 rfl ti24 (Opd.t rfl) (fun _ => (hs.box (i := 0) rfl).part 0 rfl) rfl) rfl rfl rfl <| ?_
  obtain ⟨r19, hr20, -, hm⟩ := callG_some hm
  refine WL_callG rfl rfl rfl guard_neg (f := 11) (first := []) (cap := []) (xs := [(.tmp 27)]) (vs := [(.agg #[(.int .i64 with_.2.1.op), (.int .i64 with_.2.1.n), (.int .i64 with_.2.1.at_), (sl v3)])]) (args := [(.agg #[(.int .i64 with_.2.1.op), (.int .i64 with_.2.1.n), (.int .i64 with_.2.1.at_), (sl v3)])]) Tryd.call11 Opd.f (.cons (Opd.g rfl id) .nil) rfl rfl (fun hg => scrutinyref13_Few_ok (hs.re 9 [4, 0, 1, 2, 3, 4, 5, 6, 7, 8] rfl) (hr20 hg)) ?_
  intro v22 w21 hv23 hz24
  replace hs := Sat.ofG (fun hg => (hv23 hg).2.re 9 [0, 1, 2, 3, 4, 5, 6, 7, 8] rfl) hz24 hs
  refine WL_sub1 (v := (.bool r19)) (fun hg => (hv23 hg).1) ?_
  replace hs := Sat.n9 (Γ := Φ) hs rfl
  obtain ⟨b25, e26, hm⟩ := letv_some hm
  refine WL_opG rfl rfl rfl rfl guard_neg (Run.eqB (Run_notB (Opd.g rfl id)) e26) rfl rfl rfl <| ?_
  obtain ⟨b27, e28, hm⟩ := letv_some hm
  refine WL_op (Run.eqB (Run_or (Opd.t rfl) (Opd.g rfl id)) e28) rfl rfl rfl rfl <| WL_op (Run_move (Opd.t rfl)) rfl rfl rfl rfl <| WL_opG rfl rfl rfl rfl guard_neg (Run_move (Opd.t rfl)) rfl rfl rfl <| WL_opG rfl rfl rfl rfl guard_neg (Run_lenSlG Tryd.underlying25 (Opd.g rfl id) (fun hg => (hs.sl (i := 5) rfl).len)) rfl rfl rfl <| ?_
  obtain ⟨b29, e30, hm⟩ := letv_some hm
  refine WL_opG rfl rfl rfl rfl guard_neg (Run.eqB (Run_gtI (Opd.g rfl id) Opd.c) e30) rfl rfl rfl <| ?_
  obtain ⟨b31, e32, hm⟩ := letv_some hm
  refine WL_op (Run.eqB (Run_or (Opd.t rfl) (Opd.g rfl id)) e32) rfl rfl rfl rfl <| WL_op (Run_move (Opd.t rfl)) rfl rfl rfl rfl <| WL_opG rfl rfl rfl rfl guard_neg (Run_move (Opd.t rfl)) rfl rfl rfl <| WL_opG rfl rfl rfl rfl guard_neg (Run_lenS Tryd.underlying9 (Opd.g rfl id)) rfl rfl rfl <| ?_
  obtain ⟨b33, e34, hm⟩ := letv_some hm
  refine WL_opG rfl rfl rfl rfl guard_neg (Run.eqB (Run_gtI (Opd.g rfl id) Opd.c) e34) rfl rfl rfl <| ?_
  obtain ⟨b35, e36, hm⟩ := letv_some hm
  refine WL_op (Run.eqB (Run_or (Opd.t rfl) (Opd.g rfl id)) e36) rfl rfl rfl rfl <| ?_
  refine WL_nil ?_
  refine At_then ?_
  refine WC_cond (Opd.t rfl) (fun hc37 => ?_) (fun hc37 => ?_)
  ·
    replace hm := bif_t hc37 hm
    refine WC_seq ?_
    refine WC_region ?_
    refine WL_op (Run_move (Opd.t rfl)) rfl rfl rfl rfl <| WL_op (Run_assign (Opd.t rfl)) rfl rfl rfl rfl <| ?_
    refine WL_nil ?_
    refine At_then ?_
    refine WC_ret ?_
    refine At_then_ret <| ?_
    refine At_r1 rfl (ResIs.t rfl) ?_
    cases hm
    exact ⟨rfl, (hs.re 9 [] rfl)⟩
  ·
    replace hm := bif_f hc37 hm
    refine WC_skip ?_
    refine At_then ?_
    refine WC_seq ?_
    refine WC_seq ?_
    refine WC_region_mixed [0, 1, 0, 6, 10, 24, 32, 32, 224, 32, 32, 1824, 2336, 4128, 10240, 16384, 49152, 16384, 212992, 344064, 540672] (.q 0 0 (.q 2 1 (.l 1 5 (.l 3 7 (.q 4 15 (.q 5 31 (.q 6 63 (.q 7 127 (.q 9 255 (.q 10 767 (.l 8 1791 (.l 11 2047 (.q 12 4095 (.q 13 8191 (.q 14 16383 (.q 15 32767 (.q 17 65535 (.l 16 196607 (.l 18 262143 (.q 19 524287 (.q 20 1048575 .nil))))))))))))))))))))) (by kernel_rfl) (by kernel_rfl) ?_
    intro w38 hx39
    replace hs := hs.ext hx39
    refine WD_pure (fun _ => (Run_move (Opd.t rfl))) rfl rfl rfl rfl <| WD_pure (fun _ => (Run_move (Opd.t rfl))) rfl rfl rfl rfl <| ?_
    refine WD_loud (pend' := []) rfl (by kernel_rfl) ?_
    obtain ⟨r40, hr41, hm⟩ := bind_some' hm
    refine WL_call (f := 12) (first := []) (cap := []) (xs := [(.tmp 42)]) (vs := [(S with_.2.2.2)]) (args := [(S with_.2.2.2)]) Tryd.call12 Opd.f (.cons (Opd.t rfl) .nil) rfl rfl (expr_Key_ok (hs.re 9 [6, 0, 1, 2, 3, 4, 5, 6, 7, 8] rfl) hr41) ?_
    rintro _ w42 ⟨rfl, hs⟩
    replace hs := Sat.n9 (Γ := Φ) hs rfl
    refine WL_nil ?_
    refine At_QK allJ_nil ?_
    refine WD_loud (pend' := []) rfl (by kernel_rfl) ?_
    obtain ⟨r43, hr44, hm⟩ := bind_some' hm
    refine WL_call (f := 13) (first := []) (cap := []) (xs := [(.tmp 44)]) (vs := [(S with_.2.2.2)]) (args := [(S with_.2.2.2)]) Tryd.call13 Opd.f (.cons (Opd.t rfl) .nil) rfl rfl (scrutinyref13_Key_ok (hs.re 9 [0, 1, 2, 3, 4, 5, 6, 7, 8] rfl) hr44) ?_
    rintro _ w45 ⟨rfl, hs⟩
    replace hs := Sat.n9 (Γ := Φ) hs rfl
    refine WL_nil ?_
    refine At_QK allJ_nil ?_
    obtain ⟨b46, e47, hm⟩ := letv_some hm
    refine WD_pure (fun _ => (Run.eqB (Run_neB Tryd.underlying4 (Opd.t rfl) (Opd.t rfl)) e47)) rfl rfl rfl rfl <| WD_pure (fun _ => (Run_move (Opd.t rfl))) rfl rfl rfl rfl <| WD_opG (fun w => CellsAt w ⟨b5, 0, none⟩ [(.int .i64 with_.1.op), (.int .i64 with_.1.n), (.int .i64 with_.1.at_), (sl v1)]) ((hs.box (i := 1) rfl).part 0 rfl) rfl rfl rfl rfl guard_neg (fun _ hJ => (Run_loadA (vs := [(.int .i64 with_.1.op), (.int .i64 with_.1.n), (.int .i64 with_.1.at_), (sl v1)]) Tryd.underlying24 rfl ti24 (Opd.t rfl) (fun _ => hJ) rfl)) rfl rfl rfl <| WD_opG (fun w => CellsAt w ⟨b8, 0, none⟩ [(.int .i64 with_.2.1.op), (.int .i64 with_.2.1.n), (.int .i64 with_.2.1.at_), (sl v3)]) ((hs.box (i := 0) rfl).part 0 rfl) rfl rfl rfl rfl guard_neg (fun _ hJ => (Run_loadA (vs := [(.int .i64 with_.2.1.op), (.int .i64 with_.2.1.n), (.int .i64 with_.2.1.at_), (sl v3)]) Tryd.underlying24 rfl ti24 (Opd.t rfl) (fun _ => hJ) rfl)) rfl rfl rfl <| WD_opG (fun w => CellsAt w ⟨b5, 0, none⟩ [(.int .i64 with_.1.op), (.int .i64 with_.1.n), (.int .i64 with_.1.at_), (sl v1)]) ((hs.box (i := 1) rfl).part 0 rfl) rfl rfl rfl rfl guard_neg (fun _ hJ => (Run_loadA (vs := [(.int .i64 with_.1.op), (.int .i64 with_.1.n), (.int .i64 with_.1.at_), (sl v1)]) Tryd.underlying24 rfl ti24 (Opd.t rfl) (fun _ => hJ) rfl)) rfl rfl rfl <| WD_opG (fun w => CellsAt w ⟨b8, 0, none⟩ [(.int .i64 with_.2.1.op), (.int .i64 with_.2.1.n), (.int .i64 with_.2.1.at_), (sl v3)]) ((hs.box (i := 0) rfl).part 0 rfl) rfl rfl rfl rfl guard_neg (fun _ hJ => (Run_loadA (vs := [(.int .i64 with_.2.1.op), (.int .i64 with_.2.1.n), (.int .i64 with_.2.1.at_), (sl v3)]) Tryd.underlying24 rfl ti24 (Opd.t rfl) (fun _ => hJ) rfl)) rfl rfl rfl <| ?_
    refine WD_loud (pend' := [(10, fun w => CellsAt w ⟨b8, 0, none⟩ [(.int .i64 with_.2.1.op), (.int .i64 with_.2.1.n), (.int .i64 with_.2.1.at_), (sl v3)]), (9, fun w => CellsAt w ⟨b5, 0, none⟩ [(.int .i64 with_.1.op), (.int .i64 with_.1.n), (.int .i64 with_.1.at_), (sl v1)])]) rfl (by kernel_rfl) ?_
    obtain ⟨r48, hr49, -, hm⟩ := callG_some hm
    refine WL_callG rfl rfl rfl guard_neg (f := 14) (first := []) (cap := []) (xs := [(.tmp 48), (.tmp 49)]) (vs := [(.agg #[(.int .i64 with_.1.op), (.int .i64 with_.1.n), (.int .i64 with_.1.at_), (sl v1)]), (.agg #[(.int .i64 with_.2.1.op), (.int .i64 with_.2.1.n), (.int .i64 with_.2.1.at_), (sl v3)])]) (args := [(.agg #[(.int .i64 with_.1.op), (.int .i64 with_.1.n), (.int .i64 with_.1.at_), (sl v1)]), (.agg #[(.int .i64 with_.2.1.op), (.int .i64 with_.2.1.n), (.int .i64 with_.2.1.at_), (sl v3)])]) Tryd.call14 Opd.f (.cons (Opd.g rfl id) (.cons (Opd.g rfl id) .nil)) rfl rfl (fun hg => expr_Same_ok (hs.re 9 [3, 4, 0, 1, 2, 3, 4, 5, 6, 7, 8] rfl) (hr49 hg)) ?_
    intro v51 w50 hv52 hz53
    replace hs := Sat.ofG (fun hg => (hv52 hg).2.re 9 [0, 1, 2, 3, 4, 5, 6, 7, 8] rfl) hz53 hs
    refine WL_sub1 (v := (.bool r48)) (fun hg => (hv52 hg).1) ?_
    replace hs := Sat.n9 (Γ := Φ) hs rfl
    refine WL_nil ?_
    refine At_QK (allJ_cons ((hs.box (i := 0) rfl).part 0 rfl) (allJ_cons ((hs.box (i := 1) rfl).part 0 rfl) allJ_nil)) ?_
    refine WD_loud (pend' := []) rfl (by kernel_rfl) ?_
    obtain ⟨r54, hr55, -, hm⟩ := callG_some hm
    refine WL_callG rfl rfl rfl guard_neg (f := 15) (first := []) (cap := []) (xs := [(.tmp 51), (.tmp 52)]) (vs := [(.agg #[(.int .i64 with_.1.op), (.int .i64 with_.1.n), (.int .i64 with_.1.at_), (sl v1)]), (.agg #[(.int .i64 with_.2.1.op), (.int .i64 with_.2.1.n), (.int .i64 with_.2.1.at_), (sl v3)])]) (args := [(.agg #[(.int .i64 with_.1.op), (.int .i64 with_.1.n), (.int .i64 with_.1.at_), (sl v1)]), (.agg #[(.int .i64 with_.2.1.op), (.int .i64 with_.2.1.n), (.int .i64 with_.2.1.at_), (sl v3)])]) Tryd.call15 Opd.f (.cons (Opd.g rfl id) (.cons (Opd.g rfl id) .nil)) rfl rfl (fun hg => scrutinyref13_Same_ok (hs.re 9 [3, 4, 0, 1, 2, 3, 4, 5, 6, 7, 8] rfl) (hr55 hg)) ?_
    intro v57 w56 hv58 hz59
    replace hs := Sat.ofG (fun hg => (hv58 hg).2.re 9 [0, 1, 2, 3, 4, 5, 6, 7, 8] rfl) hz59 hs
    refine WL_sub1 (v := (.bool r54)) (fun hg => (hv58 hg).1) ?_
    replace hs := Sat.n9 (Γ := Φ) hs rfl
    refine WL_nil ?_
    refine At_QK allJ_nil ?_
    obtain ⟨b60, e61, hm⟩ := letv_some hm
    refine WD_pureG rfl rfl rfl rfl guard_neg (fun _ => (Run.eqB (Run_neB Tryd.underlying4 (Opd.g rfl id) (Opd.g rfl id)) e61)) rfl rfl rfl <| ?_
    obtain ⟨b62, e63, hm⟩ := letv_some hm
    refine WD_pure (fun _ => (Run.eqB (Run_or (Opd.t rfl) (Opd.g rfl id)) e63)) rfl rfl rfl rfl <| WD_pure (fun _ => (Run_move (Opd.t rfl))) rfl rfl rfl rfl <| WD_opG (fun w => CellsAt w ⟨b5, 0, none⟩ [(.int .i64 with_.1.op), (.int .i64 with_.1.n), (.int .i64 with_.1.at_), (sl v1)]) ((hs.box (i := 1) rfl).part 0 rfl) rfl rfl rfl rfl guard_neg (fun _ hJ => (Run_loadA (vs := [(.int .i64 with_.1.op), (.int .i64 with_.1.n), (.int .i64 with_.1.at_), (sl v1)]) Tryd.underlying24 rfl ti24 (Opd.t rfl) (fun _ => hJ) rfl)) rfl rfl rfl <| WD_opG (fun w => CellsAt w ⟨b5, 0, none⟩ [(.int .i64 with_.1.op), (.int .i64 with_.1.n), (.int .i64 with_.1.at_), (sl v1)]) ((hs.box (i := 1) rfl).part 0 rfl) rfl rfl rfl rfl guard_neg (fun _ hJ => (Run_loadA (vs := [(.int .i64 with_.1.op), (.int .i64 with_.1.n), (.int .i64 with_.1.at_), (sl v1)]) Tryd.underlying24 rfl ti24 (Opd.t rfl) (fun _ => hJ) rfl)) rfl rfl rfl <| ?_
    refine WD_loud (pend' := [(17, fun w => CellsAt w ⟨b5, 0, none⟩ [(.int .i64 with_.1.op), (.int .i64 with_.1.n), (.int .i64 with_.1.at_), (sl v1)])]) rfl (by kernel_rfl) ?_
    obtain ⟨r64, hr65, -, hm⟩ := callG_some hm
    refine WL_callG rfl rfl rfl guard_neg (f := 16) (first := []) (cap := []) (xs := [(.tmp 57)]) (vs := [(.agg #[(.int .i64 with_.1.op), (.int .i64 with_.1.n), (.int .i64 with_.1.at_), (sl v1)])]) (args := [(.agg #[(.int .i64 with_.1.op), (.int .i64 with_.1.n), (.int .i64 with_.1.at_), (sl v1)])]) Tryd.call16 Opd.f (.cons (Opd.g rfl id) .nil) rfl rfl (fun hg => expr_Size_ok (hs.re 9 [3, 0, 1, 2, 3, 4, 5, 6, 7, 8] rfl) (hr65 hg)) ?_
    intro v67 w66 hv68 hz69
    replace hs := Sat.ofG (fun hg => (hv68 hg).2.re 9 [0, 1, 2, 3, 4, 5, 6, 7, 8] rfl) hz69 hs
    refine WL_sub1 (v := (.int .i64 r64)) (fun hg => (hv68 hg).1) ?_
    replace hs := Sat.n9 (Γ := Φ) hs rfl
    refine WL_nil ?_
    refine At_QK (allJ_cons ((hs.box (i := 1) rfl).part 0 rfl) allJ_nil) ?_
    refine WD_loud (pend' := []) rfl (by kernel_rfl) ?_
    obtain ⟨r70, hr71, -, hm⟩ := callG_some hm
    refine WL_callG rfl rfl rfl guard_neg (f := 17) (first := []) (cap := []) (xs := [(.tmp 59)]) (vs := [(.agg #[(.int .i64 with_.1.op), (.int .i64 with_.1.n), (.int .i64 with_.1.at_), (sl v1)])]) (args := [(.agg #[(.int .i64 with_.1.op), (.int .i64 with_.1.n), (.int .i64 with_.1.at_), (sl v1)])]) Tryd.call17 Opd.f (.cons (Opd.g rfl id) .nil) rfl rfl (fun hg => scrutinyref13_Size_ok (hs.re 9 [3, 0, 1, 2, 3, 4, 5, 6, 7, 8] rfl) (hr71 hg)) ?_
    intro v73 w72 hv74 hz75
    replace hs := Sat.ofG (fun hg => (hv74 hg).2.re 9 [0, 1, 2, 3, 4, 5, 6, 7, 8] rfl) hz75 hs
    refine WL_sub1 (v := (.int .i64 r70)) (fun hg => (hv74 hg).1) ?_
    replace hs := Sat.n9 (Γ := Φ) hs rfl
    refine WL_nil ?_
    refine At_QK allJ_nil ?_
    obtain ⟨b76, e77, hm⟩ := letv_some hm
    refine WD_pureG rfl rfl rfl rfl guard_neg (fun _ => (Run.eqB (Run_neI (Opd.g rfl id) (Opd.g rfl id)) e77)) rfl rfl rfl <| ?_
    obtain ⟨b78, e79, hm⟩ := letv_some hm
    refine WD_pure (fun _ => (Run.eqB (Run_or (Opd.t rfl) (Opd.g rfl id)) e79)) rfl rfl rfl rfl <| ?_
    refine WD_nil ?_
    refine At_then ?_
    refine WC_cond (Opd.t rfl) (fun hc80 => ?_) (fun hc80 => ?_)
    ·
      replace hm := bif_t hc80 hm
      refine WC_seq ?_
      refine WC_region ?_
      refine WL_op (Run_assign Opd.c) rfl rfl rfl rfl <| ?_
      refine WL_nil ?_
      refine At_then ?_
      refine WC_ret ?_
      refine At_then_ret <| ?_
      refine At_r1 rfl (ResIs.t rfl) ?_
      cases hm
      exact ⟨rfl, (hs.re 9 [] rfl)⟩
    ·
      replace hm := bif_f hc80 hm
      refine WC_skip ?_
      refine At_then ?_
      refine WC_seq ?_
      refine WC_seq ?_
      refine WC_region ?_
      refine WL_op (Run_loadA (vs := [(.int .i64 with_.1.op), (.int .i64 with_.1.n), (.int .i64 with_.1.at_), (sl v1)]) Tryd.underlying24 rfl ti24 (Opd.t rfl) (fun _ => (hs.box (i := 1) rfl).part 0 rfl) rfl) rfl rfl rfl rfl <| ?_
      obtain ⟨r81, hr82, hm⟩ := bind_some' hm
      refine WL_call (f := 18) (first := []) (cap := []) (xs := [(.tmp 63), (.const (.int .i64 3))]) (vs := [(.agg #[(.int .i64 with_.1.op), (.int .i64 with_.1.n), (.int .i64 with_.1.at_), (sl v1)]), (.int .i64 3)]) (args := [(.agg #[(.int .i64 with_.1.op), (.int .i64 with_.1.n), (.int .i64 with_.1.at_), (sl v1)]), (.int .i64 3)]) Tryd.call18 Opd.f (.cons (Opd.t rfl) (.cons Opd.c .nil)) rfl rfl (scrutinyref13_May_ok (hs.re 9 [3, 0, 1, 2, 3, 4, 5, 6, 7, 8] rfl) hr82) ?_
      rintro _ w83 ⟨rfl, hs⟩
      replace hs := Sat.n9 (Γ := Φ) hs rfl
      refine WL_op (Run_notB (Opd.t rfl)) rfl rfl rfl rfl <| ?_
      refine WL_nil ?_
      refine At_then ?_
      refine WC_cond (Opd.t rfl) (fun hc84 => ?_) (fun hc84 => ?_)
      ·
        replace hm := bif_t hc84 hm
        refine WC_seq ?_
        refine WC_region ?_
        refine WL_op (Run_move (Opd.t rfl)) rfl rfl rfl rfl <| WL_op (Run_assign (Opd.t rfl)) rfl rfl rfl rfl <| ?_
        refine WL_nil ?_
        refine At_then ?_
        refine WC_ret ?_
        refine At_then_ret <| ?_
        refine At_r1 rfl (ResIs.t rfl) ?_
        cases hm
        exact ⟨rfl, (hs.re 9 [] rfl)⟩
      ·
        replace hm := bif_f hc84 hm
        refine WC_skip ?_
        refine At_then ?_
        refine WC_seq ?_
        refine WC_region ?_
        refine WL_op (Run_loadA (vs := [(.int .i64 with_.1.op), (.int .i64 with_.1.n), (.int .i64 with_.1.at_), (sl v1)]) Tryd.underlying24 rfl ti24 (Opd.t rfl) (fun _ => (hs.box (i := 1) rfl).part 0 rfl) rfl) rfl rfl rfl rfl <| ?_
        obtain ⟨r85, hr86, hm⟩ := bind_some' hm
        refine WL_call (f := 19) (first := []) (cap := []) (xs := [(.tmp 68)]) (vs := [(.agg #[(.int .i64 with_.1.op), (.int .i64 with_.1.n), (.int .i64 with_.1.at_), (sl v1)])]) (args := [(.agg #[(.int .i64 with_.1.op), (.int .i64 with_.1.n), (.int .i64 with_.1.at_), (sl v1)])]) Tryd.call19 Opd.f (.cons (Opd.t rfl) .nil) rfl rfl (expr_Type_ok (hs.re 9 [3, 0, 1, 2, 3, 4, 5, 6, 7, 8] rfl) hr86) ?_
        rintro _ w87 ⟨rfl, hs⟩
        replace hs := Sat.n9 (Γ := Φ) hs rfl
        refine WL_op (Run_move (Opd.t rfl)) rfl rfl rfl rfl <| WL_op (Run_extract (vs := [(.int .i64 r85.1), (.int .i64 r85.2.1), (.int .i64 r85.2.2)]) (Opd.t rfl) rfl) rfl rfl rfl rfl <| WL_op (Run_extract (vs := [(.int .i64 r85.1), (.int .i64 r85.2.1), (.int .i64 r85.2.2)]) (Opd.t rfl) rfl) rfl rfl rfl rfl <| WL_op (Run_extract (vs := [(.int .i64 r85.1), (.int .i64 r85.2.1), (.int .i64 r85.2.2)]) (Opd.t rfl) rfl) rfl rfl rfl rfl <| WL_op (Run_assign (Opd.t rfl)) rfl rfl rfl rfl <| WL_op (Run_assign (Opd.t rfl)) rfl rfl rfl rfl <| WL_op (Run_assign (Opd.t rfl)) rfl rfl rfl rfl <| ?_
        refine WL_nil ?_
        refine At_then ?_
        refine WC_seq ?_
        refine WC_region ?_
        refine WL_op (Run_loadA (vs := [(.int .i64 with_.1.op), (.int .i64 with_.1.n), (.int .i64 with_.1.at_), (sl v1)]) Tryd.underlying24 rfl ti24 (Opd.t rfl) (fun _ => (hs.box (i := 1) rfl).part 0 rfl) rfl) rfl rfl rfl rfl <| ?_
        obtain ⟨r88, hr89, hm⟩ := bind_some' hm
        refine WL_call (f := 20) (first := []) (cap := []) (xs := [(.tmp 74)]) (vs := [(.agg #[(.int .i64 with_.1.op), (.int .i64 with_.1.n), (.int .i64 with_.1.at_), (sl v1)])]) (args := [(.agg #[(.int .i64 with_.1.op), (.int .i64 with_.1.n), (.int .i64 with_.1.at_), (sl v1)])]) Tryd.call20 Opd.f (.cons (Opd.t rfl) .nil) rfl rfl (scrutinyref13_Type_ok (hs.re 9 [3, 0, 1, 2, 3, 4, 5, 6, 7, 8] rfl) hr89) ?_
        rintro _ w90 ⟨rfl, hs⟩
        replace hs := Sat.n9 (Γ := Φ) hs rfl
        refine WL_op (Run_move (Opd.t rfl)) rfl rfl rfl rfl <| WL_op (Run_extract (vs := [(.int .i64 r88.1), (.int .i64 r88.2.1), (.int .i64 r88.2.2)]) (Opd.t rfl) rfl) rfl rfl rfl rfl <| WL_op (Run_extract (vs := [(.int .i64 r88.1), (.int .i64 r88.2.1), (.int .i64 r88.2.2)]) (Opd.t rfl) rfl) rfl rfl rfl rfl <| WL_op (Run_extract (vs := [(.int .i64 r88.1), (.int .i64 r88.2.1), (.int .i64 r88.2.2)]) (Opd.t rfl) rfl) rfl rfl rfl rfl <| WL_op (Run_assign (Opd.t rfl)) rfl rfl rfl rfl <| WL_op (Run_assign (Opd.t rfl)) rfl rfl rfl rfl <| WL_op (Run_assign (Opd.t rfl)) rfl rfl rfl rfl <| ?_
        refine WL_nil ?_
        refine At_then ?_
        refine WC_seq ?_
        refine WC_seq ?_
        refine WC_region_mixed [0, 0, 3, 4, 8, 8, 56, 72, 136, 256, 256, 1792, 2304, 4352, 8192, 8192, 57344, 8192, 73728, 401408, 598016, 1056768] (.q 0 0 (.q 1 1 (.q 2 3 (.q 3 7 (.q 4 15 (.q 5 31 (.q 6 63 (.q 7 127 (.q 8 255 (.q 9 511 (.q 10 1023 (.q 11 2047 (.q 12 4095 (.q 13 8191 (.q 14 16383 (.q 17 32767 (.l 15 163839 (.l 16 196607 (.l 18 262143 (.l 19 524287 (.q 20 1048575 (.q 21 2097151 .nil)))))))))))))))))))))) (by kernel_rfl) (by kernel_rfl) ?_
        intro w91 hx92
        replace hs := hs.ext hx92
        refine WD_pure (fun _ => (Run_move (Opd.t rfl))) rfl rfl rfl rfl <| WD_pure (fun _ => (Run_move (Opd.t rfl))) rfl rfl rfl rfl <| ?_
        obtain ⟨b93, e94, hm⟩ := letv_some hm
        refine WD_pure (fun _ => (Run.eqB (Run_neI (Opd.t rfl) (Opd.t rfl)) e94)) rfl rfl rfl rfl <| WD_pure (fun _ => (Run_move (Opd.t rfl))) rfl rfl rfl rfl <| WD_pureG rfl rfl rfl rfl guard_neg (fun _ => (Run_move (Opd.t rfl))) rfl rfl rfl <| WD_pureG rfl rfl rfl rfl guard_neg (fun _ => (Run_move (Opd.t rfl))) rfl rfl rfl <| ?_
        obtain ⟨b95, e96, hm⟩ := letv_some hm
        refine WD_pureG rfl rfl rfl rfl guard_neg (fun _ => (Run.eqB (Run_neI (Opd.g rfl id) (Opd.g rfl id)) e96)) rfl rfl rfl <| ?_
        obtain ⟨b97, e98, hm⟩ := letv_some hm
        refine WD_pure (fun _ => (Run.eqB (Run_or (Opd.t rfl) (Opd.g rfl id)) e98)) rfl rfl rfl rfl <| WD_pure (fun _ => (Run_move (Opd.t rfl))) rfl rfl rfl rfl <| WD_pureG rfl rfl rfl rfl guard_neg (fun _ => (Run_move (Opd.t rfl))) rfl rfl rfl <| WD_pureG rfl rfl rfl rfl guard_neg (fun _ => (Run_move (Opd.t rfl))) rfl rfl rfl <| ?_
        obtain ⟨b99, e100, hm⟩ := letv_some hm
        refine WD_pureG rfl rfl rfl rfl guard_neg (fun _ => (Run.eqB (Run_neI (Opd.g rfl id) (Opd.g rfl id)) e100)) rfl rfl rfl <| ?_
        obtain ⟨b101, e102, hm⟩ := letv_some hm
        refine WD_pure (fun _ => (Run.eqB (Run_or (Opd.t rfl) (Opd.g rfl id)) e102)) rfl rfl rfl rfl <| WD_pure (fun _ => (Run_move (Opd.t rfl))) rfl rfl rfl rfl <| WD_opG (fun w => CellsAt w ⟨b5, 0, none⟩ [(.int .i64 with_.1.op), (.int .i64 with_.1.n), (.int .i64 with_.1.at_), (sl v1)]) ((hs.box (i := 1) rfl).part 0 rfl) rfl rfl rfl rfl guard_neg (fun _ hJ => (Run_loadA (vs := [(.int .i64 with_.1.op), (.int .i64 with_.1.n), (.int .i64 with_.1.at_), (sl v1)]) Tryd.underlying24 rfl ti24 (Opd.t rfl) (fun _ => hJ) rfl)) rfl rfl rfl <| WD_opG (fun w => CellsAt w ⟨b5, 0, none⟩ [(.int .i64 with_.1.op), (.int .i64 with_.1.n), (.int .i64 with_.1.at_), (sl v1)]) ((hs.box (i := 1) rfl).part 0 rfl) rfl rfl rfl rfl guard_neg (fun _ hJ => (Run_loadA (vs := [(.int .i64 with_.1.op), (.int .i64 with_.1.n), (.int .i64 with_.1.at_), (sl v1)]) Tryd.underlying24 rfl ti24 (Opd.t rfl) (fun _ => hJ) rfl)) rfl rfl rfl <| ?_
        refine WD_loud (pend' := [(17, fun w => CellsAt w ⟨b5, 0, none⟩ [(.int .i64 with_.1.op), (.int .i64 with_.1.n), (.int .i64 with_.1.at_), (sl v1)]), (14, fun w => CellsAt w ⟨b5, 0, none⟩ [(.int .i64 with_.1.op), (.int .i64 with_.1.n), (.int .i64 with_.1.at_), (sl v1)])]) rfl (by kernel_rfl) ?_
        obtain ⟨r103, hr104, -, hm⟩ := callG_some hm
        refine WL_callG rfl rfl rfl guard_neg (f := 22) (first := []) (cap := []) (xs := []) (vs := []) (args := []) Tryd.call22 Opd.f .nil rfl rfl (fun hg => scrutinylaw13_names_ok (hs.re 9 [0, 1, 2, 3, 4, 5, 6, 7, 8] rfl) (hr104 hg)) ?_
        intro v108 w107 hv109 hz110
        obtain ⟨v105, hw111, hs⟩ : ∃ v105 : SLV, ((!b101) = true → v108 = (sl v105)) ∧ Sat (immG (!b101) (RSl RS) [sl v105] r103 :: box b8 24 [(.int .i64 with_.2.1.op), (.int .i64 with_.2.1.n), (.int .i64 with_.2.1.at_), (sl v3)] :: box b5 24 [(.int .i64 with_.1.op), (.int .i64 with_.1.n), (.int .i64 with_.1.at_), (sl v1)] :: box b3 27 [(.int .i64 with_.1.op), (.int .i64 with_.1.n), (.int .i64 with_.1.at_), (sl v1), (.int .i64 with_.2.1.op), (.int .i64 with_.2.1.n), (.int .i64 with_.2.1.at_), (sl v3), (sl v5), (S with_.2.2.2)] :: imm (RSl RExpr) [sl v1] with_.1.l :: imm (RSl RExpr) [sl v3] with_.2.1.l :: imm (RSl (RI .i64)) [sl v5] with_.2.2.1 :: gl 0 (keysL.map S) :: gl 1 (textsL.map S) :: gl 2 (pow10L.map (Value.int .u64)) :: Φ) w107 := by
          cases hg : (!b101)
          · rw [hz110 hg]; exact ⟨(none, 0, 0), (fun h => by cases h), (sat_addG0 hs rfl)⟩
          · obtain ⟨v105, R106, hq, hs⟩ := hv109 hg
            replace hs := hs.freeze (i := 0) rfl
            replace hs := hs.re 10 [0, 1, 2, 3, 4, 5, 6, 7, 8, 9] rfl
            replace hs := sat_gate hs (i := 0) rfl true
            exact ⟨v105, (fun _ => hq), hs⟩
        refine WL_sub1 (v := (sl v105)) hw111 ?_
        refine WL_nil ?_
        refine At_QK (allJ_cons ((hs.box (i := 2) rfl).part 0 rfl) (allJ_cons ((hs.box (i := 2) rfl).part 0 rfl) allJ_nil)) ?_
        refine WD_loud (pend' := [(17, fun w => CellsAt w ⟨b5, 0, none⟩ [(.int .i64 with_.1.op), (.int .i64 with_.1.n), (.int .i64 with_.1.at_), (sl v1)])]) rfl (by kernel_rfl) ?_
        obtain ⟨r112, hr113, -, hm⟩ := callG_some hm
        refine WL_callG rfl rfl rfl guard_neg (f := 21) (first := []) (cap := []) (xs := [(.tmp 93), (.tmp 94)]) (vs := [(.agg #[(.int .i64 with_.1.op), (.int .i64 with_.1.n), (.int .i64 with_.1.at_), (sl v1)]), (sl v105)]) (args := [(.agg #[(.int .i64 with_.1.op), (.int .i64 with_.1.n), (.int .i64 with_.1.at_), (sl v1)]), (sl v105)]) Tryd.call21 Opd.f (.cons (Opd.g rfl id) (.cons (Opd.g rfl id) .nil)) rfl rfl (fun hg => expr_Show_ok ((hs.addS (hs.slG (i := 0) rfl hg)).re 11 [5, 0, 9, 10, 1, 2, 3, 4, 5, 6, 7, 8, 9, 10] rfl) (hr113 hg)) ?_
        intro v115 w114 hv116 hz117
        replace hs := Sat.ofG (fun hg => (hv116 hg).2.re 10 [0, 1, 2, 3, 4, 5, 6, 7, 8, 9] rfl) hz117 hs
        refine WL_sub1 (v := (S r112)) (fun hg => (hv116 hg).1) ?_
        replace hs := Sat.n10 (Γ := Φ) hs rfl
        refine WL_nil ?_
        refine At_QK (allJ_cons ((hs.box (i := 2) rfl).part 0 rfl) allJ_nil) ?_
        refine WD_loud (pend' := [(17, fun w => CellsAt w ⟨b5, 0, none⟩ [(.int .i64 with_.1.op), (.int .i64 with_.1.n), (.int .i64 with_.1.at_), (sl v1)])]) rfl (by kernel_rfl) ?_
        obtain ⟨r118, hr119, -, hm⟩ := callG_some hm
        refine WL_callG rfl rfl rfl guard_neg (f := 22) (first := []) (cap := []) (xs := []) (vs := []) (args := []) Tryd.call22 Opd.f .nil rfl rfl (fun hg => scrutinylaw13_names_ok (hs.re 10 [0, 1, 2, 3, 4, 5, 6, 7, 8, 9] rfl) (hr119 hg)) ?_
        intro v123 w122 hv124 hz125
        obtain ⟨v120, hw126, hs⟩ : ∃ v120 : SLV, ((!b101) = true → v123 = (sl v120)) ∧ Sat (immG (!b101) (RSl RS) [sl v120] r118 :: immG (!b101) (RSl RS) [sl v105] r103 :: box b8 24 [(.int .i64 with_.2.1.op), (.int .i64 with_.2.1.n), (.int .i64 with_.2.1.at_), (sl v3)] :: box b5 24 [(.int .i64 with_.1.op), (.int .i64 with_.1.n), (.int .i64 with_.1.at_), (sl v1)] :: box b3 27 [(.int .i64 with_.1.op), (.int .i64 with_.1.n), (.int .i64 with_.1.at_), (sl v1), (.int .i64 with_.2.1.op), (.int .i64 with_.2.1.n), (.int .i64 with_.2.1.at_), (sl v3), (sl v5), (S with_.2.2.2)] :: imm (RSl RExpr) [sl v1] with_.1.l :: imm (RSl RExpr) [sl v3] with_.2.1.l :: imm (RSl (RI .i64)) [sl v5] with_.2.2.1 :: gl 0 (keysL.map S) :: gl 1 (textsL.map S) :: gl 2 (pow10L.map (Value.int .u64)) :: Φ) w122 := by
          cases hg : (!b101)
          · rw [hg] at hs; rw [hz125 hg]; exact ⟨(none, 0, 0), (fun h => by cases h), (sat_addG0 hs rfl)⟩
          · obtain ⟨v120, R121, hq, hs⟩ := hv124 hg
            replace hs := hs.freeze (i := 0) rfl
            replace hs := hs.re 11 [0, 1, 2, 3, 4, 5, 6, 7, 8, 9, 10] rfl
            replace hs := sat_gate hs (i := 0) rfl true
            rw [hg] at hs
            exact ⟨v120, (fun _ => hq), hs⟩
        refine WL_sub1 (v := (sl v120)) hw126 ?_
        refine WL_nil ?_
        refine At_QK (allJ_cons ((hs.box (i := 3) rfl).part 0 rfl) allJ_nil) ?_
        refine WD_loud (pend' := []) rfl (by kernel_rfl) ?_
        obtain ⟨r127, hr128, -, hm⟩ := callG_some hm
        refine WL_callG rfl rfl rfl guard_neg (f := 23) (first := []) (cap := []) (xs := [(.tmp 96), (.tmp 97)]) (vs := [(.agg #[(.int .i64 with_.1.op), (.int .i64 with_.1.n), (.int .i64 with_.1.at_), (sl v1)]), (sl v120)]) (args := [(.agg #[(.int .i64 with_.1.op), (.int .i64 with_.1.n), (.int .i64 with_.1.at_), (sl v1)]), (sl v120)]) Tryd.call23 Opd.f (.cons (Opd.g rfl id) (.cons (Opd.g rfl id) .nil)) rfl rfl (fun hg => scrutinyref13_Show_ok ((hs.addS (hs.slG (i := 0) rfl hg)).re 12 [6, 0, 1, 2, 3, 4, 5, 6, 7, 8, 9, 10, 11] rfl) (hr128 hg)) ?_
        intro v130 w129 hv131 hz132
        replace hs := Sat.ofG (fun hg => (hv131 hg).2.re 11 [0, 1, 2, 3, 4, 5, 6, 7, 8, 9, 10] rfl) hz132 hs
        refine WL_sub1 (v := (S r127)) (fun hg => (hv131 hg).1) ?_
        replace hs := Sat.n11 (Γ := Φ) hs rfl
        refine WL_nil ?_
        refine At_QK allJ_nil ?_
        obtain ⟨b133, e134, hm⟩ := letv_some hm
        refine WD_pureG rfl rfl rfl rfl guard_neg (fun _ => (Run.eqB (Run_neS (Opd.g rfl id) (Opd.g rfl id)) e134)) rfl rfl rfl <| ?_
        obtain ⟨b135, e136, hm⟩ := letv_some hm
        refine WD_pure (fun _ => (Run.eqB (Run_or (Opd.t rfl) (Opd.g rfl id)) e136)) rfl rfl rfl rfl <| ?_
        refine WD_nil ?_
        refine At_then ?_
        refine WC_cond (Opd.t rfl) (fun hc137 => ?_) (fun hc137 => ?_)
        ·
          replace hm := bif_t hc137 hm
          refine WC_seq ?_
          refine WC_region ?_
          refine WL_op (Run_assign Opd.c) rfl rfl rfl rfl <| ?_
          refine WL_nil ?_
          refine At_then ?_
          refine WC_ret ?_
          refine At_then_ret <| ?_
          refine At_r1 rfl (ResIs.t rfl) ?_
          cases hm
          exact ⟨rfl, (hs.re 11 [] rfl)⟩
        ·
          replace hm := bif_f hc137 hm
          refine WC_skip ?_
          refine At_then ?_
          refine WC_seq ?_
          refine WC_region_mixed [0, 1, 2, 6, 10, 16, 48, 82, 146, 256, 256, 1792, 256, 256, 14592, 18688, 33026, 65538, 262143] (.q 0 0 (.q 1 1 (.q 2 3 (.q 3 7 (.q 4 15 (.q 5 31 (.q 6 63 (.q 7 127 (.q 8 255 (.q 9 511 (.q 10 1023 (.q 12 2047 (.q 13 6143 (.l 11 14335 (.l 14 16383 (.q 15 32767 (.q 16 65535 (.q 17 131071 (.q 18 262143 .nil))))))))))))))))))) (by kernel_rfl) (by kernel_rfl) ?_
          intro w138 hx139
          replace hs := hs.ext hx139
          refine WD_pure (fun _ => (Run_move (Opd.t rfl))) rfl rfl rfl rfl <| WD_pure (fun _ => (Run_move (Opd.t rfl))) rfl rfl rfl rfl <| WD_pureG rfl rfl rfl rfl guard_pos (fun _ => (Run_move (Opd.t rfl))) rfl rfl rfl <| ?_
          obtain ⟨b140, e141, hm⟩ := letv_some hm
          refine WD_pureG rfl rfl rfl rfl guard_pos (fun _ => (Run.eqB (Run_neI (Opd.g rfl id) Opd.c) e141)) rfl rfl rfl <| WD_pureG rfl rfl rfl rfl guard_pos (fun _ => (Run_move (Opd.g rfl id))) rfl rfl rfl <| WD_pureG rfl rfl rfl rfl guard_pos' (fun _ => (Run_move (Opd.t rfl))) rfl rfl rfl <| ?_
          obtain ⟨b142, e143, hm⟩ := letv_some hm
          refine WD_pureG rfl rfl rfl rfl guard_pos' (fun _ => (Run.eqB (Run_neI (Opd.g rfl id) Opd.c) e143)) rfl rfl rfl <| ?_
          obtain ⟨b144, e145, hm⟩ := letv_some hm
          refine WD_pureG rfl rfl rfl rfl guard_pos (fun _ => (Run.eqB (Run_and (Opd.g rfl id) (Opd.g rfl id)) e145)) rfl rfl rfl <| WD_pureG rfl rfl rfl rfl guard_pos (fun _ => (Run_move (Opd.g rfl id))) rfl rfl rfl <| WD_opG (fun w => CellsAt w ⟨b5, 0, none⟩ [(.int .i64 with_.1.op), (.int .i64 with_.1.n), (.int .i64 with_.1.at_), (sl v1)]) ((hs.box (i := 3) rfl).part 0 rfl) rfl rfl rfl rfl guard_neg' (fun _ hJ => (Run_loadA (vs := [(.int .i64 with_.1.op), (.int .i64 with_.1.n), (.int .i64 with_.1.at_), (sl v1)]) Tryd.underlying24 rfl ti24 (Opd.t rfl) (fun _ => hJ) rfl)) rfl rfl rfl <| WD_pureG rfl rfl rfl rfl guard_neg' (fun _ => (Run_move (Opd.t rfl))) rfl rfl rfl <| WD_opG (fun w => CellsAt w ⟨b5, 0, none⟩ [(.int .i64 with_.1.op), (.int .i64 with_.1.n), (.int .i64 with_.1.at_), (sl v1)]) ((hs.box (i := 3) rfl).part 0 rfl) rfl rfl rfl rfl guard_neg' (fun _ hJ => (Run_loadA (vs := [(.int .i64 with_.1.op), (.int .i64 with_.1.n), (.int .i64 with_.1.at_), (sl v1)]) Tryd.underlying24 rfl ti24 (Opd.t rfl) (fun _ => hJ) rfl)) rfl rfl rfl <| WD_pureG rfl rfl rfl rfl guard_neg' (fun _ => (Run_move (Opd.t rfl))) rfl rfl rfl <| ?_
          refine WD_loud (pend' := [(12, fun w => CellsAt w ⟨b5, 0, none⟩ [(.int .i64 with_.1.op), (.int .i64 with_.1.n), (.int .i64 with_.1.at_), (sl v1)])]) rfl (by kernel_rfl) ?_
          obtain ⟨r146, hr147, -, hm⟩ := callG_some hm
          refine WL_callG rfl rfl rfl guard_neg' (f := 24) (first := []) (cap := []) (xs := [(.tmp 110), (.tmp 111)]) (vs := [(.agg #[(.int .i64 with_.1.op), (.int .i64 with_.1.n), (.int .i64 with_.1.at_), (sl v1)]), (sl v5)]) (args := [(.agg #[(.int .i64 with_.1.op), (.int .i64 with_.1.n), (.int .i64 with_.1.at_), (sl v1)]), (sl v5)]) Tryd.call24 Opd.f (.cons (Opd.g rfl id) (.cons (Opd.g rfl id) .nil)) rfl rfl (fun hg => expr_Eval_ok (hs.re 11 [5, 7, 0, 1, 2, 3, 4, 5, 6, 7, 8, 9, 10] rfl) (hr147 hg)) ?_
          intro v149 w148 hv150 hz151
          replace hs := Sat.ofG (fun hg => (hv150 hg).2.re 11 [0, 1, 2, 3, 4, 5, 6, 7, 8, 9, 10] rfl) hz151 hs
          refine WL_sub1 (v := (.int .i64 r146)) (fun hg => (hv150 hg).1) ?_
          replace hs := Sat.n11 (Γ := Φ) hs rfl
          refine WL_nil ?_
          refine At_QK (allJ_cons ((hs.box (i := 3) rfl).part 0 rfl) allJ_nil) ?_
          refine WD_loud (pend' := []) rfl (by kernel_rfl) ?_
          obtain ⟨r152, hr153, -, hm⟩ := callG_some hm
          refine WL_callG rfl rfl rfl guard_neg' (f := 25) (first := []) (cap := []) (xs := [(.tmp 113), (.tmp 114)]) (vs := [(.agg #[(.int .i64 with_.1.op), (.int .i64 with_.1.n), (.int .i64 with_.1.at_), (sl v1)]), (sl v5)]) (args := [(.agg #[(.int .i64 with_.1.op), (.int .i64 with_.1.n), (.int .i64 with_.1.at_), (sl v1)]), (sl v5)]) Tryd.call25 Opd.f (.cons (Opd.g rfl id) (.cons (Opd.g rfl id) .nil)) rfl rfl (fun hg => scrutinyref13_Eval_ok (hs.re 11 [5, 7, 0, 1, 2, 3, 4, 5, 6, 7, 8, 9, 10] rfl) (hr153 hg)) ?_
          intro v155 w154 hv156 hz157
          replace hs := Sat.ofG (fun hg => (hv156 hg).2.re 11 [0, 1, 2, 3, 4, 5, 6, 7, 8, 9, 10] rfl) hz157 hs
          refine WL_sub1 (v := (.int .i64 r152)) (fun hg => (hv156 hg).1) ?_
          replace hs := Sat.n11 (Γ := Φ) hs rfl
          refine WL_nil ?_
          refine At_QK allJ_nil ?_
          obtain ⟨b158, e159, hm⟩ := letv_some hm
          refine WD_pureG rfl rfl rfl rfl guard_neg' (fun _ => (Run.eqB (Run_eqI (Opd.g rfl id) (Opd.g rfl id)) e159)) rfl rfl rfl <| ?_
          obtain ⟨b160, e161, hm⟩ := letv_some hm
          refine WD_pureG rfl rfl rfl rfl guard_pos (fun _ => (Run.eqB (Run_or (Opd.g rfl id) (Opd.g rfl id)) e161)) rfl rfl rfl <| ?_
          obtain ⟨b162, e163, hm⟩ := letv_some hm
          refine WD_pure (fun _ => (Run.eqB (Run_and (Opd.t rfl) (Opd.g rfl id)) e163)) rfl rfl rfl rfl <| WD_pure (fun _ => (Run_assign (Opd.t rfl))) rfl rfl rfl rfl <| ?_
          refine WD_nil ?_
          refine At_then ?_
          refine WC_ret ?_
          refine At_r1 rfl (ResIs.t rfl) ?_
          cases hm
          exact ⟨rfl, (hs.re 11 [] rfl)⟩

set_option maxRecDepth 100000 in
set_option maxHeartbeats 4000000 in
theorem scrutinylaw13_ExprBack_ok {Φ : Ctx} {w : World} {e : Ex} {v1 : SLV} {r : Bool} (hs : Sat (imm (RSl RExpr) [sl v1] e.l :: gl 0 (keysL.map S) :: gl 1 (textsL.map S) :: gl 2 (pow10L.map (Value.int .u64)) :: Φ) w) (hm : scrutinylaw13_ExprBack e = some r) :
    CallsR Tryd.prog 4 [(.agg #[(.int .i64 e.op), (.int .i64 e.n), (.int .i64 e.at_), (sl v1)])] w (fun v w' => v = (.bool r) ∧ Sat (Φ) w') := by
  refine CallsX_enter Tryd.func4 rfl Tryd.ntmps4 rfl ?_
  unfold scrutinylaw13_ExprBack at hm
  refine WC_seq ?_
  refine WC_region ?_
  refine WS_box (zs := [(.int .i64 e.op), (.int .i64 e.n), (.int .i64 e.at_), (sl v1)]) hs (Opd.t rfl) rfl rfl ?_
  intro b3 w4 hs
  replace hs := Sat.n5 (Γ := Φ) hs rfl
  refine WL_op (Run_assign Opd.c) rfl rfl rfl rfl <| ?_
  refine WL_nil ?_
  refine At_then ?_
  refine WC_seq ?_
  refine WC_region ?_
  obtain ⟨r5, hr6, hm⟩ := bind_some' hm
  refine WL_call (f := 10) (first := []) (cap := []) (xs := []) (vs := []) (args := []) Tryd.call10 Opd.f .nil rfl rfl (scrutinylaw13_shown_ok (hs.re 5 [2, 3, 4, 0, 1, 2, 3, 4] rfl) hr6) ?_
  rintro _ w7 ⟨rfl, hs⟩
  replace hs := Sat.n5 (Γ := Φ) hs rfl
  refine WL_op (Run_assign (Opd.t rfl)) rfl rfl rfl rfl <| ?_
  refine WL_nil ?_
  refine At_then ?_
  refine WC_seq ?_
  refine WC_seq ?_
  refine WC_region ?_
  refine WL_op (Run_loadA (vs := [(.int .i64 e.op), (.int .i64 e.n), (.int .i64 e.at_), (sl v1)]) Tryd.underlying24 rfl ti24 (Opd.t rfl) (fun _ => (hs.box (i := 0) rfl).part 0 rfl) rfl) rfl rfl rfl rfl <| ?_
  obtain ⟨r8, hr9, hm⟩ := bind_some' hm
  refine WL_call (f := 11) (first := []) (cap := []) (xs := [(.tmp 18)]) (vs := [(.agg #[(.int .i64 e.op), (.int .i64 e.n), (.int .i64 e.at_), (sl v1)])]) (args := [(.agg #[(.int .i64 e.op), (.int .i64 e.n), (.int .i64 e.at_), (sl v1)])]) Tryd.call11 Opd.f (.cons (Opd.t rfl) .nil) rfl rfl (scrutinyref13_Few_ok (hs.re 5 [1, 0, 1, 2, 3, 4] rfl) hr9) ?_
  rintro _ w10 ⟨rfl, hs⟩
  replace hs := Sat.n5 (Γ := Φ) hs rfl
  obtain ⟨b11, e12, hm⟩ := letv_some hm
  refine WL_op (Run.eqB (Run_notB (Opd.t rfl)) e12) rfl rfl rfl rfl <| WL_op (Run_move (Opd.t rfl)) rfl rfl rfl rfl <| WL_opG rfl rfl rfl rfl guard_neg (Run_loadA (vs := [(.int .i64 e.op), (.int .i64 e.n), (.int .i64 e.at_), (sl v1)]) Tryd.underlying24 rfl ti24 (Opd.t rfl) (fun _ => (hs.box (i := 0) rfl).part 0 rfl) rfl) rfl rfl rfl <| ?_
  obtain ⟨r13, hr14, -, hm⟩ := callG_some hm
  refine WL_callG rfl rfl rfl guard_neg (f := 18) (first := []) (cap := []) (xs := [(.tmp 22), (.const (.int .i64 3))]) (vs := [(.agg #[(.int .i64 e.op), (.int .i64 e.n), (.int .i64 e.at_), (sl v1)]), (.int .i64 3)]) (args := [(.agg #[(.int .i64 e.op), (.int .i64 e.n), (.int .i64 e.at_), (sl v1)]), (.int .i64 3)]) Tryd.call18 Opd.f (.cons (Opd.g rfl id) (.cons Opd.c .nil)) rfl rfl (fun hg => scrutinyref13_May_ok (hs.re 5 [1, 0, 1, 2, 3, 4] rfl) (hr14 hg)) ?_
  intro v16 w15 hv17 hz18
  replace hs := Sat.ofG (fun hg => (hv17 hg).2.re 5 [0, 1, 2, 3, 4] rfl) hz18 hs
  refine WL_sub1 (v := (.bool r13)) (fun hg => (hv17 hg).1) ?_
  replace hs := Sat.n5 (Γ := Φ) hs rfl
  obtain ⟨b19, e20, hm⟩ := letv_some hm
  refine WL_opG rfl rfl rfl rfl guard_neg (Run.eqB (Run_notB (Opd.g rfl id)) e20) rfl rfl rfl <| ?_
  obtain ⟨b21, e22, hm⟩ := letv_some hm
  refine WL_op (Run.eqB (Run_or (Opd.t rfl) (Opd.g rfl id)) e22) rfl rfl rfl rfl <| ?_
  refine WL_nil ?_
  refine At_then ?_
  refine WC_cond (Opd.t rfl) (fun hc23 => ?_) (fun hc23 => ?_)
  ·
    replace hm := bif_t hc23 hm
    refine WC_seq ?_
    refine WC_region ?_
    refine WL_op (Run_move (Opd.t rfl)) rfl rfl rfl rfl <| WL_op (Run_assign (Opd.t rfl)) rfl rfl rfl rfl <| ?_
    refine WL_nil ?_
    refine At_then ?_
    refine WC_ret ?_
    refine At_then_ret <| ?_
    refine At_r1 rfl (ResIs.t rfl) ?_
    cases hm
    exact ⟨rfl, (hs.re 5 [] rfl)⟩
  ·
    replace hm := bif_f hc23 hm
    refine WC_skip ?_
    refine At_then ?_
    refine WC_seq ?_
    refine WC_region_mixed [0, 0, 3, 4, 8, 16, 16, 16, 63, 383, 1023] (.q 0 0 (.l 1 1 (.l 2 3 (.l 3 7 (.q 4 15 (.q 5 31 (.q 6 63 (.q 7 127 (.q 8 255 (.q 9 511 (.q 10 1023 .nil))))))))))) (by kernel_rfl) (by kernel_rfl) ?_
    intro w24 hx25
    replace hs := hs.ext hx25
    refine WD_op (fun w => CellsAt w ⟨b3, 0, none⟩ [(.int .i64 e.op), (.int .i64 e.n), (.int .i64 e.at_), (sl v1)]) ((hs.box (i := 0) rfl).part 0 rfl) (fun _ hJ => (Run_loadA (vs := [(.int .i64 e.op), (.int .i64 e.n), (.int .i64 e.at_), (sl v1)]) Tryd.underlying24 rfl ti24 (Opd.t rfl) (fun _ => hJ) rfl)) rfl rfl rfl rfl <| ?_
    refine WD_loud (pend' := [(0, fun w => CellsAt w ⟨b3, 0, none⟩ [(.int .i64 e.op), (.int .i64 e.n), (.int .i64 e.at_), (sl v1)])]) rfl (by kernel_rfl) ?_
    obtain ⟨r26, hr27, hm⟩ := bind_some' hm
    refine WL_call (f := 22) (first := []) (cap := []) (xs := []) (vs := []) (args := []) Tryd.call22 Opd.f .nil rfl rfl (scrutinylaw13_names_ok (hs.re 5 [0, 1, 2, 3, 4] rfl) hr27) ?_
    rintro _ w30 ⟨v28, R29, rfl, hs⟩
    replace hs := Sat.n6 (Γ := Φ) hs rfl
    refine WL_nil ?_
    refine At_QK (allJ_cons ((hs.box (i := 1) rfl).part 0 rfl) allJ_nil) ?_
    refine WD_loud (pend' := []) rfl (by kernel_rfl) ?_
    replace hs := hs.freeze (i := 0) rfl
    obtain ⟨r31, hr32, hm⟩ := bind_some' hm
    refine WL_call (f := 21) (first := []) (cap := []) (xs := [(.tmp 28), (.tmp 29)]) (vs := [(.agg #[(.int .i64 e.op), (.int .i64 e.n), (.int .i64 e.at_), (sl v1)]), (sl v28)]) (args := [(.agg #[(.int .i64 e.op), (.int .i64 e.n), (.int .i64 e.at_), (sl v1)]), (sl v28)]) Tryd.call21 Opd.f (.cons (Opd.t rfl) (.cons (Opd.t rfl) .nil)) rfl rfl (expr_Show_ok (hs.re 6 [2, 0, 4, 5, 0, 1, 2, 3, 4, 5] rfl) hr32) ?_
    rintro _ w33 ⟨rfl, hs⟩
    replace hs := Sat.n6 (Γ := Φ) hs rfl
    refine WL_nil ?_
    refine At_QK allJ_nil ?_
    refine WD_loud (pend' := []) rfl (by kernel_rfl) ?_
    obtain ⟨r34, hr35, hm⟩ := bind_some' hm
    refine WL_call (f := 26) (first := []) (cap := []) (xs := [(.tmp 30)]) (vs := [(S r31)]) (args := [(S r31)]) Tryd.call26 Opd.f (.cons (Opd.t rfl) .nil) rfl rfl (scrutinyref12_Tokens_ok (hs.re 6 [0, 1, 2, 3, 4, 5] rfl) hr35) ?_
    rintro _ w38 ⟨v36, R37, rfl, hs⟩
    replace hs := Sat.n7 (Γ := Φ) hs rfl
    refine WL_nil ?_
    refine At_QK allJ_nil ?_
    refine WD_pure (fun _ => (Run_move (Opd.t rfl))) rfl rfl rfl rfl <| WD_pure (fun _ => (Run_extract (vs := [(sl v36), (.int .i64 r34.2.1), (.int .i64 r34.2.2)]) (Opd.t rfl) rfl)) rfl rfl rfl rfl <| WD_pure (fun _ => (Run_extract (vs := [(sl v36), (.int .i64 r34.2.1), (.int .i64 r34.2.2)]) (Opd.t rfl) rfl)) rfl rfl rfl rfl <| WD_pure (fun _ => (Run_extract (vs := [(sl v36), (.int .i64 r34.2.1), (.int .i64 r34.2.2)]) (Opd.t rfl) rfl)) rfl rfl rfl rfl <| WD_pure (fun _ => (Run_assign (Opd.t rfl))) rfl rfl rfl rfl <| WD_pure (fun _ => (Run_assign (Opd.t rfl))) rfl rfl rfl rfl <| WD_pure (fun _ => (Run_assign (Opd.t rfl))) rfl rfl rfl rfl <| ?_
    refine WD_nil ?_
    refine At_then ?_
    refine WC_seq ?_
    refine WC_seq ?_
    refine WC_region ?_
    refine WL_op (Run_move (Opd.t rfl)) rfl rfl rfl rfl <| ?_
    obtain ⟨b39, e40, hm⟩ := letv_some hm
    refine WL_op (Run.eqB (Run_neI (Opd.t rfl) Opd.c) e40) rfl rfl rfl rfl <| WL_op (Run_move (Opd.t rfl)) rfl rfl rfl rfl <| WL_opG rfl rfl rfl rfl guard_neg (Run_move (Opd.t rfl)) rfl rfl rfl <| WL_opG rfl rfl rfl rfl guard_neg (Run_lenSlG Tryd.underlying44 (Opd.g rfl id) (fun _ => (hs.own (i := 0) rfl).len)) rfl rfl rfl <| ?_
    obtain ⟨b41, e42, hm⟩ := letv_some hm
    refine WL_opG rfl rfl rfl rfl guard_neg (Run.eqB (Run_eqI (Opd.g rfl id) Opd.c) e42) rfl rfl rfl <| ?_
    obtain ⟨b43, e44, hm⟩ := letv_some hm
    refine WL_op (Run.eqB (Run_or (Opd.t rfl) (Opd.g rfl id)) e44) rfl rfl rfl rfl <| ?_
    refine WL_nil ?_
    refine At_then ?_
    refine WC_cond (Opd.t rfl) (fun hc45 => ?_) (fun hc45 => ?_)
    ·
      replace hm := bif_t hc45 hm
      refine WC_seq ?_
      refine WC_region ?_
      refine WL_op (Run_assign Opd.c) rfl rfl rfl rfl <| ?_
      refine WL_nil ?_
      refine At_then ?_
      refine WC_ret ?_
      refine At_then_ret <| ?_
      refine At_r1 rfl (ResIs.t rfl) ?_
      cases hm
      exact ⟨rfl, (hs.re 7 [] rfl)⟩
    ·
      replace hm := bif_f hc45 hm
      refine WC_skip ?_
      refine At_then ?_
      refine WC_seq ?_
      refine WC_region ?_
      refine WL_op (Run_move (Opd.t rfl)) rfl rfl rfl rfl <| ?_
      obtain ⟨r46, hr47, hm⟩ := bind_some' hm
      refine WL_call (f := 22) (first := []) (cap := []) (xs := []) (vs := []) (args := []) Tryd.call22 Opd.f .nil rfl rfl (scrutinylaw13_names_ok (hs.re 7 [0, 1, 2, 3, 4, 5, 6] rfl) hr47) ?_
      rintro _ w50 ⟨v48, R49, rfl, hs⟩
      replace hs := Sat.n8 (Γ := Φ) hs rfl
      replace hs := hs.freeze (i := 1) rfl
      replace hs := hs.freeze (i := 0) rfl
      obtain ⟨r51, hr52, hm⟩ := bind_some' hm
      refine WL_call (f := 27) (first := []) (cap := []) (xs := [(.tmp 43), (.const (.int .i64 0)), (.tmp 44)]) (vs := [(sl v36), (.int .i64 0), (sl v48)]) (args := [(sl v36), (.int .i64 0), (sl v48)]) Tryd.call27 Opd.f (.cons (Opd.t rfl) (.cons Opd.c (.cons (Opd.t rfl) .nil))) rfl rfl (expr_Parse_ok (hs.re 8 [1, 0, 5, 6, 0, 1, 2, 3, 4, 5, 6, 7] rfl) hr52) ?_
      rintro _ w55 ⟨v53, R54, rfl, hs⟩
      replace hs := Sat.n9 (Γ := Φ) hs rfl
      refine WL_op (Run_move (Opd.t rfl)) rfl rfl rfl rfl <| WL_op (Run_extract (vs := [(.agg #[(.int .i64 r51.1.op), (.int .i64 r51.1.n), (.int .i64 r51.1.at_), (sl v53)]), (.int .i64 r51.2.1), (.int .i64 r51.2.2.1), (.int .i64 r51.2.2.2)]) (Opd.t rfl) rfl) rfl rfl rfl rfl <| WL_op (Run_extract (vs := [(.agg #[(.int .i64 r51.1.op), (.int .i64 r51.1.n), (.int .i64 r51.1.at_), (sl v53)]), (.int .i64 r51.2.1), (.int .i64 r51.2.2.1), (.int .i64 r51.2.2.2)]) (Opd.t rfl) rfl) rfl rfl rfl rfl <| WL_op (Run_extract (vs := [(.agg #[(.int .i64 r51.1.op), (.int .i64 r51.1.n), (.int .i64 r51.1.at_), (sl v53)]), (.int .i64 r51.2.1), (.int .i64 r51.2.2.1), (.int .i64 r51.2.2.2)]) (Opd.t rfl) rfl) rfl rfl rfl rfl <| WL_op (Run_extract (vs := [(.agg #[(.int .i64 r51.1.op), (.int .i64 r51.1.n), (.int .i64 r51.1.at_), (sl v53)]), (.int .i64 r51.2.1), (.int .i64 r51.2.2.1), (.int .i64 r51.2.2.2)]) (Opd.t rfl) rfl) rfl rfl rfl rfl <| ?_
      refine WS_alloc (zs := [(.int .i64 0), (.int .i64 0), (.int .i64 0), (sl (none, 0, 0))]) hs ti24 rfl rfl ?_
      intro b56 w57 hs
      replace hs := Sat.n10 (Γ := Φ) hs rfl
      refine WS_store (us := [(.int .i64 r51.1.op), (.int .i64 r51.1.n), (.int .i64 r51.1.at_), (sl v53)]) (vs' := [(.int .i64 r51.1.op), (.int .i64 r51.1.n), (.int .i64 r51.1.at_), (sl v53)]) hs 0 rfl ti24 (Opd.t rfl) (Opd.t rfl) rfl rfl rfl rfl rfl ?_
      intro w58 hs
      replace hs := Sat.n10 (Γ := Φ) hs rfl
      refine WL_op (Run_assign (Opd.t rfl)) rfl rfl rfl rfl <| WL_op (Run_assign (Opd.t rfl)) rfl rfl rfl rfl <| WL_op (Run_assign (Opd.t rfl)) rfl rfl rfl rfl <| ?_
      refine WL_nil ?_
      refine At_then ?_
      refine WC_seq ?_
      refine WC_region ?_
      refine WL_op (Run_loadA (vs := [(.int .i64 e.op), (.int .i64 e.n), (.int .i64 e.at_), (sl v1)]) Tryd.underlying24 rfl ti24 (Opd.t rfl) (fun _ => (hs.box (i := 5) rfl).part 0 rfl) rfl) rfl rfl rfl rfl <| ?_
      obtain ⟨r59, hr60, hm⟩ := bind_some' hm
      refine WL_call (f := 19) (first := []) (cap := []) (xs := [(.tmp 51)]) (vs := [(.agg #[(.int .i64 e.op), (.int .i64 e.n), (.int .i64 e.at_), (sl v1)])]) (args := [(.agg #[(.int .i64 e.op), (.int .i64 e.n), (.int .i64 e.at_), (sl v1)])]) Tryd.call19 Opd.f (.cons (Opd.t rfl) .nil) rfl rfl (expr_Type_ok (hs.re 10 [6, 0, 1, 2, 3, 4, 5, 6, 7, 8, 9] rfl) hr60) ?_
      rintro _ w61 ⟨rfl, hs⟩
      replace hs := Sat.n10 (Γ := Φ) hs rfl
      refine WL_op (Run_move (Opd.t rfl)) rfl rfl rfl rfl <| WL_op (Run_extract (vs := [(.int .i64 r59.1), (.int .i64 r59.2.1), (.int .i64 r59.2.2)]) (Opd.t rfl) rfl) rfl rfl rfl rfl <| WL_op (Run_extract (vs := [(.int .i64 r59.1), (.int .i64 r59.2.1), (.int .i64 r59.2.2)]) (Opd.t rfl) rfl) rfl rfl rfl rfl <| WL_op (Run_extract (vs := [(.int .i64 r59.1), (.int .i64 r59.2.1), (.int .i64 r59.2.2)]) (Opd.t rfl) rfl) rfl rfl rfl rfl <| WL_op (Run_assign (Opd.t rfl)) rfl rfl rfl rfl <| WL_op (Run_assign (Opd.t rfl)) rfl rfl rfl rfl <| WL_op (Run_assign (Opd.t rfl)) rfl rfl rfl rfl <| ?_
      refine WL_nil ?_
      refine At_then ?_
      refine WC_seq ?_
      refine WC_region ?_
      refine WL_op (Run_loadA (vs := [(.int .i64 r51.1.op), (.int .i64 r51.1.n), (.int .i64 r51.1.at_), (sl v53)]) Tryd.underlying24 rfl ti24 (Opd.t rfl) (fun _ => (hs.box (i := 0) rfl).part 0 rfl) rfl) rfl rfl rfl rfl <| ?_
      replace hs := hs.freeze (i := 1) rfl
      obtain ⟨r62, hr63, hm⟩ := bind_some' hm
      refine WL_call (f := 19) (first := []) (cap := []) (xs := [(.tmp 57)]) (vs := [(.agg #[(.int .i64 r51.1.op), (.int .i64 r51.1.n), (.int .i64 r51.1.at_), (sl v53)])]) (args := [(.agg #[(.int .i64 r51.1.op), (.int .i64 r51.1.n), (.int .i64 r51.1.at_), (sl v53)])]) Tryd.call19 Opd.f (.cons (Opd.t rfl) .nil) rfl rfl (expr_Type_ok (hs.re 10 [1, 0, 1, 2, 3, 4, 5, 6, 7, 8, 9] rfl) hr63) ?_
      rintro _ w64 ⟨rfl, hs⟩
      replace hs := Sat.n10 (Γ := Φ) hs rfl
      refine WL_op (Run_move (Opd.t rfl)) rfl rfl rfl rfl <| WL_op (Run_extract (vs := [(.int .i64 r62.1), (.int .i64 r62.2.1), (.int .i64 r62.2.2)]) (Opd.t rfl) rfl) rfl rfl rfl rfl <| WL_op (Run_extract (vs := [(.int .i64 r62.1), (.int .i64 r62.2.1), (.int .i64 r62.2.2)]) (Opd.t rfl) rfl) rfl rfl rfl rfl <| WL_op (Run_extract (vs := [(.int .i64 r62.1), (.int .i64 r62.2.1), (.int .i64 r62.2.2)]) (Opd.t rfl) rfl) rfl rfl rfl rfl <| WL_op (Run_assign (Opd.t rfl)) rfl rfl rfl rfl <| WL_op (Run_assign (Opd.t rfl)) rfl rfl rfl rfl <| WL_op (Run_assign (Opd.t rfl)) rfl rfl rfl rfl <| ?_
      refine WL_nil ?_
      refine At_then ?_
      refine WC_seq ?_
      refine WC_region ?_
      refine WL_op (Run_move (Opd.t rfl)) rfl rfl rfl rfl <| WL_op (Run_move (Opd.t rfl)) rfl rfl rfl rfl <| WL_opG rfl rfl rfl rfl guard_pos (Run_move (Opd.t rfl)) rfl rfl rfl <| ?_
      obtain ⟨b65, e66, hm⟩ := letv_some hm
      refine WL_opG rfl rfl rfl rfl guard_pos (Run.eqB (Run_eqI (Opd.g rfl id) Opd.c) e66) rfl rfl rfl <| ?_
      obtain ⟨b67, e68, hm⟩ := letv_some hm
      refine WL_op (Run.eqB (Run_and (Opd.t rfl) (Opd.g rfl id)) e68) rfl rfl rfl rfl <| WL_op (Run_move (Opd.t rfl)) rfl rfl rfl rfl <| WL_opG rfl rfl rfl rfl guard_pos (Run_move (Opd.t rfl)) rfl rfl rfl <| WL_opG rfl rfl rfl rfl guard_pos (Run_move (Opd.t rfl)) rfl rfl rfl <| WL_opG rfl rfl rfl rfl guard_pos (Run_lenSlG Tryd.underlying44 (Opd.g rfl id) (fun hg => (hs.sl (i := 3) rfl).len)) rfl rfl rfl <| WL_opG rfl rfl rfl rfl guard_pos (Run_sub (Opd.g rfl id) Opd.c) rfl rfl rfl <| ?_
      obtain ⟨b69, e70, hm⟩ := letv_some hm
      refine WL_opG rfl rfl rfl rfl guard_pos (Run.eqB (Run_eqI (Opd.g rfl id) (Opd.g rfl id)) e70) rfl rfl rfl <| ?_
      obtain ⟨b71, e72, hm⟩ := letv_some hm
      refine WL_op (Run.eqB (Run_and (Opd.t rfl) (Opd.g rfl id)) e72) rfl rfl rfl rfl <| WL_op (Run_move (Opd.t rfl)) rfl rfl rfl rfl <| WL_opG rfl rfl rfl rfl guard_pos (Run_loadA (vs := [(.int .i64 r51.1.op), (.int .i64 r51.1.n), (.int .i64 r51.1.at_), (sl v53)]) Tryd.underlying24 rfl ti24 (Opd.t rfl) (fun _ => (hs.box (i := 0) rfl).part 0 rfl) rfl) rfl rfl rfl <| WL_opG rfl rfl rfl rfl guard_pos (Run_loadA (vs := [(.int .i64 e.op), (.int .i64 e.n), (.int .i64 e.at_), (sl v1)]) Tryd.underlying24 rfl ti24 (Opd.t rfl) (fun _ => (hs.box (i := 5) rfl).part 0 rfl) rfl) rfl rfl rfl <| ?_
      obtain ⟨r73, hr74, -, hm⟩ := callG_some hm
      refine WL_callG rfl rfl rfl guard_pos (f := 15) (first := []) (cap := []) (xs := [(.tmp 75), (.tmp 76)]) (vs := [(.agg #[(.int .i64 r51.1.op), (.int .i64 r51.1.n), (.int .i64 r51.1.at_), (sl v53)]), (.agg #[(.int .i64 e.op), (.int .i64 e.n), (.int .i64 e.at_), (sl v1)])]) (args := [(.agg #[(.int .i64 r51.1.op), (.int .i64 r51.1.n), (.int .i64 r51.1.at_), (sl v53)]), (.agg #[(.int .i64 e.op), (.int .i64 e.n), (.int .i64 e.at_), (sl v1)])]) Tryd.call15 Opd.f (.cons (Opd.g rfl id) (.cons (Opd.g rfl id) .nil)) rfl rfl (fun hg => scrutinyref13_Same_ok (hs.re 10 [1, 6, 0, 1, 2, 3, 4, 5, 6, 7, 8, 9] rfl) (hr74 hg)) ?_
      intro v76 w75 hv77 hz78
      replace hs := Sat.ofG (fun hg => (hv77 hg).2.re 10 [0, 1, 2, 3, 4, 5, 6, 7, 8, 9] rfl) hz78 hs
      refine WL_sub1 (v := (.bool r73)) (fun hg => (hv77 hg).1) ?_
      replace hs := Sat.n10 (Γ := Φ) hs rfl
      obtain ⟨b79, e80, hm⟩ := letv_some hm
      refine WL_op (Run.eqB (Run_and (Opd.t rfl) (Opd.g rfl id)) e80) rfl rfl rfl rfl <| WL_op (Run_move (Opd.t rfl)) rfl rfl rfl rfl <| WL_opG rfl rfl rfl rfl guard_pos (Run_move (Opd.t rfl)) rfl rfl rfl <| WL_opG rfl rfl rfl rfl guard_pos (Run_move (Opd.t rfl)) rfl rfl rfl <| ?_
      obtain ⟨b81, e82, hm⟩ := letv_some hm
      refine WL_opG rfl rfl rfl rfl guard_pos (Run.eqB (Run_eqI (Opd.g rfl id) (Opd.g rfl id)) e82) rfl rfl rfl <| ?_
      obtain ⟨b83, e84, hm⟩ := letv_some hm
      refine WL_op (Run.eqB (Run_and (Opd.t rfl) (Opd.g rfl id)) e84) rfl rfl rfl rfl <| WL_op (Run_move (Opd.t rfl)) rfl rfl rfl rfl <| WL_opG rfl rfl rfl rfl guard_pos (Run_move (Opd.t rfl)) rfl rfl rfl <| WL_opG rfl rfl rfl rfl guard_pos (Run_move (Opd.t rfl)) rfl rfl rfl <| ?_
      obtain ⟨b85, e86, hm⟩ := letv_some hm
      refine WL_opG rfl rfl rfl rfl guard_pos (Run.eqB (Run_eqI (Opd.g rfl id) (Opd.g rfl id)) e86) rfl rfl rfl <| ?_
      obtain ⟨b87, e88, hm⟩ := letv_some hm
      refine WL_op (Run.eqB (Run_and (Opd.t rfl) (Opd.g rfl id)) e88) rfl rfl rfl rfl <| WL_op (Run_assign (Opd.t rfl)) rfl rfl rfl rfl <| ?_
      refine WL_nil ?_
      refine At_then ?_
      refine WC_ret ?_
      refine At_r1 rfl (ResIs.t rfl) ?_
      cases hm
      exact ⟨rfl, (hs.re 10 [] rfl)⟩

set_option maxRecDepth 100000 in
set_option maxHeartbeats 4000000 in
theorem scrutinylaw13_of_ok {Φ : Ctx} {w : World} {e : Ex} {y : Int} {v1 : SLV} {r : Bool} (hs : Sat (imm (RSl RExpr) [sl v1] e.l :: Φ) w) (hm : scrutinylaw13_of e y = some r) :
    CallsR Tryd.prog 28 [(.agg #[(.int .i64 e.op), (.int .i64 e.n), (.int .i64 e.at_), (sl v1)]), (.int .i64 y)] w (fun v w' => v = (.bool r) ∧ Sat (Φ) w') := by
  refine CallsX_enter Tryd.func28 rfl Tryd.ntmps28 rfl ?_
  unfold scrutinylaw13_of at hm
  refine WC_seq ?_
  refine WC_region ?_
  refine WS_box (zs := [(.int .i64 e.op), (.int .i64 e.n), (.int .i64 e.at_), (sl v1)]) hs (Opd.t rfl) rfl rfl ?_
  intro b3 w4 hs
  replace hs := Sat.n2 (Γ := Φ) hs rfl
  refine WL_op (Run_assign Opd.c) rfl rfl rfl rfl <| ?_
  refine WL_nil ?_
  refine At_then ?_
  refine WC_seq ?_
  refine WC_region ?_
  refine WL_op (Run_loadA (vs := [(.int .i64 e.op), (.int .i64 e.n), (.int .i64 e.at_), (sl v1)]) Tryd.underlying24 rfl ti24 (Opd.t rfl) (fun _ => (hs.box (i := 0) rfl).part 0 rfl) rfl) rfl rfl rfl rfl <| ?_
  obtain ⟨r5, hr6, hm⟩ := bind_some' hm
  refine WL_call (f := 20) (first := []) (cap := []) (xs := [(.tmp 9)]) (vs := [(.agg #[(.int .i64 e.op), (.int .i64 e.n), (.int .i64 e.at_), (sl v1)])]) (args := [(.agg #[(.int .i64 e.op), (.int .i64 e.n), (.int .i64 e.at_), (sl v1)])]) Tryd.call20 Opd.f (.cons (Opd.t rfl) .nil) rfl rfl (scrutinyref13_Type_ok (hs.re 2 [1, 0, 1] rfl) hr6) ?_
  rintro _ w7 ⟨rfl, hs⟩
  replace hs := Sat.n2 (Γ := Φ) hs rfl
  refine WL_op (Run_move (Opd.t rfl)) rfl rfl rfl rfl <| WL_op (Run_extract (vs := [(.int .i64 r5.1), (.int .i64 r5.2.1), (.int .i64 r5.2.2)]) (Opd.t rfl) rfl) rfl rfl rfl rfl <| WL_op (Run_extract (vs := [(.int .i64 r5.1), (.int .i64 r5.2.1), (.int .i64 r5.2.2)]) (Opd.t rfl) rfl) rfl rfl rfl rfl <| WL_op (Run_extract (vs := [(.int .i64 r5.1), (.int .i64 r5.2.1), (.int .i64 r5.2.2)]) (Opd.t rfl) rfl) rfl rfl rfl rfl <| WL_op (Run_assign (Opd.t rfl)) rfl rfl rfl rfl <| WL_op (Run_assign (Opd.t rfl)) rfl rfl rfl rfl <| WL_op (Run_assign (Opd.t rfl)) rfl rfl rfl rfl <| ?_
  refine WL_nil ?_
  refine At_then ?_
  refine WC_seq ?_
  refine WC_region ?_
  refine WL_op (Run_loadA (vs := [(.int .i64 e.op), (.int .i64 e.n), (.int .i64 e.at_), (sl v1)]) Tryd.underlying24 rfl ti24 (Opd.t rfl) (fun _ => (hs.box (i := 0) rfl).part 0 rfl) rfl) rfl rfl rfl rfl <| ?_
  obtain ⟨r8, hr9, hm⟩ := bind_some' hm
  refine WL_call (f := 18) (first := []) (cap := []) (xs := [(.tmp 14), (.const (.int .i64 3))]) (vs := [(.agg #[(.int .i64 e.op), (.int .i64 e.n), (.int .i64 e.at_), (sl v1)]), (.int .i64 3)]) (args := [(.agg #[(.int .i64 e.op), (.int .i64 e.n), (.int .i64 e.at_), (sl v1)]), (.int .i64 3)]) Tryd.call18 Opd.f (.cons (Opd.t rfl) (.cons Opd.c .nil)) rfl rfl (scrutinyref13_May_ok (hs.re 2 [1, 0, 1] rfl) hr9) ?_
  rintro _ w10 ⟨rfl, hs⟩
  replace hs := Sat.n2 (Γ := Φ) hs rfl
  refine WL_op (Run_move (Opd.t rfl)) rfl rfl rfl rfl <| WL_opG rfl rfl rfl rfl guard_pos (Run_move (Opd.t rfl)) rfl rfl rfl <| ?_
  obtain ⟨b11, e12, hm⟩ := letv_some hm
  refine WL_opG rfl rfl rfl rfl guard_pos (Run.eqB (Run_eqI (Opd.g rfl id) Opd.c) e12) rfl rfl rfl <| ?_
  obtain ⟨b13, e14, hm⟩ := letv_some hm
  refine WL_op (Run.eqB (Run_and (Opd.t rfl) (Opd.g rfl id)) e14) rfl rfl rfl rfl <| WL_op (Run_move (Opd.t rfl)) rfl rfl rfl rfl <| WL_opG rfl rfl rfl rfl guard_pos (Run_move (Opd.t rfl)) rfl rfl rfl <| WL_opG rfl rfl rfl rfl guard_pos (Run_move (Opd.t rfl)) rfl rfl rfl <| ?_
  obtain ⟨b15, e16, hm⟩ := letv_some hm
  refine WL_opG rfl rfl rfl rfl guard_pos (Run.eqB (Run_eqI (Opd.g rfl id) (Opd.g rfl id)) e16) rfl rfl rfl <| ?_
  obtain ⟨b17, e18, hm⟩ := letv_some hm
  refine WL_op (Run.eqB (Run_and (Opd.t rfl) (Opd.g rfl id)) e18) rfl rfl rfl rfl <| WL_op (Run_assign (Opd.t rfl)) rfl rfl rfl rfl <| ?_
  refine WL_nil ?_
  refine At_then ?_
  refine WC_ret ?_
  refine At_r1 rfl (ResIs.t rfl) ?_
  cases hm
  exact ⟨rfl, (hs.re 2 [] rfl)⟩

end Go.Proofs.YtmeombbmhpcacaaDoor
