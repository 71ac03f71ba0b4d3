/- Printed by a program: the walks. -/
import Derived.Test.YtmeombbmhpcacaaDoorWalk17
namespace Go.Proofs.YtmeombbmhpcacaaDoor
open Go.Proofs

set_option maxRecDepth 100000 in
set_option maxHeartbeats 4000000 in
theorem scrutinylaw13_ExprLaws_ok {Φ : Ctx} {w : World} {with_ : (Ex × Ex × Ex × Ex × (List Int))} {v1 : SLV} {v3 : SLV} {v5 : SLV} {v7 : SLV} {v9 : SLV} {r : Bool} (hs : Sat (imm (RSl RExpr) [sl v1] with_.1.l :: imm (RSl RExpr) [sl v3] with_.2.1.l :: imm (RSl RExpr) [sl v5] with_.2.2.1.l :: imm (RSl RExpr) [sl v7] with_.2.2.2.1.l :: imm (RSl (RI .i64)) [sl v9] with_.2.2.2.2 :: gl 0 (keysL.map S) :: gl 1 (textsL.map S) :: gl 2 (pow10L.map (Value.int .u64)) :: Φ) w) (hm : scrutinylaw13_ExprLaws with_ = some r) :
    CallsR Tryd.prog 5 [(.agg #[(.int .i64 with_.1.op), (.int .i64 with_.1.n), (.int .i64 with_.1.at_), (sl v1), (.int .i64 with_.2.1.op), (.int .i64 with_.2.1.n), (.int .i64 with_.2.1.at_), (sl v3), (.int .i64 with_.2.2.1.op), (.int .i64 with_.2.2.1.n), (.int .i64 with_.2.2.1.at_), (sl v5), (.int .i64 with_.2.2.2.1.op), (.int .i64 with_.2.2.2.1.n), (.int .i64 with_.2.2.2.1.at_), (sl v7), (sl v9)])] w (fun v w' => v = (.bool r) ∧ Sat (Φ) w') := by
  refine CallsX_enter Tryd.func5 rfl Tryd.ntmps5 rfl ?_
  unfold scrutinylaw13_ExprLaws at hm
  refine WC_seq ?_
  refine WC_region ?_
  refine WS_box (zs := [(.int .i64 with_.1.op), (.int .i64 with_.1.n), (.int .i64 with_.1.at_), (sl v1), (.int .i64 with_.2.1.op), (.int .i64 with_.2.1.n), (.int .i64 with_.2.1.at_), (sl v3), (.int .i64 with_.2.2.1.op), (.int .i64 with_.2.2.1.n), (.int .i64 with_.2.2.1.at_), (sl v5), (.int .i64 with_.2.2.2.1.op), (.int .i64 with_.2.2.2.1.n), (.int .i64 with_.2.2.2.1.at_), (sl v7), (sl v9)]) hs (Opd.t rfl) rfl rfl ?_
  intro b3 w4 hs
  replace hs := Sat.n9 (Γ := Φ) hs rfl
  refine WL_op (Run_assign Opd.c) rfl rfl rfl rfl <| ?_
  refine WL_nil ?_
  refine At_then ?_
  refine WC_seq ?_
  refine WC_region ?_
  refine WL_op (Run_fieldAddr fo50_0 (Opd.t rfl)) rfl rfl rfl rfl <| WL_op (Run_loadA (vs := [(.int .i64 with_.1.op), (.int .i64 with_.1.n), (.int .i64 with_.1.at_), (sl v1)]) Tryd.underlying24 rfl ti24 (Opd.t rfl) (fun _ => (hs.box (i := 0) rfl).part 0 rfl) rfl) rfl rfl rfl rfl <| ?_
  refine WS_alloc (zs := [(.int .i64 0), (.int .i64 0), (.int .i64 0), (sl (none, 0, 0))]) hs ti24 rfl rfl ?_
  intro b5 w6 hs
  replace hs := Sat.n10 (Γ := Φ) hs rfl
  refine WS_store (us := [(.int .i64 with_.1.op), (.int .i64 with_.1.n), (.int .i64 with_.1.at_), (sl v1)]) (vs' := [(.int .i64 with_.1.op), (.int .i64 with_.1.n), (.int .i64 with_.1.at_), (sl v1)]) hs 0 rfl ti24 (Opd.t rfl) (Opd.t rfl) rfl rfl rfl rfl rfl ?_
  intro w7 hs
  replace hs := Sat.n10 (Γ := Φ) hs rfl
  refine WL_nil ?_
  refine At_then ?_
  refine WC_seq ?_
  refine WC_region ?_
  refine WL_op (Run_fieldAddr fo50_1 (Opd.t rfl)) rfl rfl rfl rfl <| WL_op (Run_loadA (vs := [(.int .i64 with_.2.1.op), (.int .i64 with_.2.1.n), (.int .i64 with_.2.1.at_), (sl v3)]) Tryd.underlying24 rfl ti24 (Opd.t rfl) (fun _ => (hs.box (i := 1) rfl).part 4 rfl) rfl) rfl rfl rfl rfl <| ?_
  refine WS_alloc (zs := [(.int .i64 0), (.int .i64 0), (.int .i64 0), (sl (none, 0, 0))]) hs ti24 rfl rfl ?_
  intro b8 w9 hs
  replace hs := Sat.n11 (Γ := Φ) hs rfl
  refine WS_store (us := [(.int .i64 with_.2.1.op), (.int .i64 with_.2.1.n), (.int .i64 with_.2.1.at_), (sl v3)]) (vs' := [(.int .i64 with_.2.1.op), (.int .i64 with_.2.1.n), (.int .i64 with_.2.1.at_), (sl v3)]) hs 0 rfl ti24 (Opd.t rfl) (Opd.t rfl) rfl rfl rfl rfl rfl ?_
  intro w10 hs
  replace hs := Sat.n11 (Γ := Φ) hs rfl
  refine WL_nil ?_
  refine At_then ?_
  refine WC_seq ?_
  refine WC_region ?_
  refine WL_op (Run_fieldAddr fo50_2 (Opd.t rfl)) rfl rfl rfl rfl <| WL_op (Run_loadA (vs := [(.int .i64 with_.2.2.1.op), (.int .i64 with_.2.2.1.n), (.int .i64 with_.2.2.1.at_), (sl v5)]) Tryd.underlying24 rfl ti24 (Opd.t rfl) (fun _ => (hs.box (i := 2) rfl).part 8 rfl) rfl) rfl rfl rfl rfl <| ?_
  refine WS_alloc (zs := [(.int .i64 0), (.int .i64 0), (.int .i64 0), (sl (none, 0, 0))]) hs ti24 rfl rfl ?_
  intro b11 w12 hs
  replace hs := Sat.n12 (Γ := Φ) hs rfl
  refine WS_store (us := [(.int .i64 with_.2.2.1.op), (.int .i64 with_.2.2.1.n), (.int .i64 with_.2.2.1.at_), (sl v5)]) (vs' := [(.int .i64 with_.2.2.1.op), (.int .i64 with_.2.2.1.n), (.int .i64 with_.2.2.1.at_), (sl v5)]) hs 0 rfl ti24 (Opd.t rfl) (Opd.t rfl) rfl rfl rfl rfl rfl ?_
  intro w13 hs
  replace hs := Sat.n12 (Γ := Φ) hs rfl
  refine WL_nil ?_
  refine At_then ?_
  refine WC_seq ?_
  refine WC_region ?_
  refine WL_op (Run_fieldAddr fo50_3 (Opd.t rfl)) rfl rfl rfl rfl <| WL_op (Run_loadA (vs := [(.int .i64 with_.2.2.2.1.op), (.int .i64 with_.2.2.2.1.n), (.int .i64 with_.2.2.2.1.at_), (sl v7)]) Tryd.underlying24 rfl ti24 (Opd.t rfl) (fun _ => (hs.box (i := 3) rfl).part 12 rfl) rfl) rfl rfl rfl rfl <| ?_
  refine WS_alloc (zs := [(.int .i64 0), (.int .i64 0), (.int .i64 0), (sl (none, 0, 0))]) hs ti24 rfl rfl ?_
  intro b14 w15 hs
  replace hs := Sat.n13 (Γ := Φ) hs rfl
  refine WS_store (us := [(.int .i64 with_.2.2.2.1.op), (.int .i64 with_.2.2.2.1.n), (.int .i64 with_.2.2.2.1.at_), (sl v7)]) (vs' := [(.int .i64 with_.2.2.2.1.op), (.int .i64 with_.2.2.2.1.n), (.int .i64 with_.2.2.2.1.at_), (sl v7)]) hs 0 rfl ti24 (Opd.t rfl) (Opd.t rfl) rfl rfl rfl rfl rfl ?_
  intro w16 hs
  replace hs := Sat.n13 (Γ := Φ) hs rfl
  refine WL_nil ?_
  refine At_then ?_
  refine WC_seq ?_
  refine WC_region ?_
  refine WL_op (Run_fieldAddr fo50_4 (Opd.t rfl)) rfl rfl rfl rfl <| WL_op (Run_load1 (v := (sl v9)) Tryd.underlying25 rfl (Opd.t rfl) (fun _ => (hs.box (i := 4) rfl).part 16 rfl)) rfl rfl rfl rfl <| ?_
  refine WS_alloc (zs := [(sl (none, 0, 0))]) hs ti25 rfl rfl ?_
  intro b17 w18 hs
  replace hs := Sat.n14 (Γ := Φ) hs rfl
  refine WS_store (us := [(sl v9)]) (vs' := [(sl v9)]) hs 0 rfl ti25 (Opd.t rfl) (Opd.t rfl) rfl rfl rfl rfl rfl ?_
  intro w19 hs
  replace hs := Sat.n14 (Γ := Φ) hs rfl
  refine WL_nil ?_
  refine At_then ?_
  refine WC_seq ?_
  refine WC_region ?_
  obtain ⟨r20, hr21, hm⟩ := bind_some' hm
  refine WL_call (f := 10) (first := []) (cap := []) (xs := []) (vs := []) (args := []) Tryd.call10 Opd.f .nil rfl rfl (scrutinylaw13_shown_ok (hs.re 14 [11, 12, 13, 0, 1, 2, 3, 4, 5, 6, 7, 8, 9, 10, 11, 12, 13] rfl) hr21) ?_
  rintro _ w22 ⟨rfl, hs⟩
  replace hs := Sat.n14 (Γ := Φ) hs rfl
  refine WL_op (Run_assign (Opd.t rfl)) rfl rfl rfl rfl <| ?_
  refine WL_nil ?_
  refine At_then ?_
  refine WC_seq ?_
  refine WC_seq ?_
  refine WC_region ?_
  refine WL_op (Run_loadA (vs := [(.int .i64 with_.1.op), (.int .i64 with_.1.n), (.int .i64 with_.1.at_), (sl v1)]) Tryd.underlying24 rfl ti24 (Opd.t rfl) (fun _ => (hs.box (i := 4) rfl).part 0 rfl) rfl) rfl rfl rfl rfl <| ?_
  obtain ⟨r23, hr24, hm⟩ := bind_some' hm
  refine WL_call (f := 11) (first := []) (cap := []) (xs := [(.tmp 29)]) (vs := [(.agg #[(.int .i64 with_.1.op), (.int .i64 with_.1.n), (.int .i64 with_.1.at_), (sl v1)])]) (args := [(.agg #[(.int .i64 with_.1.op), (.int .i64 with_.1.n), (.int .i64 with_.1.at_), (sl v1)])]) Tryd.call11 Opd.f (.cons (Opd.t rfl) .nil) rfl rfl (scrutinyref13_Few_ok (hs.re 14 [6, 0, 1, 2, 3, 4, 5, 6, 7, 8, 9, 10, 11, 12, 13] rfl) hr24) ?_
  rintro _ w25 ⟨rfl, hs⟩
  replace hs := Sat.n14 (Γ := Φ) hs rfl
  obtain ⟨b26, e27, hm⟩ := letv_some hm
  refine WL_op (Run.eqB (Run_notB (Opd.t rfl)) e27) rfl rfl rfl rfl <| WL_op (Run_move (Opd.t rfl)) rfl rfl rfl rfl <| WL_opG rfl rfl rfl rfl guard_neg (Run_loadA (vs := [(.int .i64 with_.2.1.op), (.int .i64 with_.2.1.n), (.int .i64 with_.2.1.at_), (sl v3)]) Tryd.underlying24 rfl ti24 (Opd.t rfl) (fun _ => (hs.box (i := 3) rfl).part 0 rfl) rfl) rfl rfl rfl <| ?_
  obtain ⟨r28, hr29, -, hm⟩ := callG_some hm
  refine WL_callG rfl rfl rfl guard_neg (f := 11) (first := []) (cap := []) (xs := [(.tmp 33)]) (vs := [(.agg #[(.int .i64 with_.2.1.op), (.int .i64 with_.2.1.n), (.int .i64 with_.2.1.at_), (sl v3)])]) (args := [(.agg #[(.int .i64 with_.2.1.op), (.int .i64 with_.2.1.n), (.int .i64 with_.2.1.at_), (sl v3)])]) Tryd.call11 Opd.f (.cons (Opd.g rfl id) .nil) rfl rfl (fun hg => scrutinyref13_Few_ok (hs.re 14 [7, 0, 1, 2, 3, 4, 5, 6, 7, 8, 9, 10, 11, 12, 13] rfl) (hr29 hg)) ?_
  intro v31 w30 hv32 hz33
  replace hs := Sat.ofG (fun hg => (hv32 hg).2.re 14 [0, 1, 2, 3, 4, 5, 6, 7, 8, 9, 10, 11, 12, 13] rfl) hz33 hs
  refine WL_sub1 (v := (.bool r28)) (fun hg => (hv32 hg).1) ?_
  replace hs := Sat.n14 (Γ := Φ) hs rfl
  obtain ⟨b34, e35, hm⟩ := letv_some hm
  refine WL_opG rfl rfl rfl rfl guard_neg (Run.eqB (Run_notB (Opd.g rfl id)) e35) rfl rfl rfl <| ?_
  obtain ⟨b36, e37, hm⟩ := letv_some hm
  refine WL_op (Run.eqB (Run_or (Opd.t rfl) (Opd.g rfl id)) e37) rfl rfl rfl rfl <| WL_op (Run_move (Opd.t rfl)) rfl rfl rfl rfl <| WL_opG rfl rfl rfl rfl guard_neg (Run_loadA (vs := [(.int .i64 with_.2.2.1.op), (.int .i64 with_.2.2.1.n), (.int .i64 with_.2.2.1.at_), (sl v5)]) Tryd.underlying24 rfl ti24 (Opd.t rfl) (fun _ => (hs.box (i := 2) rfl).part 0 rfl) rfl) rfl rfl rfl <| ?_
  obtain ⟨r38, hr39, -, hm⟩ := callG_some hm
  refine WL_callG rfl rfl rfl guard_neg (f := 11) (first := []) (cap := []) (xs := [(.tmp 38)]) (vs := [(.agg #[(.int .i64 with_.2.2.1.op), (.int .i64 with_.2.2.1.n), (.int .i64 with_.2.2.1.at_), (sl v5)])]) (args := [(.agg #[(.int .i64 with_.2.2.1.op), (.int .i64 with_.2.2.1.n), (.int .i64 with_.2.2.1.at_), (sl v5)])]) Tryd.call11 Opd.f (.cons (Opd.g rfl id) .nil) rfl rfl (fun hg => scrutinyref13_Few_ok (hs.re 14 [8, 0, 1, 2, 3, 4, 5, 6, 7, 8, 9, 10, 11, 12, 13] rfl) (hr39 hg)) ?_
  intro v41 w40 hv42 hz43
  replace hs := Sat.ofG (fun hg => (hv42 hg).2.re 14 [0, 1, 2, 3, 4, 5, 6, 7, 8, 9, 10, 11, 12, 13] rfl) hz43 hs
  refine WL_sub1 (v := (.bool r38)) (fun hg => (hv42 hg).1) ?_
  replace hs := Sat.n14 (Γ := Φ) hs rfl
  obtain ⟨b44, e45, hm⟩ := letv_some hm
  refine WL_opG rfl rfl rfl rfl guard_neg (Run.eqB (Run_notB (Opd.g rfl id)) e45) rfl rfl rfl <| ?_
  obtain ⟨b46, e47, hm⟩ := letv_some hm
  refine WL_op (Run.eqB (Run_or (Opd.t rfl) (Opd.g rfl id)) e47) rfl rfl rfl rfl <| WL_op (Run_move (Opd.t rfl)) rfl rfl rfl rfl <| WL_opG rfl rfl rfl rfl guard_neg (Run_loadA (vs := [(.int .i64 with_.2.2.2.1.op), (.int .i64 with_.2.2.2.1.n), (.int .i64 with_.2.2.2.1.at_), (sl v7)]) Tryd.underlying24 rfl ti24 (Opd.t rfl) (fun _ => (hs.box (i := 1) rfl).part 0 rfl) rfl) rfl rfl rfl <| ?_
  obtain ⟨r48, hr49, -, hm⟩ := callG_some hm
  refine WL_callG rfl rfl rfl guard_neg (f := 11) (first := []) (cap := []) (xs := [(.tmp 43)]) (vs := [(.agg #[(.int .i64 with_.2.2.2.1.op), (.int .i64 with_.2.2.2.1.n), (.int .i64 with_.2.2.2.1.at_), (sl v7)])]) (args := [(.agg #[(.int .i64 with_.2.2.2.1.op), (.int .i64 with_.2.2.2.1.n), (.int .i64 with_.2.2.2.1.at_), (sl v7)])]) Tryd.call11 Opd.f (.cons (Opd.g rfl id) .nil) rfl rfl (fun hg => scrutinyref13_Few_ok (hs.re 14 [9, 0, 1, 2, 3, 4, 5, 6, 7, 8, 9, 10, 11, 12, 13] rfl) (hr49 hg)) ?_
  intro v51 w50 hv52 hz53
  replace hs := Sat.ofG (fun hg => (hv52 hg).2.re 14 [0, 1, 2, 3, 4, 5, 6, 7, 8, 9, 10, 11, 12, 13] rfl) hz53 hs
  refine WL_sub1 (v := (.bool r48)) (fun hg => (hv52 hg).1) ?_
  replace hs := Sat.n14 (Γ := Φ) hs rfl
  obtain ⟨b54, e55, hm⟩ := letv_some hm
  refine WL_opG rfl rfl rfl rfl guard_neg (Run.eqB (Run_notB (Opd.g rfl id)) e55) rfl rfl rfl <| ?_
  obtain ⟨b56, e57, hm⟩ := letv_some hm
  refine WL_op (Run.eqB (Run_or (Opd.t rfl) (Opd.g rfl id)) e57) rfl rfl rfl rfl <| WL_op (Run_move (Opd.t rfl)) rfl rfl rfl rfl <| WL_opG rfl rfl rfl rfl guard_neg (Run_load1 (v := (sl v9)) Tryd.underlying25 rfl (Opd.t rfl) (fun _ => (hs.box (i := 0) rfl).part 0 rfl)) rfl rfl rfl <| WL_opG rfl rfl rfl rfl guard_neg (Run_lenSlG Tryd.underlying25 (Opd.g rfl id) (fun hg => (hs.sl (i := 10) rfl).len)) rfl rfl rfl <| ?_
  obtain ⟨b58, e59, hm⟩ := letv_some hm
  refine WL_opG rfl rfl rfl rfl guard_neg (Run.eqB (Run_gtI (Opd.g rfl id) Opd.c) e59) rfl rfl rfl <| ?_
  obtain ⟨b60, e61, hm⟩ := letv_some hm
  refine WL_op (Run.eqB (Run_or (Opd.t rfl) (Opd.g rfl id)) e61) rfl rfl rfl rfl <| ?_
  refine WL_nil ?_
  refine At_then ?_
  refine WC_cond (Opd.t rfl) (fun hc62 => ?_) (fun hc62 => ?_)
  ·
    replace hm := bif_t hc62 hm
    refine WC_seq ?_
    refine WC_region ?_
    refine WL_op (Run_move (Opd.t rfl)) rfl rfl rfl rfl <| WL_op (Run_assign (Opd.t rfl)) rfl rfl rfl rfl <| ?_
    refine WL_nil ?_
    refine At_then ?_
    refine WC_ret ?_
    refine At_then_ret <| ?_
    refine At_r1 rfl (ResIs.t rfl) ?_
    cases hm
    exact ⟨rfl, (hs.re 14 [] rfl)⟩
  ·
    replace hm := bif_f hc62 hm
    refine WC_skip ?_
    refine At_then ?_
    refine WC_seq ?_
    refine WC_seq ?_
    refine WC_region ?_
    refine WL_op (Run_loadA (vs := [(.int .i64 with_.1.op), (.int .i64 with_.1.n), (.int .i64 with_.1.at_), (sl v1)]) Tryd.underlying24 rfl ti24 (Opd.t rfl) (fun _ => (hs.box (i := 4) rfl).part 0 rfl) rfl) rfl rfl rfl rfl <| ?_
    obtain ⟨r63, hr64, hm⟩ := bind_some' hm
    refine WL_call (f := 28) (first := []) (cap := []) (xs := [(.tmp 53), (.const (.int .i64 1))]) (vs := [(.agg #[(.int .i64 with_.1.op), (.int .i64 with_.1.n), (.int .i64 with_.1.at_), (sl v1)]), (.int .i64 1)]) (args := [(.agg #[(.int .i64 with_.1.op), (.int .i64 with_.1.n), (.int .i64 with_.1.at_), (sl v1)]), (.int .i64 1)]) Tryd.call28 Opd.f (.cons (Opd.t rfl) (.cons Opd.c .nil)) rfl rfl (scrutinylaw13_of_ok (hs.re 14 [6, 0, 1, 2, 3, 4, 5, 6, 7, 8, 9, 10, 11, 12, 13] rfl) hr64) ?_
    rintro _ w65 ⟨rfl, hs⟩
    replace hs := Sat.n14 (Γ := Φ) hs rfl
    obtain ⟨b66, e67, hm⟩ := letv_some hm
    refine WL_op (Run.eqB (Run_notB (Opd.t rfl)) e67) rfl rfl rfl rfl <| WL_op (Run_move (Opd.t rfl)) rfl rfl rfl rfl <| WL_opG rfl rfl rfl rfl guard_neg (Run_loadA (vs := [(.int .i64 with_.2.1.op), (.int .i64 with_.2.1.n), (.int .i64 with_.2.1.at_), (sl v3)]) Tryd.underlying24 rfl ti24 (Opd.t rfl) (fun _ => (hs.box (i := 3) rfl).part 0 rfl) rfl) rfl rfl rfl <| ?_
    obtain ⟨r68, hr69, -, hm⟩ := callG_some hm
    refine WL_callG rfl rfl rfl guard_neg (f := 28) (first := []) (cap := []) (xs := [(.tmp 57), (.const (.int .i64 1))]) (vs := [(.agg #[(.int .i64 with_.2.1.op), (.int .i64 with_.2.1.n), (.int .i64 with_.2.1.at_), (sl v3)]), (.int .i64 1)]) (args := [(.agg #[(.int .i64 with_.2.1.op), (.int .i64 with_.2.1.n), (.int .i64 with_.2.1.at_), (sl v3)]), (.int .i64 1)]) Tryd.call28 Opd.f (.cons (Opd.g rfl id) (.cons Opd.c .nil)) rfl rfl (fun hg => scrutinylaw13_of_ok (hs.re 14 [7, 0, 1, 2, 3, 4, 5, 6, 7, 8, 9, 10, 11, 12, 13] rfl) (hr69 hg)) ?_
    intro v71 w70 hv72 hz73
    replace hs := Sat.ofG (fun hg => (hv72 hg).2.re 14 [0, 1, 2, 3, 4, 5, 6, 7, 8, 9, 10, 11, 12, 13] rfl) hz73 hs
    refine WL_sub1 (v := (.bool r68)) (fun hg => (hv72 hg).1) ?_
    replace hs := Sat.n14 (Γ := Φ) hs rfl
    obtain ⟨b74, e75, hm⟩ := letv_some hm
    refine WL_opG rfl rfl rfl rfl guard_neg (Run.eqB (Run_notB (Opd.g rfl id)) e75) rfl rfl rfl <| ?_
    obtain ⟨b76, e77, hm⟩ := letv_some hm
    refine WL_op (Run.eqB (Run_or (Opd.t rfl) (Opd.g rfl id)) e77) rfl rfl rfl rfl <| WL_op (Run_move (Opd.t rfl)) rfl rfl rfl rfl <| WL_opG rfl rfl rfl rfl guard_neg (Run_loadA (vs := [(.int .i64 with_.2.2.1.op), (.int .i64 with_.2.2.1.n), (.int .i64 with_.2.2.1.at_), (sl v5)]) Tryd.underlying24 rfl ti24 (Opd.t rfl) (fun _ => (hs.box (i := 2) rfl).part 0 rfl) rfl) rfl rfl rfl <| ?_
    obtain ⟨r78, hr79, -, hm⟩ := callG_some hm
    refine WL_callG rfl rfl rfl guard_neg (f := 28) (first := []) (cap := []) (xs := [(.tmp 62), (.const (.int .i64 2))]) (vs := [(.agg #[(.int .i64 with_.2.2.1.op), (.int .i64 with_.2.2.1.n), (.int .i64 with_.2.2.1.at_), (sl v5)]), (.int .i64 2)]) (args := [(.agg #[(.int .i64 with_.2.2.1.op), (.int .i64 with_.2.2.1.n), (.int .i64 with_.2.2.1.at_), (sl v5)]), (.int .i64 2)]) Tryd.call28 Opd.f (.cons (Opd.g rfl id) (.cons Opd.c .nil)) rfl rfl (fun hg => scrutinylaw13_of_ok (hs.re 14 [8, 0, 1, 2, 3, 4, 5, 6, 7, 8, 9, 10, 11, 12, 13] rfl) (hr79 hg)) ?_
    intro v81 w80 hv82 hz83
    replace hs := Sat.ofG (fun hg => (hv82 hg).2.re 14 [0, 1, 2, 3, 4, 5, 6, 7, 8, 9, 10, 11, 12, 13] rfl) hz83 hs
    refine WL_sub1 (v := (.bool r78)) (fun hg => (hv82 hg).1) ?_
    replace hs := Sat.n14 (Γ := Φ) hs rfl
    obtain ⟨b84, e85, hm⟩ := letv_some hm
    refine WL_opG rfl rfl rfl rfl guard_neg (Run.eqB (Run_notB (Opd.g rfl id)) e85) rfl rfl rfl <| ?_
    obtain ⟨b86, e87, hm⟩ := letv_some hm
    refine WL_op (Run.eqB (Run_or (Opd.t rfl) (Opd.g rfl id)) e87) rfl rfl rfl rfl <| WL_op (Run_move (Opd.t rfl)) rfl rfl rfl rfl <| WL_opG rfl rfl rfl rfl guard_neg (Run_loadA (vs := [(.int .i64 with_.2.2.2.1.op), (.int .i64 with_.2.2.2.1.n), (.int .i64 with_.2.2.2.1.at_), (sl v7)]) Tryd.underlying24 rfl ti24 (Opd.t rfl) (fun _ => (hs.box (i := 1) rfl).part 0 rfl) rfl) rfl rfl rfl <| ?_
    obtain ⟨r88, hr89, -, hm⟩ := callG_some hm
    refine WL_callG rfl rfl rfl guard_neg (f := 28) (first := []) (cap := []) (xs := [(.tmp 67), (.const (.int .i64 2))]) (vs := [(.agg #[(.int .i64 with_.2.2.2.1.op), (.int .i64 with_.2.2.2.1.n), (.int .i64 with_.2.2.2.1.at_), (sl v7)]), (.int .i64 2)]) (args := [(.agg #[(.int .i64 with_.2.2.2.1.op), (.int .i64 with_.2.2.2.1.n), (.int .i64 with_.2.2.2.1.at_), (sl v7)]), (.int .i64 2)]) Tryd.call28 Opd.f (.cons (Opd.g rfl id) (.cons Opd.c .nil)) rfl rfl (fun hg => scrutinylaw13_of_ok (hs.re 14 [9, 0, 1, 2, 3, 4, 5, 6, 7, 8, 9, 10, 11, 12, 13] rfl) (hr89 hg)) ?_
    intro v91 w90 hv92 hz93
    replace hs := Sat.ofG (fun hg => (hv92 hg).2.re 14 [0, 1, 2, 3, 4, 5, 6, 7, 8, 9, 10, 11, 12, 13] rfl) hz93 hs
    refine WL_sub1 (v := (.bool r88)) (fun hg => (hv92 hg).1) ?_
    replace hs := Sat.n14 (Γ := Φ) hs rfl
    obtain ⟨b94, e95, hm⟩ := letv_some hm
    refine WL_opG rfl rfl rfl rfl guard_neg (Run.eqB (Run_notB (Opd.g rfl id)) e95) rfl rfl rfl <| ?_
    obtain ⟨b96, e97, hm⟩ := letv_some hm
    refine WL_op (Run.eqB (Run_or (Opd.t rfl) (Opd.g rfl id)) e97) rfl rfl rfl rfl <| ?_
    refine WL_nil ?_
    refine At_then ?_
    refine WC_cond (Opd.t rfl) (fun hc98 => ?_) (fun hc98 => ?_)
    ·
      replace hm := bif_t hc98 hm
      refine WC_seq ?_
      refine WC_region ?_
      refine WL_op (Run_move (Opd.t rfl)) rfl rfl rfl rfl <| WL_op (Run_assign (Opd.t rfl)) rfl rfl rfl rfl <| ?_
      refine WL_nil ?_
      refine At_then ?_
      refine WC_ret ?_
      refine At_then_ret <| ?_
      refine At_r1 rfl (ResIs.t rfl) ?_
      cases hm
      exact ⟨rfl, (hs.re 14 [] rfl)⟩
    ·
      replace hm := bif_f hc98 hm
      refine WC_skip ?_
      refine At_then ?_
      refine WC_seq ?_
      refine WC_region ?_
      refine WL_op (Run_loadA (vs := [(.int .i64 with_.1.op), (.int .i64 with_.1.n), (.int .i64 with_.1.at_), (sl v1)]) Tryd.underlying24 rfl ti24 (Opd.t rfl) (fun _ => (hs.box (i := 4) rfl).part 0 rfl) rfl) rfl rfl rfl rfl <| WL_op (Run_load1 (v := (sl v9)) Tryd.underlying25 rfl (Opd.t rfl) (fun _ => (hs.box (i := 0) rfl).part 0 rfl)) rfl rfl rfl rfl <| ?_
      obtain ⟨r99, hr100, hm⟩ := bind_some' hm
      refine WL_call (f := 24) (first := []) (cap := []) (xs := [(.tmp 72), (.tmp 73)]) (vs := [(.agg #[(.int .i64 with_.1.op), (.int .i64 with_.1.n), (.int .i64 with_.1.at_), (sl v1)]), (sl v9)]) (args := [(.agg #[(.int .i64 with_.1.op), (.int .i64 with_.1.n), (.int .i64 with_.1.at_), (sl v1)]), (sl v9)]) Tryd.call24 Opd.f (.cons (Opd.t rfl) (.cons (Opd.t rfl) .nil)) rfl rfl (expr_Eval_ok (hs.re 14 [6, 10, 0, 1, 2, 3, 4, 5, 6, 7, 8, 9, 10, 11, 12, 13] rfl) hr100) ?_
      rintro _ w101 ⟨rfl, hs⟩
      replace hs := Sat.n14 (Γ := Φ) hs rfl
      refine WL_op (Run_assign (Opd.t rfl)) rfl rfl rfl rfl <| ?_
      refine WL_nil ?_
      refine At_then ?_
      refine WC_seq ?_
      refine WC_region ?_
      refine WL_op (Run_loadA (vs := [(.int .i64 with_.2.1.op), (.int .i64 with_.2.1.n), (.int .i64 with_.2.1.at_), (sl v3)]) Tryd.underlying24 rfl ti24 (Opd.t rfl) (fun _ => (hs.box (i := 3) rfl).part 0 rfl) rfl) rfl rfl rfl rfl <| WL_op (Run_load1 (v := (sl v9)) Tryd.underlying25 rfl (Opd.t rfl) (fun _ => (hs.box (i := 0) rfl).part 0 rfl)) rfl rfl rfl rfl <| ?_
      obtain ⟨r102, hr103, hm⟩ := bind_some' hm
      refine WL_call (f := 24) (first := []) (cap := []) (xs := [(.tmp 75), (.tmp 76)]) (vs := [(.agg #[(.int .i64 with_.2.1.op), (.int .i64 with_.2.1.n), (.int .i64 with_.2.1.at_), (sl v3)]), (sl v9)]) (args := [(.agg #[(.int .i64 with_.2.1.op), (.int .i64 with_.2.1.n), (.int .i64 with_.2.1.at_), (sl v3)]), (sl v9)]) Tryd.call24 Opd.f (.cons (Opd.t rfl) (.cons (Opd.t rfl) .nil)) rfl rfl (expr_Eval_ok (hs.re 14 [7, 10, 0, 1, 2, 3, 4, 5, 6, 7, 8, 9, 10, 11, 12, 13] rfl) hr103) ?_
      rintro _ w104 ⟨rfl, hs⟩
      replace hs := Sat.n14 (Γ := Φ) hs rfl
      refine WL_op (Run_assign (Opd.t rfl)) rfl rfl rfl rfl <| ?_
      refine WL_nil ?_
      refine At_then ?_
      refine WC_seq ?_
      refine WC_region ?_
      refine WL_op (Run_loadA (vs := [(.int .i64 with_.2.2.1.op), (.int .i64 with_.2.2.1.n), (.int .i64 with_.2.2.1.at_), (sl v5)]) Tryd.underlying24 rfl ti24 (Opd.t rfl) (fun _ => (hs.box (i := 2) rfl).part 0 rfl) rfl) rfl rfl rfl rfl <| WL_op (Run_load1 (v := (sl v9)) Tryd.underlying25 rfl (Opd.t rfl) (fun _ => (hs.box (i := 0) rfl).part 0 rfl)) rfl rfl rfl rfl <| ?_
      obtain ⟨r105, hr106, hm⟩ := bind_some' hm
      refine WL_call (f := 24) (first := []) (cap := []) (xs := [(.tmp 78), (.tmp 79)]) (vs := [(.agg #[(.int .i64 with_.2.2.1.op), (.int .i64 with_.2.2.1.n), (.int .i64 with_.2.2.1.at_), (sl v5)]), (sl v9)]) (args := [(.agg #[(.int .i64 with_.2.2.1.op), (.int .i64 with_.2.2.1.n), (.int .i64 with_.2.2.1.at_), (sl v5)]), (sl v9)]) Tryd.call24 Opd.f (.cons (Opd.t rfl) (.cons (Opd.t rfl) .nil)) rfl rfl (expr_Eval_ok (hs.re 14 [8, 10, 0, 1, 2, 3, 4, 5, 6, 7, 8, 9, 10, 11, 12, 13] rfl) hr106) ?_
      rintro _ w107 ⟨rfl, hs⟩
      replace hs := Sat.n14 (Γ := Φ) hs rfl
      refine WL_op (Run_assign (Opd.t rfl)) rfl rfl rfl rfl <| ?_
      refine WL_nil ?_
      refine At_then ?_
      refine WC_seq ?_
      refine WC_region ?_
      refine WL_op (Run_loadA (vs := [(.int .i64 with_.2.2.2.1.op), (.int .i64 with_.2.2.2.1.n), (.int .i64 with_.2.2.2.1.at_), (sl v7)]) Tryd.underlying24 rfl ti24 (Opd.t rfl) (fun _ => (hs.box (i := 1) rfl).part 0 rfl) rfl) rfl rfl rfl rfl <| WL_op (Run_load1 (v := (sl v9)) Tryd.underlying25 rfl (Opd.t rfl) (fun _ => (hs.box (i := 0) rfl).part 0 rfl)) rfl rfl rfl rfl <| ?_
      obtain ⟨r108, hr109, hm⟩ := bind_some' hm
      refine WL_call (f := 24) (first := []) (cap := []) (xs := [(.tmp 81), (.tmp 82)]) (vs := [(.agg #[(.int .i64 with_.2.2.2.1.op), (.int .i64 with_.2.2.2.1.n), (.int .i64 with_.2.2.2.1.at_), (sl v7)]), (sl v9)]) (args := [(.agg #[(.int .i64 with_.2.2.2.1.op), (.int .i64 with_.2.2.2.1.n), (.int .i64 with_.2.2.2.1.at_), (sl v7)]), (sl v9)]) Tryd.call24 Opd.f (.cons (Opd.t rfl) (.cons (Opd.t rfl) .nil)) rfl rfl (expr_Eval_ok (hs.re 14 [9, 10, 0, 1, 2, 3, 4, 5, 6, 7, 8, 9, 10, 11, 12, 13] rfl) hr109) ?_
      rintro _ w110 ⟨rfl, hs⟩
      replace hs := Sat.n14 (Γ := Φ) hs rfl
      refine WL_op (Run_assign (Opd.t rfl)) rfl rfl rfl rfl <| ?_
      refine WL_nil ?_
      refine At_then ?_
      refine WC_seq ?_
      refine WC_seq ?_
      refine WC_region ?_
      refine WL_op (Run_move (Opd.t rfl)) rfl rfl rfl rfl <| ?_
      obtain ⟨b111, e112, hm⟩ := letv_some hm
      refine WL_op (Run.eqB (Run_neI (Opd.t rfl) Opd.c) e112) rfl rfl rfl rfl <| WL_op (Run_move (Opd.t rfl)) rfl rfl rfl rfl <| WL_opG rfl rfl rfl rfl guard_pos (Run_move (Opd.t rfl)) rfl rfl rfl <| ?_
      obtain ⟨b113, e114, hm⟩ := letv_some hm
      refine WL_opG rfl rfl rfl rfl guard_pos (Run.eqB (Run_neI (Opd.g rfl id) Opd.c) e114) rfl rfl rfl <| ?_
      obtain ⟨b115, e116, hm⟩ := letv_some hm
      refine WL_op (Run.eqB (Run_and (Opd.t rfl) (Opd.g rfl id)) e116) rfl rfl rfl rfl <| WL_op (Run_move (Opd.t rfl)) rfl rfl rfl rfl <| WL_opG rfl rfl rfl rfl guard_neg (Run_move (Opd.t rfl)) rfl rfl rfl <| ?_
      obtain ⟨b117, e118, hm⟩ := letv_some hm
      refine WL_opG rfl rfl rfl rfl guard_neg (Run.eqB (Run_neI (Opd.g rfl id) Opd.c) e118) rfl rfl rfl <| WL_opG rfl rfl rfl rfl guard_neg (Run_move (Opd.g rfl id)) rfl rfl rfl <| WL_opG rfl rfl rfl rfl guard_pos' (Run_move (Opd.t rfl)) rfl rfl rfl <| ?_
      obtain ⟨b119, e120, hm⟩ := letv_some hm
      refine WL_opG rfl rfl rfl rfl guard_pos' (Run.eqB (Run_neI (Opd.g rfl id) Opd.c) e120) rfl rfl rfl <| ?_
      obtain ⟨b121, e122, hm⟩ := letv_some hm
      refine WL_opG rfl rfl rfl rfl guard_neg (Run.eqB (Run_and (Opd.g rfl id) (Opd.g rfl id)) e122) rfl rfl rfl <| ?_
      obtain ⟨b123, e124, hm⟩ := letv_some hm
      refine WL_op (Run.eqB (Run_or (Opd.t rfl) (Opd.g rfl id)) e124) rfl rfl rfl rfl <| ?_
      refine WL_nil ?_
      refine At_then ?_
      refine WC_cond (Opd.t rfl) (fun hc125 => ?_) (fun hc125 => ?_)
      ·
        replace hm := bif_t hc125 hm
        refine WC_seq ?_
        refine WC_region ?_
        refine WL_op (Run_assign Opd.c) rfl rfl rfl rfl <| ?_
        refine WL_nil ?_
        refine At_then ?_
        refine WC_ret ?_
        refine At_then_ret <| ?_
        refine At_r1 rfl (ResIs.t rfl) ?_
        cases hm
        exact ⟨rfl, (hs.re 14 [] rfl)⟩
      ·
        replace hm := bif_f hc125 hm
        refine WC_skip ?_
        refine At_then ?_
        refine WC_seq ?_
        refine WC_region ?_
        refine WL_op (Run_makeFunc (first := []) (cap := [(.tmp 7)]) .nil (.cons (Opd.t rfl) .nil)) rfl rfl rfl rfl <| WL_op (Run_assign (Opd.t rfl)) rfl rfl rfl rfl <| ?_
        refine WL_nil ?_
        refine At_then ?_
        refine WC_seq ?_
        refine WC_region ?_
        refine WL_op (Run_makeFunc (first := []) (cap := [(.tmp 7)]) .nil (.cons (Opd.t rfl) .nil)) rfl rfl rfl rfl <| WL_op (Run_assign (Opd.t rfl)) rfl rfl rfl rfl <| ?_
        refine WL_nil ?_
        refine At_then ?_
        refine WC_seq ?_
        refine WC_region ?_
        refine WL_op (Run_move (Opd.t rfl)) rfl rfl rfl rfl <| WL_op (Run_loadA (vs := [(.int .i64 with_.1.op), (.int .i64 with_.1.n), (.int .i64 with_.1.at_), (sl v1)]) Tryd.underlying24 rfl ti24 (Opd.t rfl) (fun _ => (hs.box (i := 4) rfl).part 0 rfl) rfl) rfl rfl rfl rfl <| WL_op (Run_loadA (vs := [(.int .i64 with_.2.1.op), (.int .i64 with_.2.1.n), (.int .i64 with_.2.1.at_), (sl v3)]) Tryd.underlying24 rfl ti24 (Opd.t rfl) (fun _ => (hs.box (i := 3) rfl).part 0 rfl) rfl) rfl rfl rfl rfl <| ?_
        obtain ⟨r126, hr127, hm⟩ := bind_some' hm
        refine WL_call (f := 29) (first := []) (cap := [(.pointer (some ⟨b17, 0, none⟩))]) (xs := [(.const (.int .i64 3)), (.tmp 101), (.tmp 102)]) (vs := [(.int .i64 3), (.agg #[(.int .i64 with_.1.op), (.int .i64 with_.1.n), (.int .i64 with_.1.at_), (sl v1)]), (.agg #[(.int .i64 with_.2.1.op), (.int .i64 with_.2.1.n), (.int .i64 with_.2.1.at_), (sl v3)])]) (args := [(.int .i64 3), (.agg #[(.int .i64 with_.1.op), (.int .i64 with_.1.n), (.int .i64 with_.1.at_), (sl v1)]), (.agg #[(.int .i64 with_.2.1.op), (.int .i64 with_.2.1.n), (.int .i64 with_.2.1.at_), (sl v3)]), (.pointer (some ⟨b17, 0, none⟩))]) Tryd.call29 (Opd.t rfl) (.cons Opd.c (.cons (Opd.t rfl) (.cons (Opd.t rfl) .nil))) rfl rfl (scrutinylaw13_ExprLaws_c1_ok (hs.re 14 [6, 7, 0, 10, 1, 2, 3, 4, 5, 6, 7, 8, 9, 10, 11, 12, 13] rfl) hr127) ?_
        rintro _ w128 ⟨rfl, hs⟩
        replace hs := Sat.n15 (Γ := Φ) hs rfl
        refine WL_op (Run_move (Opd.t rfl)) rfl rfl rfl rfl <| WL_op (Run_move (Opd.t rfl)) rfl rfl rfl rfl <| WL_op (Run_add (Opd.t rfl) (Opd.t rfl)) rfl rfl rfl rfl <| ?_
        obtain ⟨b129, e130, hm⟩ := letv_some hm
        refine WL_op (Run.eqB (Run_eqI (Opd.t rfl) (Opd.t rfl)) e130) rfl rfl rfl rfl <| WL_op (Run_move (Opd.t rfl)) rfl rfl rfl rfl <| WL_opG rfl rfl rfl rfl guard_pos (Run_move (Opd.t rfl)) rfl rfl rfl <| WL_opG rfl rfl rfl rfl guard_pos (Run_loadA (vs := [(.int .i64 with_.1.op), (.int .i64 with_.1.n), (.int .i64 with_.1.at_), (sl v1)]) Tryd.underlying24 rfl ti24 (Opd.t rfl) (fun _ => (hs.box (i := 5) rfl).part 0 rfl) rfl) rfl rfl rfl <| WL_opG rfl rfl rfl rfl guard_pos (Run_loadA (vs := [(.int .i64 with_.2.1.op), (.int .i64 with_.2.1.n), (.int .i64 with_.2.1.at_), (sl v3)]) Tryd.underlying24 rfl ti24 (Opd.t rfl) (fun _ => (hs.box (i := 4) rfl).part 0 rfl) rfl) rfl rfl rfl <| ?_
        obtain ⟨r131, hr132, -, hm⟩ := callG_some hm
        refine WL_callG rfl rfl rfl guard_pos (f := 29) (first := []) (cap := [(.pointer (some ⟨b17, 0, none⟩))]) (xs := [(.const (.int .i64 4)), (.tmp 110), (.tmp 111)]) (vs := [(.int .i64 4), (.agg #[(.int .i64 with_.1.op), (.int .i64 with_.1.n), (.int .i64 with_.1.at_), (sl v1)]), (.agg #[(.int .i64 with_.2.1.op), (.int .i64 with_.2.1.n), (.int .i64 with_.2.1.at_), (sl v3)])]) (args := [(.int .i64 4), (.agg #[(.int .i64 with_.1.op), (.int .i64 with_.1.n), (.int .i64 with_.1.at_), (sl v1)]), (.agg #[(.int .i64 with_.2.1.op), (.int .i64 with_.2.1.n), (.int .i64 with_.2.1.at_), (sl v3)]), (.pointer (some ⟨b17, 0, none⟩))]) Tryd.call29 (Opd.g rfl id) (.cons Opd.c (.cons (Opd.g rfl id) (.cons (Opd.g rfl id) .nil))) rfl rfl (fun hg => scrutinylaw13_ExprLaws_c1_ok (hs.re 15 [7, 8, 0, 1, 1, 2, 3, 4, 5, 6, 7, 8, 9, 10, 11, 12, 13, 14] rfl) (hr132 hg)) ?_
        intro v134 w133 hv135 hz136
        replace hs := Sat.ofG (fun hg => (hv135 hg).2.re 16 [0, 2, 3, 4, 5, 6, 7, 8, 9, 10, 11, 12, 13, 14, 15] rfl) hz136 hs
        refine WL_sub1 (v := (.int .i64 r131)) (fun hg => (hv135 hg).1) ?_
        replace hs := Sat.n15 (Γ := Φ) hs rfl
        refine WL_opG rfl rfl rfl rfl guard_pos (Run_move (Opd.t rfl)) rfl rfl rfl <| WL_opG rfl rfl rfl rfl guard_pos (Run_move (Opd.t rfl)) rfl rfl rfl <| WL_opG rfl rfl rfl rfl guard_pos (Run_sub (Opd.g rfl id) (Opd.g rfl id)) rfl rfl rfl <| ?_
        obtain ⟨b137, e138, hm⟩ := letv_some hm
        refine WL_opG rfl rfl rfl rfl guard_pos (Run.eqB (Run_eqI (Opd.g rfl id) (Opd.g rfl id)) e138) rfl rfl rfl <| ?_
        obtain ⟨b139, e140, hm⟩ := letv_some hm
        refine WL_op (Run.eqB (Run_and (Opd.t rfl) (Opd.g rfl id)) e140) rfl rfl rfl rfl <| WL_op (Run_move (Opd.t rfl)) rfl rfl rfl rfl <| WL_opG rfl rfl rfl rfl guard_pos (Run_move (Opd.t rfl)) rfl rfl rfl <| WL_opG rfl rfl rfl rfl guard_pos (Run_loadA (vs := [(.int .i64 with_.1.op), (.int .i64 with_.1.n), (.int .i64 with_.1.at_), (sl v1)]) Tryd.underlying24 rfl ti24 (Opd.t rfl) (fun _ => (hs.box (i := 5) rfl).part 0 rfl) rfl) rfl rfl rfl <| WL_opG rfl rfl rfl rfl guard_pos (Run_loadA (vs := [(.int .i64 with_.2.1.op), (.int .i64 with_.2.1.n), (.int .i64 with_.2.1.at_), (sl v3)]) Tryd.underlying24 rfl ti24 (Opd.t rfl) (fun _ => (hs.box (i := 4) rfl).part 0 rfl) rfl) rfl rfl rfl <| ?_
        obtain ⟨r141, hr142, -, hm⟩ := callG_some hm
        refine WL_callG rfl rfl rfl guard_pos (f := 29) (first := []) (cap := [(.pointer (some ⟨b17, 0, none⟩))]) (xs := [(.const (.int .i64 5)), (.tmp 120), (.tmp 121)]) (vs := [(.int .i64 5), (.agg #[(.int .i64 with_.1.op), (.int .i64 with_.1.n), (.int .i64 with_.1.at_), (sl v1)]), (.agg #[(.int .i64 with_.2.1.op), (.int .i64 with_.2.1.n), (.int .i64 with_.2.1.at_), (sl v3)])]) (args := [(.int .i64 5), (.agg #[(.int .i64 with_.1.op), (.int .i64 with_.1.n), (.int .i64 with_.1.at_), (sl v1)]), (.agg #[(.int .i64 with_.2.1.op), (.int .i64 with_.2.1.n), (.int .i64 with_.2.1.at_), (sl v3)]), (.pointer (some ⟨b17, 0, none⟩))]) Tryd.call29 (Opd.g rfl id) (.cons Opd.c (.cons (Opd.g rfl id) (.cons (Opd.g rfl id) .nil))) rfl rfl (fun hg => scrutinylaw13_ExprLaws_c1_ok (hs.re 15 [7, 8, 0, 1, 1, 2, 3, 4, 5, 6, 7, 8, 9, 10, 11, 12, 13, 14] rfl) (hr142 hg)) ?_
        intro v144 w143 hv145 hz146
        replace hs := Sat.ofG (fun hg => (hv145 hg).2.re 16 [0, 2, 3, 4, 5, 6, 7, 8, 9, 10, 11, 12, 13, 14, 15] rfl) hz146 hs
        refine WL_sub1 (v := (.int .i64 r141)) (fun hg => (hv145 hg).1) ?_
        replace hs := Sat.n15 (Γ := Φ) hs rfl
        refine WL_opG rfl rfl rfl rfl guard_pos (Run_move (Opd.t rfl)) rfl rfl rfl <| WL_opG rfl rfl rfl rfl guard_pos (Run_move (Opd.t rfl)) rfl rfl rfl <| WL_opG rfl rfl rfl rfl guard_pos (Run_mul (Opd.g rfl id) (Opd.g rfl id)) rfl rfl rfl <| ?_
        obtain ⟨b147, e148, hm⟩ := letv_some hm
        refine WL_opG rfl rfl rfl rfl guard_pos (Run.eqB (Run_eqI (Opd.g rfl id) (Opd.g rfl id)) e148) rfl rfl rfl <| ?_
        obtain ⟨b149, e150, hm⟩ := letv_some hm
        refine WL_op (Run.eqB (Run_and (Opd.t rfl) (Opd.g rfl id)) e150) rfl rfl rfl rfl <| WL_op (Run_move (Opd.t rfl)) rfl rfl rfl rfl <| WL_opG rfl rfl rfl rfl guard_pos (Run_loadA (vs := [(.int .i64 with_.1.op), (.int .i64 with_.1.n), (.int .i64 with_.1.at_), (sl v1)]) Tryd.underlying24 rfl ti24 (Opd.t rfl) (fun _ => (hs.box (i := 5) rfl).part 0 rfl) rfl) rfl rfl rfl <| ?_
        refine WS_litG (A := RExpr) (xs := [with_.1]) (zs := [(.int .i64 0), (.int .i64 0), (.int .i64 0), (sl (none, 0, 0))]) (cells := [(.int .i64 with_.1.op), (.int .i64 with_.1.n), (.int .i64 with_.1.at_), (sl v1)]) (parts := [(0, (.tmp 129))]) rfl rfl rfl guard_pos hs Tryd.underlying22 ti24 rfl rfl rfl (.cons (Opd.g rfl id) .nil) (by kernel_rfl) rfl (fun hg => (ARd.cons (A := RExpr) (c := [(.int .i64 with_.1.op), (.int .i64 with_.1.n), (.int .i64 with_.1.at_), (sl v1)]) (x := with_.1) (RExpr_closeE (⟨_, rfl, (hs.sl (i := 7) rfl)⟩)) ARd.nil)) rfl ?_
        intro v151 w152 hs
        refine WL_opG rfl rfl rfl rfl guard_pos (Run_build (parts := [(0, (.const (.int .i64 6))), (3, (.tmp 130))]) (v := (.agg #[(.int .i64 6), (.int .i64 0), (.int .i64 0), (sl v151)])) (.cons Opd.c (.cons (Opd.g rfl id) .nil)) (fun _ => by kernel_rfl)) rfl rfl rfl <| WL_opG rfl rfl rfl rfl guard_pos (Run_load1 (v := (sl v9)) Tryd.underlying25 rfl (Opd.t rfl) (fun _ => (hs.box (i := 1) rfl).part 0 rfl)) rfl rfl rfl <| ?_
        obtain ⟨r153, hr154, -, hm⟩ := callG_some hm
        refine WL_callG rfl rfl rfl guard_pos (f := 24) (first := []) (cap := []) (xs := [(.tmp 131), (.tmp 132)]) (vs := [(.agg #[(.int .i64 6), (.int .i64 0), (.int .i64 0), (sl v151)]), (sl v9)]) (args := [(.agg #[(.int .i64 6), (.int .i64 0), (.int .i64 0), (sl v151)]), (sl v9)]) Tryd.call24 Opd.f (.cons (Opd.g rfl id) (.cons (Opd.g rfl id) .nil)) rfl rfl (fun hg => expr_Eval_ok (e := (Ex.mk 6 0 0 ([with_.1] : List Ex))) ((hs.addS (hs.slG (i := 0) rfl hg)).re 17 [0, 3, 1, 2, 3, 4, 5, 6, 7, 8, 9, 10, 11, 12, 13, 14, 15, 16] rfl) (hr154 hg)) ?_
        intro v156 w155 hv157 hz158
        replace hs := Sat.ofG (fun hg => (hv157 hg).2.re 16 [0, 1, 2, 3, 4, 5, 6, 7, 8, 9, 10, 11, 12, 13, 14, 15] rfl) hz158 hs
        refine WL_sub1 (v := (.int .i64 r153)) (fun hg => (hv157 hg).1) ?_
        replace hs := Sat.n16 (Γ := Φ) hs rfl
        refine WL_opG rfl rfl rfl rfl guard_pos (Run_move (Opd.t rfl)) rfl rfl rfl <| WL_opG rfl rfl rfl rfl guard_pos (Run_neg (Opd.g rfl id)) rfl rfl rfl <| ?_
        obtain ⟨b159, e160, hm⟩ := letv_some hm
        refine WL_opG rfl rfl rfl rfl guard_pos (Run.eqB (Run_eqI (Opd.g rfl id) (Opd.g rfl id)) e160) rfl rfl rfl <| ?_
        obtain ⟨b161, e162, hm⟩ := letv_some hm
        refine WL_op (Run.eqB (Run_and (Opd.t rfl) (Opd.g rfl id)) e162) rfl rfl rfl rfl <| WL_op (Run_assign (Opd.t rfl)) rfl rfl rfl rfl <| ?_
        refine WL_nil ?_
        refine At_then ?_
        refine WC_seq ?_
        refine WC_region_mixed [0, 0, 0, 7, 0, 0, 0, 120, 136, 256, 640, 1024, 1024, 1024, 15360, 1024, 1024, 1024, 246784, 279552, 525312, 1049600, 2359296, 4194304, 4194304, 4194304, 62914560, 4194304, 4194304, 4194304, 1010827264, 1145044992, 2151677952, 4299161600, 9663676416, 17179869184, 17179869184, 17179869184, 257698037760, 17179869184, 17179869184, 17179869184, 4140348473344, 4690104287232, 8813272891392, 21990232555520, 35184372088832, 35184372088832, 35184372088832, 527765581332480, 598134325510144, 35184372088832, 35184372088832, 6790583813144576, 10168283533672448, 18049582881570816, 36591746972385280, 72057594037927936, 72057594037927936, 72057594037927936, 1080863910568919040, 1224979098644774912, 72057594037927936, 72057594037927936, 13907115649320091648, 20824644676961173504, 36965545741457031168, 147573952589676412927] (.q 0 0 (.q 1 1 (.q 2 3 (.q 4 7 (.q 5 23 (.q 6 55 (.l 3 119 (.l 7 127 (.q 8 255 (.q 9 511 (.q 10 1023 (.q 11 2047 (.q 12 4095 (.q 13 8191 (.q 15 16383 (.q 16 49151 (.q 17 114687 (.l 14 245759 (.l 18 262143 (.q 19 524287 (.q 20 1048575 (.q 21 2097151 (.q 22 4194303 (.q 23 8388607 (.q 24 16777215 (.q 25 33554431 (.q 27 67108863 (.q 28 201326591 (.q 29 469762047 (.l 26 1006632959 (.l 30 1073741823 (.q 31 2147483647 (.q 32 4294967295 (.q 33 8589934591 (.q 34 17179869183 (.q 35 34359738367 (.q 36 68719476735 (.q 37 137438953471 (.q 39 274877906943 (.q 40 824633720831 (.q 41 1924145348607 (.l 38 4123168604159 (.l 42 4398046511103 (.q 43 8796093022207 (.q 44 17592186044415 (.q 45 35184372088831 (.q 46 70368744177663 (.q 47 140737488355327 (.q 48 281474976710655 (.q 51 562949953421311 (.q 52 2814749767106559 (.q 53 7318349394477055 (.l 49 16325548649218047 (.q 50 16888498602639359 (.q 54 18014398509481983 (.q 55 36028797018963967 (.q 56 72057594037927935 (.q 57 144115188075855871 (.q 58 288230376151711743 (.q 59 576460752303423487 (.q 62 1152921504606846975 (.q 63 5764607523034234879 (.q 64 14987979559889010687 (.l 60 33434723633598562303 (.q 61 34587645138205409279 (.q 65 36893488147419103231 (.q 66 73786976294838206463 (.q 67 147573952589676412927 .nil)))))))))))))))))))))))))))))))))))))))))))))))))))))))))))))))))))) (by kernel_rfl) (by kernel_rfl) ?_
        intro w163 hx164
        replace hs := hs.ext hx164
        refine WD_pure (fun _ => (Run_move (Opd.t rfl))) rfl rfl rfl rfl <| WD_op (fun w => CellsAt w ⟨b5, 0, none⟩ [(.int .i64 with_.1.op), (.int .i64 with_.1.n), (.int .i64 with_.1.at_), (sl v1)]) ((hs.box (i := 6) rfl).part 0 rfl) (fun _ hJ => (Run_loadA (vs := [(.int .i64 with_.1.op), (.int .i64 with_.1.n), (.int .i64 with_.1.at_), (sl v1)]) Tryd.underlying24 rfl ti24 (Opd.t rfl) (fun _ => hJ) rfl)) rfl rfl rfl rfl <| WD_op (fun w => CellsAt w ⟨b8, 0, none⟩ [(.int .i64 with_.2.1.op), (.int .i64 with_.2.1.n), (.int .i64 with_.2.1.at_), (sl v3)]) ((hs.box (i := 5) rfl).part 0 rfl) (fun _ hJ => (Run_loadA (vs := [(.int .i64 with_.2.1.op), (.int .i64 with_.2.1.n), (.int .i64 with_.2.1.at_), (sl v3)]) Tryd.underlying24 rfl ti24 (Opd.t rfl) (fun _ => hJ) rfl)) rfl rfl rfl rfl <| WD_pure (fun _ => (Run_move (Opd.t rfl))) rfl rfl rfl rfl <| WD_op (fun w => CellsAt w ⟨b5, 0, none⟩ [(.int .i64 with_.1.op), (.int .i64 with_.1.n), (.int .i64 with_.1.at_), (sl v1)]) ((hs.box (i := 6) rfl).part 0 rfl) (fun _ hJ => (Run_loadA (vs := [(.int .i64 with_.1.op), (.int .i64 with_.1.n), (.int .i64 with_.1.at_), (sl v1)]) Tryd.underlying24 rfl ti24 (Opd.t rfl) (fun _ => hJ) rfl)) rfl rfl rfl rfl <| WD_op (fun w => CellsAt w ⟨b8, 0, none⟩ [(.int .i64 with_.2.1.op), (.int .i64 with_.2.1.n), (.int .i64 with_.2.1.at_), (sl v3)]) ((hs.box (i := 5) rfl).part 0 rfl) (fun _ hJ => (Run_loadA (vs := [(.int .i64 with_.2.1.op), (.int .i64 with_.2.1.n), (.int .i64 with_.2.1.at_), (sl v3)]) Tryd.underlying24 rfl ti24 (Opd.t rfl) (fun _ => hJ) rfl)) rfl rfl rfl rfl <| ?_
        refine WD_loud (pend' := [(6, fun w => CellsAt w ⟨b8, 0, none⟩ [(.int .i64 with_.2.1.op), (.int .i64 with_.2.1.n), (.int .i64 with_.2.1.at_), (sl v3)]), (5, fun w => CellsAt w ⟨b5, 0, none⟩ [(.int .i64 with_.1.op), (.int .i64 with_.1.n), (.int .i64 with_.1.at_), (sl v1)])]) rfl (by kernel_rfl) ?_
        obtain ⟨r165, hr166, hm⟩ := bind_some' hm
        refine WL_call (f := 29) (first := []) (cap := [(.pointer (some ⟨b17, 0, none⟩))]) (xs := [(.const (.int .i64 9)), (.tmp 139), (.tmp 140)]) (vs := [(.int .i64 9), (.agg #[(.int .i64 with_.1.op), (.int .i64 with_.1.n), (.int .i64 with_.1.at_), (sl v1)]), (.agg #[(.int .i64 with_.2.1.op), (.int .i64 with_.2.1.n), (.int .i64 with_.2.1.at_), (sl v3)])]) (args := [(.int .i64 9), (.agg #[(.int .i64 with_.1.op), (.int .i64 with_.1.n), (.int .i64 with_.1.at_), (sl v1)]), (.agg #[(.int .i64 with_.2.1.op), (.int .i64 with_.2.1.n), (.int .i64 with_.2.1.at_), (sl v3)]), (.pointer (some ⟨b17, 0, none⟩))]) Tryd.call29 (Opd.t rfl) (.cons Opd.c (.cons (Opd.t rfl) (.cons (Opd.t rfl) .nil))) rfl rfl (scrutinylaw13_ExprLaws_c1_ok (hs.re 16 [8, 9, 1, 2, 0, 2, 3, 4, 5, 6, 7, 8, 9, 10, 11, 12, 13, 14, 15] rfl) hr166) ?_
        rintro _ w167 ⟨rfl, hs⟩
        replace hs := Sat.n17 (Γ := Φ) hs rfl
        refine WL_nil ?_
        refine At_QK (allJ_cons ((hs.box (i := 6) rfl).part 0 rfl) (allJ_cons ((hs.box (i := 7) rfl).part 0 rfl) allJ_nil)) ?_
        refine WD_loud (pend' := []) rfl (by kernel_rfl) ?_
        obtain ⟨r168, hr169, hm⟩ := bind_some' hm
        refine WL_call (f := 29) (first := []) (cap := [(.pointer (some ⟨b17, 0, none⟩))]) (xs := [(.const (.int .i64 12)), (.tmp 143), (.tmp 144)]) (vs := [(.int .i64 12), (.agg #[(.int .i64 with_.1.op), (.int .i64 with_.1.n), (.int .i64 with_.1.at_), (sl v1)]), (.agg #[(.int .i64 with_.2.1.op), (.int .i64 with_.2.1.n), (.int .i64 with_.2.1.at_), (sl v3)])]) (args := [(.int .i64 12), (.agg #[(.int .i64 with_.1.op), (.int .i64 with_.1.n), (.int .i64 with_.1.at_), (sl v1)]), (.agg #[(.int .i64 with_.2.1.op), (.int .i64 with_.2.1.n), (.int .i64 with_.2.1.at_), (sl v3)]), (.pointer (some ⟨b17, 0, none⟩))]) Tryd.call29 (Opd.t rfl) (.cons Opd.c (.cons (Opd.t rfl) (.cons (Opd.t rfl) .nil))) rfl rfl (scrutinylaw13_ExprLaws_c1_ok (hs.re 17 [9, 10, 0, 1, 1, 2, 3, 4, 5, 6, 7, 8, 9, 10, 11, 12, 13, 14, 15, 16] rfl) hr169) ?_
        rintro _ w170 ⟨rfl, hs⟩
        replace hs := Sat.n18 (Γ := Φ) hs rfl
        refine WL_nil ?_
        refine At_QK allJ_nil ?_
        refine WD_pure (fun _ => (Run_add (Opd.t rfl) (Opd.t rfl))) rfl rfl rfl rfl <| ?_
        obtain ⟨b171, e172, hm⟩ := letv_some hm
        refine WD_pure (fun _ => (Run.eqB (Run_eqI (Opd.t rfl) Opd.c) e172)) rfl rfl rfl rfl <| WD_pure (fun _ => (Run_move (Opd.t rfl))) rfl rfl rfl rfl <| WD_pureG rfl rfl rfl rfl guard_pos (fun _ => (Run_move (Opd.t rfl))) rfl rfl rfl <| WD_opG (fun w => CellsAt w ⟨b5, 0, none⟩ [(.int .i64 with_.1.op), (.int .i64 with_.1.n), (.int .i64 with_.1.at_), (sl v1)]) ((hs.box (i := 8) rfl).part 0 rfl) rfl rfl rfl rfl guard_pos (fun _ hJ => (Run_loadA (vs := [(.int .i64 with_.1.op), (.int .i64 with_.1.n), (.int .i64 with_.1.at_), (sl v1)]) Tryd.underlying24 rfl ti24 (Opd.t rfl) (fun _ => hJ) rfl)) rfl rfl rfl <| WD_opG (fun w => CellsAt w ⟨b8, 0, none⟩ [(.int .i64 with_.2.1.op), (.int .i64 with_.2.1.n), (.int .i64 with_.2.1.at_), (sl v3)]) ((hs.box (i := 7) rfl).part 0 rfl) rfl rfl rfl rfl guard_pos (fun _ hJ => (Run_loadA (vs := [(.int .i64 with_.2.1.op), (.int .i64 with_.2.1.n), (.int .i64 with_.2.1.at_), (sl v3)]) Tryd.underlying24 rfl ti24 (Opd.t rfl) (fun _ => hJ) rfl)) rfl rfl rfl <| WD_pureG rfl rfl rfl rfl guard_pos (fun _ => (Run_move (Opd.t rfl))) rfl rfl rfl <| WD_opG (fun w => CellsAt w ⟨b5, 0, none⟩ [(.int .i64 with_.1.op), (.int .i64 with_.1.n), (.int .i64 with_.1.at_), (sl v1)]) ((hs.box (i := 8) rfl).part 0 rfl) rfl rfl rfl rfl guard_pos (fun _ hJ => (Run_loadA (vs := [(.int .i64 with_.1.op), (.int .i64 with_.1.n), (.int .i64 with_.1.at_), (sl v1)]) Tryd.underlying24 rfl ti24 (Opd.t rfl) (fun _ => hJ) rfl)) rfl rfl rfl <| WD_opG (fun w => CellsAt w ⟨b8, 0, none⟩ [(.int .i64 with_.2.1.op), (.int .i64 with_.2.1.n), (.int .i64 with_.2.1.at_), (sl v3)]) ((hs.box (i := 7) rfl).part 0 rfl) rfl rfl rfl rfl guard_pos (fun _ hJ => (Run_loadA (vs := [(.int .i64 with_.2.1.op), (.int .i64 with_.2.1.n), (.int .i64 with_.2.1.at_), (sl v3)]) Tryd.underlying24 rfl ti24 (Opd.t rfl) (fun _ => hJ) rfl)) rfl rfl rfl <| ?_
        refine WD_loud (pend' := [(17, fun w => CellsAt w ⟨b8, 0, none⟩ [(.int .i64 with_.2.1.op), (.int .i64 with_.2.1.n), (.int .i64 with_.2.1.at_), (sl v3)]), (16, fun w => CellsAt w ⟨b5, 0, none⟩ [(.int .i64 with_.1.op), (.int .i64 with_.1.n), (.int .i64 with_.1.at_), (sl v1)])]) rfl (by kernel_rfl) ?_
        obtain ⟨r173, hr174, -, hm⟩ := callG_some hm
        refine WL_callG rfl rfl rfl guard_pos (f := 29) (first := []) (cap := [(.pointer (some ⟨b17, 0, none⟩))]) (xs := [(.const (.int .i64 11)), (.tmp 150), (.tmp 151)]) (vs := [(.int .i64 11), (.agg #[(.int .i64 with_.1.op), (.int .i64 with_.1.n), (.int .i64 with_.1.at_), (sl v1)]), (.agg #[(.int .i64 with_.2.1.op), (.int .i64 with_.2.1.n), (.int .i64 with_.2.1.at_), (sl v3)])]) (args := [(.int .i64 11), (.agg #[(.int .i64 with_.1.op), (.int .i64 with_.1.n), (.int .i64 with_.1.at_), (sl v1)]), (.agg #[(.int .i64 with_.2.1.op), (.int .i64 with_.2.1.n), (.int .i64 with_.2.1.at_), (sl v3)]), (.pointer (some ⟨b17, 0, none⟩))]) Tryd.call29 (Opd.g rfl id) (.cons Opd.c (.cons (Opd.g rfl id) (.cons (Opd.g rfl id) .nil))) rfl rfl (fun hg => scrutinylaw13_ExprLaws_c1_ok (hs.re 18 [10, 11, 0, 1, 1, 2, 3, 4, 5, 6, 7, 8, 9, 10, 11, 12, 13, 14, 15, 16, 17] rfl) (hr174 hg)) ?_
        intro v176 w175 hv177 hz178
        replace hs := Sat.ofG (fun hg => (hv177 hg).2.re 19 [0, 2, 3, 4, 5, 6, 7, 8, 9, 10, 11, 12, 13, 14, 15, 16, 17, 18] rfl) hz178 hs
        refine WL_sub1 (v := (.int .i64 r173)) (fun hg => (hv177 hg).1) ?_
        replace hs := Sat.n18 (Γ := Φ) hs rfl
        refine WL_nil ?_
        refine At_QK (allJ_cons ((hs.box (i := 7) rfl).part 0 rfl) (allJ_cons ((hs.box (i := 8) rfl).part 0 rfl) allJ_nil)) ?_
        refine WD_loud (pend' := []) rfl (by kernel_rfl) ?_
        obtain ⟨r179, hr180, -, hm⟩ := callG_some hm
        refine WL_callG rfl rfl rfl guard_pos (f := 29) (first := []) (cap := [(.pointer (some ⟨b17, 0, none⟩))]) (xs := [(.const (.int .i64 10)), (.tmp 154), (.tmp 155)]) (vs := [(.int .i64 10), (.agg #[(.int .i64 with_.1.op), (.int .i64 with_.1.n), (.int .i64 with_.1.at_), (sl v1)]), (.agg #[(.int .i64 with_.2.1.op), (.int .i64 with_.2.1.n), (.int .i64 with_.2.1.at_), (sl v3)])]) (args := [(.int .i64 10), (.agg #[(.int .i64 with_.1.op), (.int .i64 with_.1.n), (.int .i64 with_.1.at_), (sl v1)]), (.agg #[(.int .i64 with_.2.1.op), (.int .i64 with_.2.1.n), (.int .i64 with_.2.1.at_), (sl v3)]), (.pointer (some ⟨b17, 0, none⟩))]) Tryd.call29 (Opd.g rfl id) (.cons Opd.c (.cons (Opd.g rfl id) (.cons (Opd.g rfl id) .nil))) rfl rfl (fun hg => scrutinylaw13_ExprLaws_c1_ok (hs.re 18 [10, 11, 0, 1, 1, 2, 3, 4, 5, 6, 7, 8, 9, 10, 11, 12, 13, 14, 15, 16, 17] rfl) (hr180 hg)) ?_
        intro v182 w181 hv183 hz184
        replace hs := Sat.ofG (fun hg => (hv183 hg).2.re 19 [0, 2, 3, 4, 5, 6, 7, 8, 9, 10, 11, 12, 13, 14, 15, 16, 17, 18] rfl) hz184 hs
        refine WL_sub1 (v := (.int .i64 r179)) (fun hg => (hv183 hg).1) ?_
        replace hs := Sat.n18 (Γ := Φ) hs rfl
        refine WL_nil ?_
        refine At_QK allJ_nil ?_
        refine WD_pureG rfl rfl rfl rfl guard_pos (fun _ => (Run_add (Opd.g rfl id) (Opd.g rfl id))) rfl rfl rfl <| ?_
        obtain ⟨b185, e186, hm⟩ := letv_some hm
        refine WD_pureG rfl rfl rfl rfl guard_pos (fun _ => (Run.eqB (Run_eqI (Opd.g rfl id) Opd.c) e186)) rfl rfl rfl <| ?_
        obtain ⟨b187, e188, hm⟩ := letv_some hm
        refine WD_pure (fun _ => (Run.eqB (Run_and (Opd.t rfl) (Opd.g rfl id)) e188)) rfl rfl rfl rfl <| WD_pure (fun _ => (Run_move (Opd.t rfl))) rfl rfl rfl rfl <| WD_pureG rfl rfl rfl rfl guard_pos (fun _ => (Run_move (Opd.t rfl))) rfl rfl rfl <| WD_opG (fun w => CellsAt w ⟨b5, 0, none⟩ [(.int .i64 with_.1.op), (.int .i64 with_.1.n), (.int .i64 with_.1.at_), (sl v1)]) ((hs.box (i := 8) rfl).part 0 rfl) rfl rfl rfl rfl guard_pos (fun _ hJ => (Run_loadA (vs := [(.int .i64 with_.1.op), (.int .i64 with_.1.n), (.int .i64 with_.1.at_), (sl v1)]) Tryd.underlying24 rfl ti24 (Opd.t rfl) (fun _ => hJ) rfl)) rfl rfl rfl <| WD_opG (fun w => CellsAt w ⟨b8, 0, none⟩ [(.int .i64 with_.2.1.op), (.int .i64 with_.2.1.n), (.int .i64 with_.2.1.at_), (sl v3)]) ((hs.box (i := 7) rfl).part 0 rfl) rfl rfl rfl rfl guard_pos (fun _ hJ => (Run_loadA (vs := [(.int .i64 with_.2.1.op), (.int .i64 with_.2.1.n), (.int .i64 with_.2.1.at_), (sl v3)]) Tryd.underlying24 rfl ti24 (Opd.t rfl) (fun _ => hJ) rfl)) rfl rfl rfl <| WD_pureG rfl rfl rfl rfl guard_pos (fun _ => (Run_move (Opd.t rfl))) rfl rfl rfl <| WD_opG (fun w => CellsAt w ⟨b5, 0, none⟩ [(.int .i64 with_.1.op), (.int .i64 with_.1.n), (.int .i64 with_.1.at_), (sl v1)]) ((hs.box (i := 8) rfl).part 0 rfl) rfl rfl rfl rfl guard_pos (fun _ hJ => (Run_loadA (vs := [(.int .i64 with_.1.op), (.int .i64 with_.1.n), (.int .i64 with_.1.at_), (sl v1)]) Tryd.underlying24 rfl ti24 (Opd.t rfl) (fun _ => hJ) rfl)) rfl rfl rfl <| WD_opG (fun w => CellsAt w ⟨b8, 0, none⟩ [(.int .i64 with_.2.1.op), (.int .i64 with_.2.1.n), (.int .i64 with_.2.1.at_), (sl v3)]) ((hs.box (i := 7) rfl).part 0 rfl) rfl rfl rfl rfl guard_pos (fun _ hJ => (Run_loadA (vs := [(.int .i64 with_.2.1.op), (.int .i64 with_.2.1.n), (.int .i64 with_.2.1.at_), (sl v3)]) Tryd.underlying24 rfl ti24 (Opd.t rfl) (fun _ => hJ) rfl)) rfl rfl rfl <| ?_
        refine WD_loud (pend' := [(29, fun w => CellsAt w ⟨b8, 0, none⟩ [(.int .i64 with_.2.1.op), (.int .i64 with_.2.1.n), (.int .i64 with_.2.1.at_), (sl v3)]), (28, fun w => CellsAt w ⟨b5, 0, none⟩ [(.int .i64 with_.1.op), (.int .i64 with_.1.n), (.int .i64 with_.1.at_), (sl v1)])]) rfl (by kernel_rfl) ?_
        obtain ⟨r189, hr190, -, hm⟩ := callG_some hm
        refine WL_callG rfl rfl rfl guard_pos (f := 29) (first := []) (cap := [(.pointer (some ⟨b17, 0, none⟩))]) (xs := [(.const (.int .i64 7)), (.tmp 162), (.tmp 163)]) (vs := [(.int .i64 7), (.agg #[(.int .i64 with_.1.op), (.int .i64 with_.1.n), (.int .i64 with_.1.at_), (sl v1)]), (.agg #[(.int .i64 with_.2.1.op), (.int .i64 with_.2.1.n), (.int .i64 with_.2.1.at_), (sl v3)])]) (args := [(.int .i64 7), (.agg #[(.int .i64 with_.1.op), (.int .i64 with_.1.n), (.int .i64 with_.1.at_), (sl v1)]), (.agg #[(.int .i64 with_.2.1.op), (.int .i64 with_.2.1.n), (.int .i64 with_.2.1.at_), (sl v3)]), (.pointer (some ⟨b17, 0, none⟩))]) Tryd.call29 (Opd.g rfl id) (.cons Opd.c (.cons (Opd.g rfl id) (.cons (Opd.g rfl id) .nil))) rfl rfl (fun hg => scrutinylaw13_ExprLaws_c1_ok (hs.re 18 [10, 11, 0, 1, 1, 2, 3, 4, 5, 6, 7, 8, 9, 10, 11, 12, 13, 14, 15, 16, 17] rfl) (hr190 hg)) ?_
        intro v192 w191 hv193 hz194
        replace hs := Sat.ofG (fun hg => (hv193 hg).2.re 19 [0, 2, 3, 4, 5, 6, 7, 8, 9, 10, 11, 12, 13, 14, 15, 16, 17, 18] rfl) hz194 hs
        refine WL_sub1 (v := (.int .i64 r189)) (fun hg => (hv193 hg).1) ?_
        replace hs := Sat.n18 (Γ := Φ) hs rfl
        refine WL_nil ?_
        refine At_QK (allJ_cons ((hs.box (i := 7) rfl).part 0 rfl) (allJ_cons ((hs.box (i := 8) rfl).part 0 rfl) allJ_nil)) ?_
        refine WD_loud (pend' := []) rfl (by kernel_rfl) ?_
        obtain ⟨r195, hr196, -, hm⟩ := callG_some hm
        refine WL_callG rfl rfl rfl guard_pos (f := 29) (first := []) (cap := [(.pointer (some ⟨b17, 0, none⟩))]) (xs := [(.const (.int .i64 8)), (.tmp 166), (.tmp 167)]) (vs := [(.int .i64 8), (.agg #[(.int .i64 with_.1.op), (.int .i64 with_.1.n), (.int .i64 with_.1.at_), (sl v1)]), (.agg #[(.int .i64 with_.2.1.op), (.int .i64 with_.2.1.n), (.int .i64 with_.2.1.at_), (sl v3)])]) (args := [(.int .i64 8), (.agg #[(.int .i64 with_.1.op), (.int .i64 with_.1.n), (.int .i64 with_.1.at_), (sl v1)]), (.agg #[(.int .i64 with_.2.1.op), (.int .i64 with_.2.1.n), (.int .i64 with_.2.1.at_), (sl v3)]), (.pointer (some ⟨b17, 0, none⟩))]) Tryd.call29 (Opd.g rfl id) (.cons Opd.c (.cons (Opd.g rfl id) (.cons (Opd.g rfl id) .nil))) rfl rfl (fun hg => scrutinylaw13_ExprLaws_c1_ok (hs.re 18 [10, 11, 0, 1, 1, 2, 3, 4, 5, 6, 7, 8, 9, 10, 11, 12, 13, 14, 15, 16, 17] rfl) (hr196 hg)) ?_
        intro v198 w197 hv199 hz200
        replace hs := Sat.ofG (fun hg => (hv199 hg).2.re 19 [0, 2, 3, 4, 5, 6, 7, 8, 9, 10, 11, 12, 13, 14, 15, 16, 17, 18] rfl) hz200 hs
        refine WL_sub1 (v := (.int .i64 r195)) (fun hg => (hv199 hg).1) ?_
        replace hs := Sat.n18 (Γ := Φ) hs rfl
        refine WL_nil ?_
        refine At_QK allJ_nil ?_
        refine WD_pureG rfl rfl rfl rfl guard_pos (fun _ => (Run_add (Opd.g rfl id) (Opd.g rfl id))) rfl rfl rfl <| ?_
        obtain ⟨b201, e202, hm⟩ := letv_some hm
        refine WD_pureG rfl rfl rfl rfl guard_pos (fun _ => (Run.eqB (Run_eqI (Opd.g rfl id) Opd.c) e202)) rfl rfl rfl <| ?_
        obtain ⟨b203, e204, hm⟩ := letv_some hm
        refine WD_pure (fun _ => (Run.eqB (Run_and (Opd.t rfl) (Opd.g rfl id)) e204)) rfl rfl rfl rfl <| WD_pure (fun _ => (Run_move (Opd.t rfl))) rfl rfl rfl rfl <| WD_pureG rfl rfl rfl rfl guard_pos (fun _ => (Run_move (Opd.t rfl))) rfl rfl rfl <| WD_opG (fun w => CellsAt w ⟨b5, 0, none⟩ [(.int .i64 with_.1.op), (.int .i64 with_.1.n), (.int .i64 with_.1.at_), (sl v1)]) ((hs.box (i := 8) rfl).part 0 rfl) rfl rfl rfl rfl guard_pos (fun _ hJ => (Run_loadA (vs := [(.int .i64 with_.1.op), (.int .i64 with_.1.n), (.int .i64 with_.1.at_), (sl v1)]) Tryd.underlying24 rfl ti24 (Opd.t rfl) (fun _ => hJ) rfl)) rfl rfl rfl <| WD_opG (fun w => CellsAt w ⟨b8, 0, none⟩ [(.int .i64 with_.2.1.op), (.int .i64 with_.2.1.n), (.int .i64 with_.2.1.at_), (sl v3)]) ((hs.box (i := 7) rfl).part 0 rfl) rfl rfl rfl rfl guard_pos (fun _ hJ => (Run_loadA (vs := [(.int .i64 with_.2.1.op), (.int .i64 with_.2.1.n), (.int .i64 with_.2.1.at_), (sl v3)]) Tryd.underlying24 rfl ti24 (Opd.t rfl) (fun _ => hJ) rfl)) rfl rfl rfl <| WD_pureG rfl rfl rfl rfl guard_pos (fun _ => (Run_move (Opd.t rfl))) rfl rfl rfl <| WD_opG (fun w => CellsAt w ⟨b8, 0, none⟩ [(.int .i64 with_.2.1.op), (.int .i64 with_.2.1.n), (.int .i64 with_.2.1.at_), (sl v3)]) ((hs.box (i := 7) rfl).part 0 rfl) rfl rfl rfl rfl guard_pos (fun _ hJ => (Run_loadA (vs := [(.int .i64 with_.2.1.op), (.int .i64 with_.2.1.n), (.int .i64 with_.2.1.at_), (sl v3)]) Tryd.underlying24 rfl ti24 (Opd.t rfl) (fun _ => hJ) rfl)) rfl rfl rfl <| WD_opG (fun w => CellsAt w ⟨b5, 0, none⟩ [(.int .i64 with_.1.op), (.int .i64 with_.1.n), (.int .i64 with_.1.at_), (sl v1)]) ((hs.box (i := 8) rfl).part 0 rfl) rfl rfl rfl rfl guard_pos (fun _ hJ => (Run_loadA (vs := [(.int .i64 with_.1.op), (.int .i64 with_.1.n), (.int .i64 with_.1.at_), (sl v1)]) Tryd.underlying24 rfl ti24 (Opd.t rfl) (fun _ => hJ) rfl)) rfl rfl rfl <| ?_
        refine WD_loud (pend' := [(41, fun w => CellsAt w ⟨b5, 0, none⟩ [(.int .i64 with_.1.op), (.int .i64 with_.1.n), (.int .i64 with_.1.at_), (sl v1)]), (40, fun w => CellsAt w ⟨b8, 0, none⟩ [(.int .i64 with_.2.1.op), (.int .i64 with_.2.1.n), (.int .i64 with_.2.1.at_), (sl v3)])]) rfl (by kernel_rfl) ?_
        obtain ⟨r205, hr206, -, hm⟩ := callG_some hm
        refine WL_callG rfl rfl rfl guard_pos (f := 29) (first := []) (cap := [(.pointer (some ⟨b17, 0, none⟩))]) (xs := [(.const (.int .i64 9)), (.tmp 174), (.tmp 175)]) (vs := [(.int .i64 9), (.agg #[(.int .i64 with_.1.op), (.int .i64 with_.1.n), (.int .i64 with_.1.at_), (sl v1)]), (.agg #[(.int .i64 with_.2.1.op), (.int .i64 with_.2.1.n), (.int .i64 with_.2.1.at_), (sl v3)])]) (args := [(.int .i64 9), (.agg #[(.int .i64 with_.1.op), (.int .i64 with_.1.n), (.int .i64 with_.1.at_), (sl v1)]), (.agg #[(.int .i64 with_.2.1.op), (.int .i64 with_.2.1.n), (.int .i64 with_.2.1.at_), (sl v3)]), (.pointer (some ⟨b17, 0, none⟩))]) Tryd.call29 (Opd.g rfl id) (.cons Opd.c (.cons (Opd.g rfl id) (.cons (Opd.g rfl id) .nil))) rfl rfl (fun hg => scrutinylaw13_ExprLaws_c1_ok (hs.re 18 [10, 11, 0, 1, 1, 2, 3, 4, 5, 6, 7, 8, 9, 10, 11, 12, 13, 14, 15, 16, 17] rfl) (hr206 hg)) ?_
        intro v208 w207 hv209 hz210
        replace hs := Sat.ofG (fun hg => (hv209 hg).2.re 19 [0, 2, 3, 4, 5, 6, 7, 8, 9, 10, 11, 12, 13, 14, 15, 16, 17, 18] rfl) hz210 hs
        refine WL_sub1 (v := (.int .i64 r205)) (fun hg => (hv209 hg).1) ?_
        replace hs := Sat.n18 (Γ := Φ) hs rfl
        refine WL_nil ?_
        refine At_QK (allJ_cons ((hs.box (i := 8) rfl).part 0 rfl) (allJ_cons ((hs.box (i := 7) rfl).part 0 rfl) allJ_nil)) ?_
        refine WD_loud (pend' := []) rfl (by kernel_rfl) ?_
        obtain ⟨r211, hr212, -, hm⟩ := callG_some hm
        refine WL_callG rfl rfl rfl guard_pos (f := 29) (first := []) (cap := [(.pointer (some ⟨b17, 0, none⟩))]) (xs := [(.const (.int .i64 11)), (.tmp 178), (.tmp 179)]) (vs := [(.int .i64 11), (.agg #[(.int .i64 with_.2.1.op), (.int .i64 with_.2.1.n), (.int .i64 with_.2.1.at_), (sl v3)]), (.agg #[(.int .i64 with_.1.op), (.int .i64 with_.1.n), (.int .i64 with_.1.at_), (sl v1)])]) (args := [(.int .i64 11), (.agg #[(.int .i64 with_.2.1.op), (.int .i64 with_.2.1.n), (.int .i64 with_.2.1.at_), (sl v3)]), (.agg #[(.int .i64 with_.1.op), (.int .i64 with_.1.n), (.int .i64 with_.1.at_), (sl v1)]), (.pointer (some ⟨b17, 0, none⟩))]) Tryd.call29 (Opd.g rfl id) (.cons Opd.c (.cons (Opd.g rfl id) (.cons (Opd.g rfl id) .nil))) rfl rfl (fun hg => scrutinylaw13_ExprLaws_c1_ok (hs.re 18 [11, 10, 0, 1, 1, 2, 3, 4, 5, 6, 7, 8, 9, 10, 11, 12, 13, 14, 15, 16, 17] rfl) (hr212 hg)) ?_
        intro v214 w213 hv215 hz216
        replace hs := Sat.ofG (fun hg => (hv215 hg).2.re 19 [0, 2, 3, 4, 5, 6, 7, 8, 9, 10, 11, 12, 13, 14, 15, 16, 17, 18] rfl) hz216 hs
        refine WL_sub1 (v := (.int .i64 r211)) (fun hg => (hv215 hg).1) ?_
        replace hs := Sat.n18 (Γ := Φ) hs rfl
        refine WL_nil ?_
        refine At_QK allJ_nil ?_
        obtain ⟨b217, e218, hm⟩ := letv_some hm
        refine WD_pureG rfl rfl rfl rfl guard_pos (fun _ => (Run.eqB (Run_eqI (Opd.g rfl id) (Opd.g rfl id)) e218)) rfl rfl rfl <| ?_
        obtain ⟨b219, e220, hm⟩ := letv_some hm
        refine WD_pure (fun _ => (Run.eqB (Run_and (Opd.t rfl) (Opd.g rfl id)) e220)) rfl rfl rfl rfl <| WD_pure (fun _ => (Run_move (Opd.t rfl))) rfl rfl rfl rfl <| WD_pureG rfl rfl rfl rfl guard_pos (fun _ => (Run_move (Opd.t rfl))) rfl rfl rfl <| WD_opG (fun w => CellsAt w ⟨b5, 0, none⟩ [(.int .i64 with_.1.op), (.int .i64 with_.1.n), (.int .i64 with_.1.at_), (sl v1)]) ((hs.box (i := 8) rfl).part 0 rfl) rfl rfl rfl rfl guard_pos (fun _ hJ => (Run_loadA (vs := [(.int .i64 with_.1.op), (.int .i64 with_.1.n), (.int .i64 with_.1.at_), (sl v1)]) Tryd.underlying24 rfl ti24 (Opd.t rfl) (fun _ => hJ) rfl)) rfl rfl rfl <| WD_opG (fun w => CellsAt w ⟨b8, 0, none⟩ [(.int .i64 with_.2.1.op), (.int .i64 with_.2.1.n), (.int .i64 with_.2.1.at_), (sl v3)]) ((hs.box (i := 7) rfl).part 0 rfl) rfl rfl rfl rfl guard_pos (fun _ hJ => (Run_loadA (vs := [(.int .i64 with_.2.1.op), (.int .i64 with_.2.1.n), (.int .i64 with_.2.1.at_), (sl v3)]) Tryd.underlying24 rfl ti24 (Opd.t rfl) (fun _ => hJ) rfl)) rfl rfl rfl <| WD_pureG rfl rfl rfl rfl guard_pos (fun _ => (Run_move (Opd.t rfl))) rfl rfl rfl <| WD_pureG rfl rfl rfl rfl guard_pos (fun _ => (Run_move (Opd.t rfl))) rfl rfl rfl <| ?_
        obtain ⟨b221, e222, hm⟩ := letv_some hm
        refine WD_pureG rfl rfl rfl rfl guard_pos (fun _ => (Run.eqB (Run_eqI (Opd.g rfl id) (Opd.g rfl id)) e222)) rfl rfl rfl <| ?_
        refine WD_loud (pend' := []) rfl (by kernel_rfl) ?_
        obtain ⟨r223, hr224, -, hm⟩ := callG_some hm
        refine WL_callG rfl rfl rfl guard_pos (f := 29) (first := []) (cap := [(.pointer (some ⟨b17, 0, none⟩))]) (xs := [(.const (.int .i64 7)), (.tmp 185), (.tmp 186)]) (vs := [(.int .i64 7), (.agg #[(.int .i64 with_.1.op), (.int .i64 with_.1.n), (.int .i64 with_.1.at_), (sl v1)]), (.agg #[(.int .i64 with_.2.1.op), (.int .i64 with_.2.1.n), (.int .i64 with_.2.1.at_), (sl v3)])]) (args := [(.int .i64 7), (.agg #[(.int .i64 with_.1.op), (.int .i64 with_.1.n), (.int .i64 with_.1.at_), (sl v1)]), (.agg #[(.int .i64 with_.2.1.op), (.int .i64 with_.2.1.n), (.int .i64 with_.2.1.at_), (sl v3)]), (.pointer (some ⟨b17, 0, none⟩))]) Tryd.call29 (Opd.g rfl id) (.cons Opd.c (.cons (Opd.g rfl id) (.cons (Opd.g rfl id) .nil))) rfl rfl (fun hg => scrutinylaw13_ExprLaws_c1_ok (hs.re 18 [10, 11, 0, 1, 1, 2, 3, 4, 5, 6, 7, 8, 9, 10, 11, 12, 13, 14, 15, 16, 17] rfl) (hr224 hg)) ?_
        intro v226 w225 hv227 hz228
        replace hs := Sat.ofG (fun hg => (hv227 hg).2.re 19 [0, 2, 3, 4, 5, 6, 7, 8, 9, 10, 11, 12, 13, 14, 15, 16, 17, 18] rfl) hz228 hs
        refine WL_sub1 (v := (.int .i64 r223)) (fun hg => (hv227 hg).1) ?_
        replace hs := Sat.n18 (Γ := Φ) hs rfl
        refine WL_nil ?_
        refine At_QK allJ_nil ?_
        obtain ⟨b229, e230, hm⟩ := letv_some hm
        refine WD_pureG rfl rfl rfl rfl guard_pos (fun _ => (Run.eqB (Run_eqI (Opd.g rfl id) Opd.c) e230)) rfl rfl rfl <| ?_
        obtain ⟨b231, e232, hm⟩ := letv_some hm
        refine WD_pureG rfl rfl rfl rfl guard_pos (fun _ => (Run.eqB (Run_eqB Tryd.underlying4 (Opd.g rfl id) (Opd.g rfl id)) e232)) rfl rfl rfl <| ?_
        obtain ⟨b233, e234, hm⟩ := letv_some hm
        refine WD_pure (fun _ => (Run.eqB (Run_and (Opd.t rfl) (Opd.g rfl id)) e234)) rfl rfl rfl rfl <| WD_pure (fun _ => (Run_move (Opd.t rfl))) rfl rfl rfl rfl <| WD_pureG rfl rfl rfl rfl guard_pos (fun _ => (Run_move (Opd.t rfl))) rfl rfl rfl <| WD_opG (fun w => CellsAt w ⟨b5, 0, none⟩ [(.int .i64 with_.1.op), (.int .i64 with_.1.n), (.int .i64 with_.1.at_), (sl v1)]) ((hs.box (i := 8) rfl).part 0 rfl) rfl rfl rfl rfl guard_pos (fun _ hJ => (Run_loadA (vs := [(.int .i64 with_.1.op), (.int .i64 with_.1.n), (.int .i64 with_.1.at_), (sl v1)]) Tryd.underlying24 rfl ti24 (Opd.t rfl) (fun _ => hJ) rfl)) rfl rfl rfl <| WD_opG (fun w => CellsAt w ⟨b8, 0, none⟩ [(.int .i64 with_.2.1.op), (.int .i64 with_.2.1.n), (.int .i64 with_.2.1.at_), (sl v3)]) ((hs.box (i := 7) rfl).part 0 rfl) rfl rfl rfl rfl guard_pos (fun _ hJ => (Run_loadA (vs := [(.int .i64 with_.2.1.op), (.int .i64 with_.2.1.n), (.int .i64 with_.2.1.at_), (sl v3)]) Tryd.underlying24 rfl ti24 (Opd.t rfl) (fun _ => hJ) rfl)) rfl rfl rfl <| WD_pureG rfl rfl rfl rfl guard_pos (fun _ => (Run_move (Opd.t rfl))) rfl rfl rfl <| WD_pureG rfl rfl rfl rfl guard_pos (fun _ => (Run_move (Opd.t rfl))) rfl rfl rfl <| ?_
        obtain ⟨b235, e236, hm⟩ := letv_some hm
        refine WD_pureG rfl rfl rfl rfl guard_pos (fun _ => (Run.eqB (Run_ltI (Opd.g rfl id) (Opd.g rfl id)) e236)) rfl rfl rfl <| ?_
        refine WD_loud (pend' := []) rfl (by kernel_rfl) ?_
        obtain ⟨r237, hr238, -, hm⟩ := callG_some hm
        refine WL_callG rfl rfl rfl guard_pos (f := 29) (first := []) (cap := [(.pointer (some ⟨b17, 0, none⟩))]) (xs := [(.const (.int .i64 9)), (.tmp 196), (.tmp 197)]) (vs := [(.int .i64 9), (.agg #[(.int .i64 with_.1.op), (.int .i64 with_.1.n), (.int .i64 with_.1.at_), (sl v1)]), (.agg #[(.int .i64 with_.2.1.op), (.int .i64 with_.2.1.n), (.int .i64 with_.2.1.at_), (sl v3)])]) (args := [(.int .i64 9), (.agg #[(.int .i64 with_.1.op), (.int .i64 with_.1.n), (.int .i64 with_.1.at_), (sl v1)]), (.agg #[(.int .i64 with_.2.1.op), (.int .i64 with_.2.1.n), (.int .i64 with_.2.1.at_), (sl v3)]), (.pointer (some ⟨b17, 0, none⟩))]) Tryd.call29 (Opd.g rfl id) (.cons Opd.c (.cons (Opd.g rfl id) (.cons (Opd.g rfl id) .nil))) rfl rfl (fun hg => scrutinylaw13_ExprLaws_c1_ok (hs.re 18 [10, 11, 0, 1, 1, 2, 3, 4, 5, 6, 7, 8, 9, 10, 11, 12, 13, 14, 15, 16, 17] rfl) (hr238 hg)) ?_
        intro v240 w239 hv241 hz242
        replace hs := Sat.ofG (fun hg => (hv241 hg).2.re 19 [0, 2, 3, 4, 5, 6, 7, 8, 9, 10, 11, 12, 13, 14, 15, 16, 17, 18] rfl) hz242 hs
        refine WL_sub1 (v := (.int .i64 r237)) (fun hg => (hv241 hg).1) ?_
        replace hs := Sat.n18 (Γ := Φ) hs rfl
        refine WL_nil ?_
        refine At_QK allJ_nil ?_
        obtain ⟨b243, e244, hm⟩ := letv_some hm
        refine WD_pureG rfl rfl rfl rfl guard_pos (fun _ => (Run.eqB (Run_eqI (Opd.g rfl id) Opd.c) e244)) rfl rfl rfl <| ?_
        obtain ⟨b245, e246, hm⟩ := letv_some hm
        refine WD_pureG rfl rfl rfl rfl guard_pos (fun _ => (Run.eqB (Run_eqB Tryd.underlying4 (Opd.g rfl id) (Opd.g rfl id)) e246)) rfl rfl rfl <| ?_
        obtain ⟨b247, e248, hm⟩ := letv_some hm
        refine WD_pure (fun _ => (Run.eqB (Run_and (Opd.t rfl) (Opd.g rfl id)) e248)) rfl rfl rfl rfl <| WD_pure (fun _ => (Run_assign (Opd.t rfl))) rfl rfl rfl rfl <| ?_
        refine WD_nil ?_
        refine At_then ?_
        refine WC_seq ?_
        refine WC_region ?_
        refine WL_op (Run_move (Opd.t rfl)) rfl rfl rfl rfl <| WL_op (Run_loadA (vs := [(.int .i64 with_.2.2.1.op), (.int .i64 with_.2.2.1.n), (.int .i64 with_.2.2.1.at_), (sl v5)]) Tryd.underlying24 rfl ti24 (Opd.t rfl) (fun _ => (hs.box (i := 6) rfl).part 0 rfl) rfl) rfl rfl rfl rfl <| ?_
        obtain ⟨r249, hr250, hm⟩ := bind_some' hm
        refine WL_call (f := 30) (first := []) (cap := [(.pointer (some ⟨b17, 0, none⟩))]) (xs := [(.tmp 206)]) (vs := [(.agg #[(.int .i64 with_.2.2.1.op), (.int .i64 with_.2.2.1.n), (.int .i64 with_.2.2.1.at_), (sl v5)])]) (args := [(.agg #[(.int .i64 with_.2.2.1.op), (.int .i64 with_.2.2.1.n), (.int .i64 with_.2.2.1.at_), (sl v5)]), (.pointer (some ⟨b17, 0, none⟩))]) Tryd.call30 (Opd.t rfl) (.cons (Opd.t rfl) .nil) rfl rfl (scrutinylaw13_ExprLaws_c2_ok (hs.re 18 [12, 0, 1, 1, 2, 3, 4, 5, 6, 7, 8, 9, 10, 11, 12, 13, 14, 15, 16, 17] rfl) hr250) ?_
        rintro _ w251 ⟨rfl, hs⟩
        replace hs := Sat.n19 (Γ := Φ) hs rfl
        refine WL_op (Run_move (Opd.t rfl)) rfl rfl rfl rfl <| WL_op (Run_sub Opd.c (Opd.t rfl)) rfl rfl rfl rfl <| ?_
        obtain ⟨b252, e253, hm⟩ := letv_some hm
        refine WL_op (Run.eqB (Run_eqI (Opd.t rfl) (Opd.t rfl)) e253) rfl rfl rfl rfl <| WL_op (Run_move (Opd.t rfl)) rfl rfl rfl rfl <| WL_opG rfl rfl rfl rfl guard_pos (Run_move (Opd.t rfl)) rfl rfl rfl <| WL_opG rfl rfl rfl rfl guard_pos (Run_loadA (vs := [(.int .i64 with_.2.2.1.op), (.int .i64 with_.2.2.1.n), (.int .i64 with_.2.2.1.at_), (sl v5)]) Tryd.underlying24 rfl ti24 (Opd.t rfl) (fun _ => (hs.box (i := 7) rfl).part 0 rfl) rfl) rfl rfl rfl <| WL_opG rfl rfl rfl rfl guard_pos (Run_loadA (vs := [(.int .i64 with_.2.2.2.1.op), (.int .i64 with_.2.2.2.1.n), (.int .i64 with_.2.2.2.1.at_), (sl v7)]) Tryd.underlying24 rfl ti24 (Opd.t rfl) (fun _ => (hs.box (i := 6) rfl).part 0 rfl) rfl) rfl rfl rfl <| ?_
        obtain ⟨r254, hr255, -, hm⟩ := callG_some hm
        refine WL_callG rfl rfl rfl guard_pos (f := 29) (first := []) (cap := [(.pointer (some ⟨b17, 0, none⟩))]) (xs := [(.const (.int .i64 16)), (.tmp 213), (.tmp 214)]) (vs := [(.int .i64 16), (.agg #[(.int .i64 with_.2.2.1.op), (.int .i64 with_.2.2.1.n), (.int .i64 with_.2.2.1.at_), (sl v5)]), (.agg #[(.int .i64 with_.2.2.2.1.op), (.int .i64 with_.2.2.2.1.n), (.int .i64 with_.2.2.2.1.at_), (sl v7)])]) (args := [(.int .i64 16), (.agg #[(.int .i64 with_.2.2.1.op), (.int .i64 with_.2.2.1.n), (.int .i64 with_.2.2.1.at_), (sl v5)]), (.agg #[(.int .i64 with_.2.2.2.1.op), (.int .i64 with_.2.2.2.1.n), (.int .i64 with_.2.2.2.1.at_), (sl v7)]), (.pointer (some ⟨b17, 0, none⟩))]) Tryd.call29 (Opd.g rfl id) (.cons Opd.c (.cons (Opd.g rfl id) (.cons (Opd.g rfl id) .nil))) rfl rfl (fun hg => scrutinylaw13_ExprLaws_c1_ok (hs.re 19 [13, 14, 0, 1, 1, 2, 3, 4, 5, 6, 7, 8, 9, 10, 11, 12, 13, 14, 15, 16, 17, 18] rfl) (hr255 hg)) ?_
        intro v257 w256 hv258 hz259
        replace hs := Sat.ofG (fun hg => (hv258 hg).2.re 20 [0, 2, 3, 4, 5, 6, 7, 8, 9, 10, 11, 12, 13, 14, 15, 16, 17, 18, 19] rfl) hz259 hs
        refine WL_sub1 (v := (.int .i64 r254)) (fun hg => (hv258 hg).1) ?_
        replace hs := Sat.n19 (Γ := Φ) hs rfl
        refine WL_opG rfl rfl rfl rfl guard_pos (Run_move (Opd.t rfl)) rfl rfl rfl <| WL_opG rfl rfl rfl rfl guard_pos (Run_move (Opd.t rfl)) rfl rfl rfl <| WL_opG rfl rfl rfl rfl guard_pos (Run_mul (Opd.g rfl id) (Opd.g rfl id)) rfl rfl rfl <| ?_
        obtain ⟨b260, e261, hm⟩ := letv_some hm
        refine WL_opG rfl rfl rfl rfl guard_pos (Run.eqB (Run_eqI (Opd.g rfl id) (Opd.g rfl id)) e261) rfl rfl rfl <| ?_
        obtain ⟨b262, e263, hm⟩ := letv_some hm
        refine WL_op (Run.eqB (Run_and (Opd.t rfl) (Opd.g rfl id)) e263) rfl rfl rfl rfl <| WL_op (Run_move (Opd.t rfl)) rfl rfl rfl rfl <| WL_opG rfl rfl rfl rfl guard_pos (Run_move (Opd.t rfl)) rfl rfl rfl <| WL_opG rfl rfl rfl rfl guard_pos (Run_loadA (vs := [(.int .i64 with_.2.2.1.op), (.int .i64 with_.2.2.1.n), (.int .i64 with_.2.2.1.at_), (sl v5)]) Tryd.underlying24 rfl ti24 (Opd.t rfl) (fun _ => (hs.box (i := 7) rfl).part 0 rfl) rfl) rfl rfl rfl <| WL_opG rfl rfl rfl rfl guard_pos (Run_loadA (vs := [(.int .i64 with_.2.2.2.1.op), (.int .i64 with_.2.2.2.1.n), (.int .i64 with_.2.2.2.1.at_), (sl v7)]) Tryd.underlying24 rfl ti24 (Opd.t rfl) (fun _ => (hs.box (i := 6) rfl).part 0 rfl) rfl) rfl rfl rfl <| ?_
        obtain ⟨r264, hr265, -, hm⟩ := callG_some hm
        refine WL_callG rfl rfl rfl guard_pos (f := 29) (first := []) (cap := [(.pointer (some ⟨b17, 0, none⟩))]) (xs := [(.const (.int .i64 17)), (.tmp 223), (.tmp 224)]) (vs := [(.int .i64 17), (.agg #[(.int .i64 with_.2.2.1.op), (.int .i64 with_.2.2.1.n), (.int .i64 with_.2.2.1.at_), (sl v5)]), (.agg #[(.int .i64 with_.2.2.2.1.op), (.int .i64 with_.2.2.2.1.n), (.int .i64 with_.2.2.2.1.at_), (sl v7)])]) (args := [(.int .i64 17), (.agg #[(.int .i64 with_.2.2.1.op), (.int .i64 with_.2.2.1.n), (.int .i64 with_.2.2.1.at_), (sl v5)]), (.agg #[(.int .i64 with_.2.2.2.1.op), (.int .i64 with_.2.2.2.1.n), (.int .i64 with_.2.2.2.1.at_), (sl v7)]), (.pointer (some ⟨b17, 0, none⟩))]) Tryd.call29 (Opd.g rfl id) (.cons Opd.c (.cons (Opd.g rfl id) (.cons (Opd.g rfl id) .nil))) rfl rfl (fun hg => scrutinylaw13_ExprLaws_c1_ok (hs.re 19 [13, 14, 0, 1, 1, 2, 3, 4, 5, 6, 7, 8, 9, 10, 11, 12, 13, 14, 15, 16, 17, 18] rfl) (hr265 hg)) ?_
        intro v267 w266 hv268 hz269
        replace hs := Sat.ofG (fun hg => (hv268 hg).2.re 20 [0, 2, 3, 4, 5, 6, 7, 8, 9, 10, 11, 12, 13, 14, 15, 16, 17, 18, 19] rfl) hz269 hs
        refine WL_sub1 (v := (.int .i64 r264)) (fun hg => (hv268 hg).1) ?_
        replace hs := Sat.n19 (Γ := Φ) hs rfl
        refine WL_opG rfl rfl rfl rfl guard_pos (Run_move (Opd.t rfl)) rfl rfl rfl <| WL_opG rfl rfl rfl rfl guard_pos (Run_move (Opd.t rfl)) rfl rfl rfl <| WL_opG rfl rfl rfl rfl guard_pos (Run_add (Opd.g rfl id) (Opd.g rfl id)) rfl rfl rfl <| WL_opG rfl rfl rfl rfl guard_pos (Run_move (Opd.t rfl)) rfl rfl rfl <| WL_opG rfl rfl rfl rfl guard_pos (Run_move (Opd.t rfl)) rfl rfl rfl <| WL_opG rfl rfl rfl rfl guard_pos (Run_mul (Opd.g rfl id) (Opd.g rfl id)) rfl rfl rfl <| WL_opG rfl rfl rfl rfl guard_pos (Run_sub (Opd.g rfl id) (Opd.g rfl id)) rfl rfl rfl <| ?_
        obtain ⟨b270, e271, hm⟩ := letv_some hm
        refine WL_opG rfl rfl rfl rfl guard_pos (Run.eqB (Run_eqI (Opd.g rfl id) (Opd.g rfl id)) e271) rfl rfl rfl <| ?_
        obtain ⟨b272, e273, hm⟩ := letv_some hm
        refine WL_op (Run.eqB (Run_and (Opd.t rfl) (Opd.g rfl id)) e273) rfl rfl rfl rfl <| WL_op (Run_move (Opd.t rfl)) rfl rfl rfl rfl <| WL_opG rfl rfl rfl rfl guard_pos (Run_move (Opd.t rfl)) rfl rfl rfl <| WL_opG rfl rfl rfl rfl guard_pos (Run_loadA (vs := [(.int .i64 with_.2.2.1.op), (.int .i64 with_.2.2.1.n), (.int .i64 with_.2.2.1.at_), (sl v5)]) Tryd.underlying24 rfl ti24 (Opd.t rfl) (fun _ => (hs.box (i := 7) rfl).part 0 rfl) rfl) rfl rfl rfl <| WL_opG rfl rfl rfl rfl guard_pos (Run_loadA (vs := [(.int .i64 with_.2.2.2.1.op), (.int .i64 with_.2.2.2.1.n), (.int .i64 with_.2.2.2.1.at_), (sl v7)]) Tryd.underlying24 rfl ti24 (Opd.t rfl) (fun _ => (hs.box (i := 6) rfl).part 0 rfl) rfl) rfl rfl rfl <| ?_
        obtain ⟨r274, hr275, -, hm⟩ := callG_some hm
        refine WL_callG rfl rfl rfl guard_pos (f := 29) (first := []) (cap := [(.pointer (some ⟨b17, 0, none⟩))]) (xs := [(.const (.int .i64 18)), (.tmp 237), (.tmp 238)]) (vs := [(.int .i64 18), (.agg #[(.int .i64 with_.2.2.1.op), (.int .i64 with_.2.2.1.n), (.int .i64 with_.2.2.1.at_), (sl v5)]), (.agg #[(.int .i64 with_.2.2.2.1.op), (.int .i64 with_.2.2.2.1.n), (.int .i64 with_.2.2.2.1.at_), (sl v7)])]) (args := [(.int .i64 18), (.agg #[(.int .i64 with_.2.2.1.op), (.int .i64 with_.2.2.1.n), (.int .i64 with_.2.2.1.at_), (sl v5)]), (.agg #[(.int .i64 with_.2.2.2.1.op), (.int .i64 with_.2.2.2.1.n), (.int .i64 with_.2.2.2.1.at_), (sl v7)]), (.pointer (some ⟨b17, 0, none⟩))]) Tryd.call29 (Opd.g rfl id) (.cons Opd.c (.cons (Opd.g rfl id) (.cons (Opd.g rfl id) .nil))) rfl rfl (fun hg => scrutinylaw13_ExprLaws_c1_ok (hs.re 19 [13, 14, 0, 1, 1, 2, 3, 4, 5, 6, 7, 8, 9, 10, 11, 12, 13, 14, 15, 16, 17, 18] rfl) (hr275 hg)) ?_
        intro v277 w276 hv278 hz279
        replace hs := Sat.ofG (fun hg => (hv278 hg).2.re 20 [0, 2, 3, 4, 5, 6, 7, 8, 9, 10, 11, 12, 13, 14, 15, 16, 17, 18, 19] rfl) hz279 hs
        refine WL_sub1 (v := (.int .i64 r274)) (fun hg => (hv278 hg).1) ?_
        replace hs := Sat.n19 (Γ := Φ) hs rfl
        refine WL_opG rfl rfl rfl rfl guard_pos (Run_move (Opd.t rfl)) rfl rfl rfl <| WL_opG rfl rfl rfl rfl guard_pos (Run_sub Opd.c (Opd.g rfl id)) rfl rfl rfl <| WL_opG rfl rfl rfl rfl guard_pos (Run_move (Opd.t rfl)) rfl rfl rfl <| WL_opG rfl rfl rfl rfl guard_pos (Run_move (Opd.t rfl)) rfl rfl rfl <| WL_opG rfl rfl rfl rfl guard_pos (Run_mul (Opd.g rfl id) (Opd.g rfl id)) rfl rfl rfl <| WL_opG rfl rfl rfl rfl guard_pos (Run_add (Opd.g rfl id) (Opd.g rfl id)) rfl rfl rfl <| ?_
        obtain ⟨b280, e281, hm⟩ := letv_some hm
        refine WL_opG rfl rfl rfl rfl guard_pos (Run.eqB (Run_eqI (Opd.g rfl id) (Opd.g rfl id)) e281) rfl rfl rfl <| ?_
        obtain ⟨b282, e283, hm⟩ := letv_some hm
        refine WL_op (Run.eqB (Run_and (Opd.t rfl) (Opd.g rfl id)) e283) rfl rfl rfl rfl <| WL_op (Run_move (Opd.t rfl)) rfl rfl rfl rfl <| WL_opG rfl rfl rfl rfl guard_pos (Run_move (Opd.t rfl)) rfl rfl rfl <| WL_opG rfl rfl rfl rfl guard_pos (Run_loadA (vs := [(.int .i64 with_.2.2.1.op), (.int .i64 with_.2.2.1.n), (.int .i64 with_.2.2.1.at_), (sl v5)]) Tryd.underlying24 rfl ti24 (Opd.t rfl) (fun _ => (hs.box (i := 7) rfl).part 0 rfl) rfl) rfl rfl rfl <| WL_opG rfl rfl rfl rfl guard_pos (Run_loadA (vs := [(.int .i64 with_.2.2.2.1.op), (.int .i64 with_.2.2.2.1.n), (.int .i64 with_.2.2.2.1.at_), (sl v7)]) Tryd.underlying24 rfl ti24 (Opd.t rfl) (fun _ => (hs.box (i := 6) rfl).part 0 rfl) rfl) rfl rfl rfl <| ?_
        obtain ⟨r284, hr285, -, hm⟩ := callG_some hm
        refine WL_callG rfl rfl rfl guard_pos (f := 29) (first := []) (cap := [(.pointer (some ⟨b17, 0, none⟩))]) (xs := [(.const (.int .i64 19)), (.tmp 250), (.tmp 251)]) (vs := [(.int .i64 19), (.agg #[(.int .i64 with_.2.2.1.op), (.int .i64 with_.2.2.1.n), (.int .i64 with_.2.2.1.at_), (sl v5)]), (.agg #[(.int .i64 with_.2.2.2.1.op), (.int .i64 with_.2.2.2.1.n), (.int .i64 with_.2.2.2.1.at_), (sl v7)])]) (args := [(.int .i64 19), (.agg #[(.int .i64 with_.2.2.1.op), (.int .i64 with_.2.2.1.n), (.int .i64 with_.2.2.1.at_), (sl v5)]), (.agg #[(.int .i64 with_.2.2.2.1.op), (.int .i64 with_.2.2.2.1.n), (.int .i64 with_.2.2.2.1.at_), (sl v7)]), (.pointer (some ⟨b17, 0, none⟩))]) Tryd.call29 (Opd.g rfl id) (.cons Opd.c (.cons (Opd.g rfl id) (.cons (Opd.g rfl id) .nil))) rfl rfl (fun hg => scrutinylaw13_ExprLaws_c1_ok (hs.re 19 [13, 14, 0, 1, 1, 2, 3, 4, 5, 6, 7, 8, 9, 10, 11, 12, 13, 14, 15, 16, 17, 18] rfl) (hr285 hg)) ?_
        intro v287 w286 hv288 hz289
        replace hs := Sat.ofG (fun hg => (hv288 hg).2.re 20 [0, 2, 3, 4, 5, 6, 7, 8, 9, 10, 11, 12, 13, 14, 15, 16, 17, 18, 19] rfl) hz289 hs
        refine WL_sub1 (v := (.int .i64 r284)) (fun hg => (hv288 hg).1) ?_
        replace hs := Sat.n19 (Γ := Φ) hs rfl
        obtain ⟨b290, e291, hm⟩ := letv_some hm
        refine WL_opG rfl rfl rfl rfl guard_pos (Run.eqB (Run_eqI (Opd.g rfl id) Opd.c) e291) rfl rfl rfl <| WL_opG rfl rfl rfl rfl guard_pos (Run_move (Opd.t rfl)) rfl rfl rfl <| WL_opG rfl rfl rfl rfl guard_pos (Run_move (Opd.t rfl)) rfl rfl rfl <| ?_
        obtain ⟨b292, e293, hm⟩ := letv_some hm
        refine WL_opG rfl rfl rfl rfl guard_pos (Run.eqB (Run_eqI (Opd.g rfl id) (Opd.g rfl id)) e293) rfl rfl rfl <| ?_
        obtain ⟨b294, e295, hm⟩ := letv_some hm
        refine WL_opG rfl rfl rfl rfl guard_pos (Run.eqB (Run_eqB Tryd.underlying4 (Opd.g rfl id) (Opd.g rfl id)) e295) rfl rfl rfl <| ?_
        obtain ⟨b296, e297, hm⟩ := letv_some hm
        refine WL_op (Run.eqB (Run_and (Opd.t rfl) (Opd.g rfl id)) e297) rfl rfl rfl rfl <| WL_op (Run_assign (Opd.t rfl)) rfl rfl rfl rfl <| ?_
        refine WL_nil ?_
        refine At_then ?_
        refine WC_seq ?_
        refine WC_region ?_
        refine WL_op (Run_move (Opd.t rfl)) rfl rfl rfl rfl <| WL_op (Run_move (Opd.t rfl)) rfl rfl rfl rfl <| WL_opG rfl rfl rfl rfl guard_pos (Run_move (Opd.t rfl)) rfl rfl rfl <| ?_
        obtain ⟨b298, e299, hm⟩ := letv_some hm
        refine WL_op (Run.eqB (Run_and (Opd.t rfl) (Opd.g rfl id)) e299) rfl rfl rfl rfl <| WL_op (Run_move (Opd.t rfl)) rfl rfl rfl rfl <| WL_opG rfl rfl rfl rfl guard_pos (Run_move (Opd.t rfl)) rfl rfl rfl <| ?_
        obtain ⟨b300, e301, hm⟩ := letv_some hm
        refine WL_op (Run.eqB (Run_and (Opd.t rfl) (Opd.g rfl id)) e301) rfl rfl rfl rfl <| WL_op (Run_move (Opd.t rfl)) rfl rfl rfl rfl <| WL_opG rfl rfl rfl rfl guard_pos (Run_move (Opd.t rfl)) rfl rfl rfl <| ?_
        obtain ⟨b302, e303, hm⟩ := letv_some hm
        refine WL_op (Run.eqB (Run_and (Opd.t rfl) (Opd.g rfl id)) e303) rfl rfl rfl rfl <| WL_op (Run_assign (Opd.t rfl)) rfl rfl rfl rfl <| ?_
        refine WL_nil ?_
        refine At_then ?_
        refine WC_ret ?_
        refine At_r1 rfl (ResIs.t rfl) ?_
        cases hm
        exact ⟨rfl, (hs.re 19 [] rfl)⟩

end Go.Proofs.YtmeombbmhpcacaaDoor
