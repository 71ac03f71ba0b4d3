/- Printed by a program: the walks. -/
import Derived.Test.YtmeombbmhpcacaaDoorTypes
import Derived.Test.YtmeombbmhpcacaaDoorWalk1
import Derived.Test.YtmeombbmhpcacaaDoorWalk8
import Derived.Test.YtmeombbmhpcacaaDoorWalk10
import Derived.Test.YtmeombbmhpcacaaDoorWalk11
import Derived.Test.YtmeombbmhpcacaaDoorWalk12
import Derived.Test.YtmeombbmhpcacaaDoorWalk13
namespace Go.Proofs.YtmeombbmhpcacaaDoor
open Go.Proofs

set_option maxRecDepth 100000 in
set_option maxHeartbeats 4000000 in
theorem scrutinylaw13_ExprBack_ok {Φ : Ctx} {w : World} {e : Ex} {v1 : SLV} {r : Bool} (hs : Sat (imm (RSl RExpr) [sl v1] e.l :: gl 0 (keysL.map S) :: gl 1 (textsL.map S) :: gl 2 (pow10L.map (Value.int .u64)) :: Φ) w) (hm : scrutinylaw13_ExprBack e = some r) :
    CallsR Tryd.prog 4 [(.agg #[(.int .i64 e.op), (.int .i64 e.n), (.int .i64 e.at_), (sl v1)])] w (fun v w' => v = (.bool r) ∧ Sat (Φ) w') := by
  refine CallsX_enter Tryd.func4 rfl Tryd.ntmps4 rfl ?_
  unfold scrutinylaw13_ExprBack at hm
  refine WC_seq ?_
  refine WC_region ?_
  refine WS_box (zs := [(.int .i64 e.op), (.int .i64 e.n), (.int .i64 e.at_), (sl v1)]) hs (Opd.t rfl) rfl rfl ?_
  intro b3 w4 hs
  replace hs := Sat.n5 (Γ := Φ) hs rfl
  refine WL_op (Run_assign Opd.c) rfl rfl rfl rfl <| ?_
  refine WL_nil ?_
  refine At_then ?_
  refine WC_seq ?_
  refine WC_region ?_
  obtain ⟨r5, hr6, hm⟩ := bind_some' hm
  refine WL_call (f := 10) (first := []) (cap := []) (xs := []) (vs := []) (args := []) Tryd.call10 Opd.f .nil rfl rfl (scrutinylaw13_shown_ok (hs.re 5 [2, 3, 4, 0, 1, 2, 3, 4] rfl) hr6) ?_
  rintro _ w7 ⟨rfl, hs⟩
  replace hs := Sat.n5 (Γ := Φ) hs rfl
  refine WL_op (Run_assign (Opd.t rfl)) rfl rfl rfl rfl <| ?_
  refine WL_nil ?_
  refine At_then ?_
  refine WC_seq ?_
  refine WC_seq ?_
  refine WC_region ?_
  refine WL_op (Run_loadA (vs := [(.int .i64 e.op), (.int .i64 e.n), (.int .i64 e.at_), (sl v1)]) Tryd.underlying24 rfl ti24 (Opd.t rfl) (fun _ => (hs.box (i := 0) rfl).part 0 rfl) rfl) rfl rfl rfl rfl <| ?_
  obtain ⟨r8, hr9, hm⟩ := bind_some' hm
  refine WL_call (f := 11) (first := []) (cap := []) (xs := [(.tmp 18)]) (vs := [(.agg #[(.int .i64 e.op), (.int .i64 e.n), (.int .i64 e.at_), (sl v1)])]) (args := [(.agg #[(.int .i64 e.op), (.int .i64 e.n), (.int .i64 e.at_), (sl v1)])]) Tryd.call11 Opd.f (.cons (Opd.t rfl) .nil) rfl rfl (scrutinyref13_Few_ok (hs.re 5 [1, 0, 1, 2, 3, 4] rfl) hr9) ?_
  rintro _ w10 ⟨rfl, hs⟩
  replace hs := Sat.n5 (Γ := Φ) hs rfl
  obtain ⟨b11, e12, hm⟩ := letv_some hm
  refine WL_op (Run.eqB (Run_notB (Opd.t rfl)) e12) rfl rfl rfl rfl <| WL_op (Run_move (Opd.t rfl)) rfl rfl rfl rfl <| WL_opG rfl rfl rfl rfl guard_neg (Run_loadA (vs := [(.int .i64 e.op), (.int .i64 e.n), (.int .i64 e.at_), (sl v1)]) Tryd.underlying24 rfl ti24 (Opd.t rfl) (fun _ => (hs.box (i := 0) rfl).part 0 rfl) rfl) rfl rfl rfl <| ?_
  obtain ⟨r13, hr14, -, hm⟩ := callG_some hm
  refine WL_callG rfl rfl rfl guard_neg (f := 18) (first := []) (cap := []) (xs := [(.tmp 22), (.const (.int .i64 3))]) (vs := [(.agg #[(.int .i64 e.op), (.int .i64 e.n), (.int .i64 e.at_), (sl v1)]), (.int .i64 3)]) (args := [(.agg #[(.int .i64 e.op), (.int .i64 e.n), (.int .i64 e.at_), (sl v1)]), (.int .i64 3)]) Tryd.call18 Opd.f (.cons (Opd.g rfl id) (.cons Opd.c .nil)) rfl rfl (fun hg => scrutinyref13_May_ok (hs.re 5 [1, 0, 1, 2, 3, 4] rfl) (hr14 hg)) ?_
  intro v16 w15 hv17 hz18
  replace hs := Sat.ofG (fun hg => (hv17 hg).2.re 5 [0, 1, 2, 3, 4] rfl) hz18 hs
  refine WL_sub1 (v := (.bool r13)) (fun hg => (hv17 hg).1) ?_
  replace hs := Sat.n5 (Γ := Φ) hs rfl
  obtain ⟨b19, e20, hm⟩ := letv_some hm
  refine WL_opG rfl rfl rfl rfl guard_neg (Run.eqB (Run_notB (Opd.g rfl id)) e20) rfl rfl rfl <| ?_
  obtain ⟨b21, e22, hm⟩ := letv_some hm
  refine WL_op (Run.eqB (Run_or (Opd.t rfl) (Opd.g rfl id)) e22) rfl rfl rfl rfl <| ?_
  refine WL_nil ?_
  refine At_then ?_
  refine WC_cond (Opd.t rfl) (fun hc23 => ?_) (fun hc23 => ?_)
  ·
    replace hm := bif_t hc23 hm
    refine WC_seq ?_
    refine WC_region ?_
    refine WL_op (Run_move (Opd.t rfl)) rfl rfl rfl rfl <| WL_op (Run_assign (Opd.t rfl)) rfl rfl rfl rfl <| ?_
    refine WL_nil ?_
    refine At_then ?_
    refine WC_ret ?_
    refine At_then_ret <| ?_
    refine At_r1 rfl (ResIs.t rfl) ?_
    cases hm
    exact ⟨rfl, (hs.re 5 [] rfl)⟩
  ·
    replace hm := bif_f hc23 hm
    refine WC_skip ?_
    refine At_then ?_
    refine WC_seq ?_
    refine WC_region_mixed [0, 0, 3, 4, 8, 16, 16, 16, 63, 383, 1023] (.q 0 0 (.l 1 1 (.l 2 3 (.l 3 7 (.q 4 15 (.q 5 31 (.q 6 63 (.q 7 127 (.q 8 255 (.q 9 511 (.q 10 1023 .nil))))))))))) (by kernel_rfl) (by kernel_rfl) ?_
    intro w24 hx25
    replace hs := hs.ext hx25
    refine WD_op (fun w => CellsAt w ⟨b3, 0, none⟩ [(.int .i64 e.op), (.int .i64 e.n), (.int .i64 e.at_), (sl v1)]) ((hs.box (i := 0) rfl).part 0 rfl) (fun _ hJ => (Run_loadA (vs := [(.int .i64 e.op), (.int .i64 e.n), (.int .i64 e.at_), (sl v1)]) Tryd.underlying24 rfl ti24 (Opd.t rfl) (fun _ => hJ) rfl)) rfl rfl rfl rfl <| ?_
    refine WD_loud (pend' := [(0, fun w => CellsAt w ⟨b3, 0, none⟩ [(.int .i64 e.op), (.int .i64 e.n), (.int .i64 e.at_), (sl v1)])]) rfl (by kernel_rfl) ?_
    obtain ⟨r26, hr27, hm⟩ := bind_some' hm
    refine WL_call (f := 22) (first := []) (cap := []) (xs := []) (vs := []) (args := []) Tryd.call22 Opd.f .nil rfl rfl (scrutinylaw13_names_ok (hs.re 5 [0, 1, 2, 3, 4] rfl) hr27) ?_
    rintro _ w30 ⟨v28, R29, rfl, hs⟩
    replace hs := Sat.n6 (Γ := Φ) hs rfl
    refine WL_nil ?_
    refine At_QK (allJ_cons ((hs.box (i := 1) rfl).part 0 rfl) allJ_nil) ?_
    refine WD_loud (pend' := []) rfl (by kernel_rfl) ?_
    replace hs := hs.freeze (i := 0) rfl
    obtain ⟨r31, hr32, hm⟩ := bind_some' hm
    refine WL_call (f := 21) (first := []) (cap := []) (xs := [(.tmp 28), (.tmp 29)]) (vs := [(.agg #[(.int .i64 e.op), (.int .i64 e.n), (.int .i64 e.at_), (sl v1)]), (sl v28)]) (args := [(.agg #[(.int .i64 e.op), (.int .i64 e.n), (.int .i64 e.at_), (sl v1)]), (sl v28)]) Tryd.call21 Opd.f (.cons (Opd.t rfl) (.cons (Opd.t rfl) .nil)) rfl rfl (expr_Show_ok (hs.re 6 [2, 0, 4, 5, 0, 1, 2, 3, 4, 5] rfl) hr32) ?_
    rintro _ w33 ⟨rfl, hs⟩
    replace hs := Sat.n6 (Γ := Φ) hs rfl
    refine WL_nil ?_
    refine At_QK allJ_nil ?_
    refine WD_loud (pend' := []) rfl (by kernel_rfl) ?_
    obtain ⟨r34, hr35, hm⟩ := bind_some' hm
    refine WL_call (f := 26) (first := []) (cap := []) (xs := [(.tmp 30)]) (vs := [(S r31)]) (args := [(S r31)]) Tryd.call26 Opd.f (.cons (Opd.t rfl) .nil) rfl rfl (scrutinyref12_Tokens_ok (hs.re 6 [0, 1, 2, 3, 4, 5] rfl) hr35) ?_
    rintro _ w38 ⟨v36, R37, rfl, hs⟩
    replace hs := Sat.n7 (Γ := Φ) hs rfl
    refine WL_nil ?_
    refine At_QK allJ_nil ?_
    refine WD_pure (fun _ => (Run_move (Opd.t rfl))) rfl rfl rfl rfl <| WD_pure (fun _ => (Run_extract (vs := [(sl v36), (.int .i64 r34.2.1), (.int .i64 r34.2.2)]) (Opd.t rfl) rfl)) rfl rfl rfl rfl <| WD_pure (fun _ => (Run_extract (vs := [(sl v36), (.int .i64 r34.2.1), (.int .i64 r34.2.2)]) (Opd.t rfl) rfl)) rfl rfl rfl rfl <| WD_pure (fun _ => (Run_extract (vs := [(sl v36), (.int .i64 r34.2.1), (.int .i64 r34.2.2)]) (Opd.t rfl) rfl)) rfl rfl rfl rfl <| WD_pure (fun _ => (Run_assign (Opd.t rfl))) rfl rfl rfl rfl <| WD_pure (fun _ => (Run_assign (Opd.t rfl))) rfl rfl rfl rfl <| WD_pure (fun _ => (Run_assign (Opd.t rfl))) rfl rfl rfl rfl <| ?_
    refine WD_nil ?_
    refine At_then ?_
    refine WC_seq ?_
    refine WC_seq ?_
    refine WC_region ?_
    refine WL_op (Run_move (Opd.t rfl)) rfl rfl rfl rfl <| ?_
    obtain ⟨b39, e40, hm⟩ := letv_some hm
    refine WL_op (Run.eqB (Run_neI (Opd.t rfl) Opd.c) e40) rfl rfl rfl rfl <| WL_op (Run_move (Opd.t rfl)) rfl rfl rfl rfl <| WL_opG rfl rfl rfl rfl guard_neg (Run_move (Opd.t rfl)) rfl rfl rfl <| WL_opG rfl rfl rfl rfl guard_neg (Run_lenSlG Tryd.underlying44 (Opd.g rfl id) (fun _ => (hs.own (i := 0) rfl).len)) rfl rfl rfl <| ?_
    obtain ⟨b41, e42, hm⟩ := letv_some hm
    refine WL_opG rfl rfl rfl rfl guard_neg (Run.eqB (Run_eqI (Opd.g rfl id) Opd.c) e42) rfl rfl rfl <| ?_
    obtain ⟨b43, e44, hm⟩ := letv_some hm
    refine WL_op (Run.eqB (Run_or (Opd.t rfl) (Opd.g rfl id)) e44) rfl rfl rfl rfl <| ?_
    refine WL_nil ?_
    refine At_then ?_
    refine WC_cond (Opd.t rfl) (fun hc45 => ?_) (fun hc45 => ?_)
    ·
      replace hm := bif_t hc45 hm
      refine WC_seq ?_
      refine WC_region ?_
      refine WL_op (Run_assign Opd.c) rfl rfl rfl rfl <| ?_
      refine WL_nil ?_
      refine At_then ?_
      refine WC_ret ?_
      refine At_then_ret <| ?_
      refine At_r1 rfl (ResIs.t rfl) ?_
      cases hm
      exact ⟨rfl, (hs.re 7 [] rfl)⟩
    ·
      replace hm := bif_f hc45 hm
      refine WC_skip ?_
      refine At_then ?_
      refine WC_seq ?_
      refine WC_region ?_
      refine WL_op (Run_move (Opd.t rfl)) rfl rfl rfl rfl <| ?_
      obtain ⟨r46, hr47, hm⟩ := bind_some' hm
      refine WL_call (f := 22) (first := []) (cap := []) (xs := []) (vs := []) (args := []) Tryd.call22 Opd.f .nil rfl rfl (scrutinylaw13_names_ok (hs.re 7 [0, 1, 2, 3, 4, 5, 6] rfl) hr47) ?_
      rintro _ w50 ⟨v48, R49, rfl, hs⟩
      replace hs := Sat.n8 (Γ := Φ) hs rfl
      replace hs := hs.freeze (i := 1) rfl
      replace hs := hs.freeze (i := 0) rfl
      obtain ⟨r51, hr52, hm⟩ := bind_some' hm
      refine WL_call (f := 27) (first := []) (cap := []) (xs := [(.tmp 43), (.const (.int .i64 0)), (.tmp 44)]) (vs := [(sl v36), (.int .i64 0), (sl v48)]) (args := [(sl v36), (.int .i64 0), (sl v48)]) Tryd.call27 Opd.f (.cons (Opd.t rfl) (.cons Opd.c (.cons (Opd.t rfl) .nil))) rfl rfl (expr_Parse_ok (hs.re 8 [1, 0, 5, 6, 0, 1, 2, 3, 4, 5, 6, 7] rfl) hr52) ?_
      rintro _ w55 ⟨v53, R54, rfl, hs⟩
      replace hs := Sat.n9 (Γ := Φ) hs rfl
      refine WL_op (Run_move (Opd.t rfl)) rfl rfl rfl rfl <| WL_op (Run_extract (vs := [(.agg #[(.int .i64 r51.1.op), (.int .i64 r51.1.n), (.int .i64 r51.1.at_), (sl v53)]), (.int .i64 r51.2.1), (.int .i64 r51.2.2.1), (.int .i64 r51.2.2.2)]) (Opd.t rfl) rfl) rfl rfl rfl rfl <| WL_op (Run_extract (vs := [(.agg #[(.int .i64 r51.1.op), (.int .i64 r51.1.n), (.int .i64 r51.1.at_), (sl v53)]), (.int .i64 r51.2.1), (.int .i64 r51.2.2.1), (.int .i64 r51.2.2.2)]) (Opd.t rfl) rfl) rfl rfl rfl rfl <| WL_op (Run_extract (vs := [(.agg #[(.int .i64 r51.1.op), (.int .i64 r51.1.n), (.int .i64 r51.1.at_), (sl v53)]), (.int .i64 r51.2.1), (.int .i64 r51.2.2.1), (.int .i64 r51.2.2.2)]) (Opd.t rfl) rfl) rfl rfl rfl rfl <| WL_op (Run_extract (vs := [(.agg #[(.int .i64 r51.1.op), (.int .i64 r51.1.n), (.int .i64 r51.1.at_), (sl v53)]), (.int .i64 r51.2.1), (.int .i64 r51.2.2.1), (.int .i64 r51.2.2.2)]) (Opd.t rfl) rfl) rfl rfl rfl rfl <| ?_
      refine WS_alloc (zs := [(.int .i64 0), (.int .i64 0), (.int .i64 0), (sl (none, 0, 0))]) hs ti24 rfl rfl ?_
      intro b56 w57 hs
      replace hs := Sat.n10 (Γ := Φ) hs rfl
      refine WS_store (us := [(.int .i64 r51.1.op), (.int .i64 r51.1.n), (.int .i64 r51.1.at_), (sl v53)]) (vs' := [(.int .i64 r51.1.op), (.int .i64 r51.1.n), (.int .i64 r51.1.at_), (sl v53)]) hs 0 rfl ti24 (Opd.t rfl) (Opd.t rfl) rfl rfl rfl rfl rfl ?_
      intro w58 hs
      replace hs := Sat.n10 (Γ := Φ) hs rfl
      refine WL_op (Run_assign (Opd.t rfl)) rfl rfl rfl rfl <| WL_op (Run_assign (Opd.t rfl)) rfl rfl rfl rfl <| WL_op (Run_assign (Opd.t rfl)) rfl rfl rfl rfl <| ?_
      refine WL_nil ?_
      refine At_then ?_
      refine WC_seq ?_
      refine WC_region ?_
      refine WL_op (Run_loadA (vs := [(.int .i64 e.op), (.int .i64 e.n), (.int .i64 e.at_), (sl v1)]) Tryd.underlying24 rfl ti24 (Opd.t rfl) (fun _ => (hs.box (i := 5) rfl).part 0 rfl) rfl) rfl rfl rfl rfl <| ?_
      obtain ⟨r59, hr60, hm⟩ := bind_some' hm
      refine WL_call (f := 19) (first := []) (cap := []) (xs := [(.tmp 51)]) (vs := [(.agg #[(.int .i64 e.op), (.int .i64 e.n), (.int .i64 e.at_), (sl v1)])]) (args := [(.agg #[(.int .i64 e.op), (.int .i64 e.n), (.int .i64 e.at_), (sl v1)])]) Tryd.call19 Opd.f (.cons (Opd.t rfl) .nil) rfl rfl (expr_Type_ok (hs.re 10 [6, 0, 1, 2, 3, 4, 5, 6, 7, 8, 9] rfl) hr60) ?_
      rintro _ w61 ⟨rfl, hs⟩
      replace hs := Sat.n10 (Γ := Φ) hs rfl
      refine WL_op (Run_move (Opd.t rfl)) rfl rfl rfl rfl <| WL_op (Run_extract (vs := [(.int .i64 r59.1), (.int .i64 r59.2.1), (.int .i64 r59.2.2)]) (Opd.t rfl) rfl) rfl rfl rfl rfl <| WL_op (Run_extract (vs := [(.int .i64 r59.1), (.int .i64 r59.2.1), (.int .i64 r59.2.2)]) (Opd.t rfl) rfl) rfl rfl rfl rfl <| WL_op (Run_extract (vs := [(.int .i64 r59.1), (.int .i64 r59.2.1), (.int .i64 r59.2.2)]) (Opd.t rfl) rfl) rfl rfl rfl rfl <| WL_op (Run_assign (Opd.t rfl)) rfl rfl rfl rfl <| WL_op (Run_assign (Opd.t rfl)) rfl rfl rfl rfl <| WL_op (Run_assign (Opd.t rfl)) rfl rfl rfl rfl <| ?_
      refine WL_nil ?_
      refine At_then ?_
      refine WC_seq ?_
      refine WC_region ?_
      refine WL_op (Run_loadA (vs := [(.int .i64 r51.1.op), (.int .i64 r51.1.n), (.int .i64 r51.1.at_), (sl v53)]) Tryd.underlying24 rfl ti24 (Opd.t rfl) (fun _ => (hs.box (i := 0) rfl).part 0 rfl) rfl) rfl rfl rfl rfl <| ?_
      replace hs := hs.freeze (i := 1) rfl
      obtain ⟨r62, hr63, hm⟩ := bind_some' hm
      refine WL_call (f := 19) (first := []) (cap := []) (xs := [(.tmp 57)]) (vs := [(.agg #[(.int .i64 r51.1.op), (.int .i64 r51.1.n), (.int .i64 r51.1.at_), (sl v53)])]) (args := [(.agg #[(.int .i64 r51.1.op), (.int .i64 r51.1.n), (.int .i64 r51.1.at_), (sl v53)])]) Tryd.call19 Opd.f (.cons (Opd.t rfl) .nil) rfl rfl (expr_Type_ok (hs.re 10 [1, 0, 1, 2, 3, 4, 5, 6, 7, 8, 9] rfl) hr63) ?_
      rintro _ w64 ⟨rfl, hs⟩
      replace hs := Sat.n10 (Γ := Φ) hs rfl
      refine WL_op (Run_move (Opd.t rfl)) rfl rfl rfl rfl <| WL_op (Run_extract (vs := [(.int .i64 r62.1), (.int .i64 r62.2.1), (.int .i64 r62.2.2)]) (Opd.t rfl) rfl) rfl rfl rfl rfl <| WL_op (Run_extract (vs := [(.int .i64 r62.1), (.int .i64 r62.2.1), (.int .i64 r62.2.2)]) (Opd.t rfl) rfl) rfl rfl rfl rfl <| WL_op (Run_extract (vs := [(.int .i64 r62.1), (.int .i64 r62.2.1), (.int .i64 r62.2.2)]) (Opd.t rfl) rfl) rfl rfl rfl rfl <| WL_op (Run_assign (Opd.t rfl)) rfl rfl rfl rfl <| WL_op (Run_assign (Opd.t rfl)) rfl rfl rfl rfl <| WL_op (Run_assign (Opd.t rfl)) rfl rfl rfl rfl <| ?_
      refine WL_nil ?_
      refine At_then ?_
      refine WC_seq ?_
      refine WC_region ?_
      refine WL_op (Run_move (Opd.t rfl)) rfl rfl rfl rfl <| WL_op (Run_move (Opd.t rfl)) rfl rfl rfl rfl <| WL_opG rfl rfl rfl rfl guard_pos (Run_move (Opd.t rfl)) rfl rfl rfl <| ?_
      obtain ⟨b65, e66, hm⟩ := letv_some hm
      refine WL_opG rfl rfl rfl rfl guard_pos (Run.eqB (Run_eqI (Opd.g rfl id) Opd.c) e66) rfl rfl rfl <| ?_
      obtain ⟨b67, e68, hm⟩ := letv_some hm
      refine WL_op (Run.eqB (Run_and (Opd.t rfl) (Opd.g rfl id)) e68) rfl rfl rfl rfl <| WL_op (Run_move (Opd.t rfl)) rfl rfl rfl rfl <| WL_opG rfl rfl rfl rfl guard_pos (Run_move (Opd.t rfl)) rfl rfl rfl <| WL_opG rfl rfl rfl rfl guard_pos (Run_move (Opd.t rfl)) rfl rfl rfl <| WL_opG rfl rfl rfl rfl guard_pos (Run_lenSlG Tryd.underlying44 (Opd.g rfl id) (fun hg => (hs.sl (i := 3) rfl).len)) rfl rfl rfl <| WL_opG rfl rfl rfl rfl guard_pos (Run_sub (Opd.g rfl id) Opd.c) rfl rfl rfl <| ?_
      obtain ⟨b69, e70, hm⟩ := letv_some hm
      refine WL_opG rfl rfl rfl rfl guard_pos (Run.eqB (Run_eqI (Opd.g rfl id) (Opd.g rfl id)) e70) rfl rfl rfl <| ?_
      obtain ⟨b71, e72, hm⟩ := letv_some hm
      refine WL_op (Run.eqB (Run_and (Opd.t rfl) (Opd.g rfl id)) e72) rfl rfl rfl rfl <| WL_op (Run_move (Opd.t rfl)) rfl rfl rfl rfl <| WL_opG rfl rfl rfl rfl guard_pos (Run_loadA (vs := [(.int .i64 r51.1.op), (.int .i64 r51.1.n), (.int .i64 r51.1.at_), (sl v53)]) Tryd.underlying24 rfl ti24 (Opd.t rfl) (fun _ => (hs.box (i := 0) rfl).part 0 rfl) rfl) rfl rfl rfl <| WL_opG rfl rfl rfl rfl guard_pos (Run_loadA (vs := [(.int .i64 e.op), (.int .i64 e.n), (.int .i64 e.at_), (sl v1)]) Tryd.underlying24 rfl ti24 (Opd.t rfl) (fun _ => (hs.box (i := 5) rfl).part 0 rfl) rfl) rfl rfl rfl <| ?_
      obtain ⟨r73, hr74, -, hm⟩ := callG_some hm
      refine WL_callG rfl rfl rfl guard_pos (f := 15) (first := []) (cap := []) (xs := [(.tmp 75), (.tmp 76)]) (vs := [(.agg #[(.int .i64 r51.1.op), (.int .i64 r51.1.n), (.int .i64 r51.1.at_), (sl v53)]), (.agg #[(.int .i64 e.op), (.int .i64 e.n), (.int .i64 e.at_), (sl v1)])]) (args := [(.agg #[(.int .i64 r51.1.op), (.int .i64 r51.1.n), (.int .i64 r51.1.at_), (sl v53)]), (.agg #[(.int .i64 e.op), (.int .i64 e.n), (.int .i64 e.at_), (sl v1)])]) Tryd.call15 Opd.f (.cons (Opd.g rfl id) (.cons (Opd.g rfl id) .nil)) rfl rfl (fun hg => scrutinyref13_Same_ok (hs.re 10 [1, 6, 0, 1, 2, 3, 4, 5, 6, 7, 8, 9] rfl) (hr74 hg)) ?_
      intro v76 w75 hv77 hz78
      replace hs := Sat.ofG (fun hg => (hv77 hg).2.re 10 [0, 1, 2, 3, 4, 5, 6, 7, 8, 9] rfl) hz78 hs
      refine WL_sub1 (v := (.bool r73)) (fun hg => (hv77 hg).1) ?_
      replace hs := Sat.n10 (Γ := Φ) hs rfl
      obtain ⟨b79, e80, hm⟩ := letv_some hm
      refine WL_op (Run.eqB (Run_and (Opd.t rfl) (Opd.g rfl id)) e80) rfl rfl rfl rfl <| WL_op (Run_move (Opd.t rfl)) rfl rfl rfl rfl <| WL_opG rfl rfl rfl rfl guard_pos (Run_move (Opd.t rfl)) rfl rfl rfl <| WL_opG rfl rfl rfl rfl guard_pos (Run_move (Opd.t rfl)) rfl rfl rfl <| ?_
      obtain ⟨b81, e82, hm⟩ := letv_some hm
      refine WL_opG rfl rfl rfl rfl guard_pos (Run.eqB (Run_eqI (Opd.g rfl id) (Opd.g rfl id)) e82) rfl rfl rfl <| ?_
      obtain ⟨b83, e84, hm⟩ := letv_some hm
      refine WL_op (Run.eqB (Run_and (Opd.t rfl) (Opd.g rfl id)) e84) rfl rfl rfl rfl <| WL_op (Run_move (Opd.t rfl)) rfl rfl rfl rfl <| WL_opG rfl rfl rfl rfl guard_pos (Run_move (Opd.t rfl)) rfl rfl rfl <| WL_opG rfl rfl rfl rfl guard_pos (Run_move (Opd.t rfl)) rfl rfl rfl <| ?_
      obtain ⟨b85, e86, hm⟩ := letv_some hm
      refine WL_opG rfl rfl rfl rfl guard_pos (Run.eqB (Run_eqI (Opd.g rfl id) (Opd.g rfl id)) e86) rfl rfl rfl <| ?_
      obtain ⟨b87, e88, hm⟩ := letv_some hm
      refine WL_op (Run.eqB (Run_and (Opd.t rfl) (Opd.g rfl id)) e88) rfl rfl rfl rfl <| WL_op (Run_assign (Opd.t rfl)) rfl rfl rfl rfl <| ?_
      refine WL_nil ?_
      refine At_then ?_
      refine WC_ret ?_
      refine At_r1 rfl (ResIs.t rfl) ?_
      cases hm
      exact ⟨rfl, (hs.re 10 [] rfl)⟩

end Go.Proofs.YtmeombbmhpcacaaDoor
