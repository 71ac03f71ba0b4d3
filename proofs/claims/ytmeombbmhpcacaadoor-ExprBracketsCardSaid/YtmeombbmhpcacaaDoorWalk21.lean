/- Printed by a program: the walks. -/
import Derived.Test.YtmeombbmhpcacaaDoorWalk20
namespace Go.Proofs.YtmeombbmhpcacaaDoor
open Go.Proofs

set_option maxRecDepth 100000 in
set_option maxHeartbeats 4000000 in
theorem scrutinylaw13_ExprTypes_ok {Φ : Ctx} {w : World} {e : Ex} {k : Int} {v1 : SLV} {r : Bool} (hs : Sat (imm (RSl RExpr) [sl v1] e.l :: gl 0 (keysL.map S) :: gl 1 (textsL.map S) :: gl 2 (pow10L.map (Value.int .u64)) :: Φ) w) (hm : scrutinylaw13_ExprTypes e k = some r) :
    CallsR Tryd.prog 8 [(.agg #[(.int .i64 e.op), (.int .i64 e.n), (.int .i64 e.at_), (sl v1)]), (.int .u8 k)] w (fun v w' => v = (.bool r) ∧ Sat (Φ) w') := by
  refine CallsX_enter Tryd.func8 rfl Tryd.ntmps8 rfl ?_
  unfold scrutinylaw13_ExprTypes at hm
  refine WC_seq ?_
  refine WC_region ?_
  refine WS_box (zs := [(.int .i64 e.op), (.int .i64 e.n), (.int .i64 e.at_), (sl v1)]) hs (Opd.t rfl) rfl rfl ?_
  intro b3 w4 hs
  replace hs := Sat.n5 (Γ := Φ) hs rfl
  refine WL_op (Run_assign Opd.c) rfl rfl rfl rfl <| ?_
  refine WL_nil ?_
  refine At_then ?_
  refine WC_seq ?_
  refine WC_region ?_
  obtain ⟨r5, hr6, hm⟩ := bind_some' hm
  refine WL_call (f := 10) (first := []) (cap := []) (xs := []) (vs := []) (args := []) Tryd.call10 Opd.f .nil rfl rfl (scrutinylaw13_shown_ok (hs.re 5 [2, 3, 4, 0, 1, 2, 3, 4] rfl) hr6) ?_
  rintro _ w7 ⟨rfl, hs⟩
  replace hs := Sat.n5 (Γ := Φ) hs rfl
  refine WL_op (Run_assign (Opd.t rfl)) rfl rfl rfl rfl <| ?_
  refine WL_nil ?_
  refine At_then ?_
  refine WC_seq ?_
  refine WC_seq ?_
  refine WC_region ?_
  refine WL_op (Run_loadA (vs := [(.int .i64 e.op), (.int .i64 e.n), (.int .i64 e.at_), (sl v1)]) Tryd.underlying24 rfl ti24 (Opd.t rfl) (fun _ => (hs.box (i := 0) rfl).part 0 rfl) rfl) rfl rfl rfl rfl <| ?_
  obtain ⟨r8, hr9, hm⟩ := bind_some' hm
  refine WL_call (f := 11) (first := []) (cap := []) (xs := [(.tmp 22)]) (vs := [(.agg #[(.int .i64 e.op), (.int .i64 e.n), (.int .i64 e.at_), (sl v1)])]) (args := [(.agg #[(.int .i64 e.op), (.int .i64 e.n), (.int .i64 e.at_), (sl v1)])]) Tryd.call11 Opd.f (.cons (Opd.t rfl) .nil) rfl rfl (scrutinyref13_Few_ok (hs.re 5 [1, 0, 1, 2, 3, 4] rfl) hr9) ?_
  rintro _ w10 ⟨rfl, hs⟩
  replace hs := Sat.n5 (Γ := Φ) hs rfl
  obtain ⟨b11, e12, hm⟩ := letv_some hm
  refine WL_op (Run.eqB (Run_notB (Opd.t rfl)) e12) rfl rfl rfl rfl <| WL_op (Run_move (Opd.t rfl)) rfl rfl rfl rfl <| WL_opG rfl rfl rfl rfl guard_neg (Run_loadA (vs := [(.int .i64 e.op), (.int .i64 e.n), (.int .i64 e.at_), (sl v1)]) Tryd.underlying24 rfl ti24 (Opd.t rfl) (fun _ => (hs.box (i := 0) rfl).part 0 rfl) rfl) rfl rfl rfl <| ?_
  obtain ⟨r13, hr14, -, hm⟩ := callG_some hm
  refine WL_callG rfl rfl rfl guard_neg (f := 18) (first := []) (cap := []) (xs := [(.tmp 26), (.const (.int .i64 3))]) (vs := [(.agg #[(.int .i64 e.op), (.int .i64 e.n), (.int .i64 e.at_), (sl v1)]), (.int .i64 3)]) (args := [(.agg #[(.int .i64 e.op), (.int .i64 e.n), (.int .i64 e.at_), (sl v1)]), (.int .i64 3)]) Tryd.call18 Opd.f (.cons (Opd.g rfl id) (.cons Opd.c .nil)) rfl rfl (fun hg => scrutinyref13_May_ok (hs.re 5 [1, 0, 1, 2, 3, 4] rfl) (hr14 hg)) ?_
  intro v16 w15 hv17 hz18
  replace hs := Sat.ofG (fun hg => (hv17 hg).2.re 5 [0, 1, 2, 3, 4] rfl) hz18 hs
  refine WL_sub1 (v := (.bool r13)) (fun hg => (hv17 hg).1) ?_
  replace hs := Sat.n5 (Γ := Φ) hs rfl
  obtain ⟨b19, e20, hm⟩ := letv_some hm
  refine WL_opG rfl rfl rfl rfl guard_neg (Run.eqB (Run_notB (Opd.g rfl id)) e20) rfl rfl rfl <| ?_
  obtain ⟨b21, e22, hm⟩ := letv_some hm
  refine WL_op (Run.eqB (Run_or (Opd.t rfl) (Opd.g rfl id)) e22) rfl rfl rfl rfl <| ?_
  refine WL_nil ?_
  refine At_then ?_
  refine WC_cond (Opd.t rfl) (fun hc23 => ?_) (fun hc23 => ?_)
  ·
    replace hm := bif_t hc23 hm
    refine WC_seq ?_
    refine WC_region ?_
    refine WL_op (Run_move (Opd.t rfl)) rfl rfl rfl rfl <| WL_op (Run_assign (Opd.t rfl)) rfl rfl rfl rfl <| ?_
    refine WL_nil ?_
    refine At_then ?_
    refine WC_ret ?_
    refine At_then_ret <| ?_
    refine At_r1 rfl (ResIs.t rfl) ?_
    cases hm
    exact ⟨rfl, (hs.re 5 [] rfl)⟩
  ·
    replace hm := bif_f hc23 hm
    refine WC_skip ?_
    refine At_then ?_
    refine WC_seq ?_
    refine WC_region ?_
    refine WL_op (Run_loadA (vs := [(.int .i64 e.op), (.int .i64 e.n), (.int .i64 e.at_), (sl v1)]) Tryd.underlying24 rfl ti24 (Opd.t rfl) (fun _ => (hs.box (i := 0) rfl).part 0 rfl) rfl) rfl rfl rfl rfl <| ?_
    obtain ⟨r24, hr25, hm⟩ := bind_some' hm
    refine WL_call (f := 19) (first := []) (cap := []) (xs := [(.tmp 32)]) (vs := [(.agg #[(.int .i64 e.op), (.int .i64 e.n), (.int .i64 e.at_), (sl v1)])]) (args := [(.agg #[(.int .i64 e.op), (.int .i64 e.n), (.int .i64 e.at_), (sl v1)])]) Tryd.call19 Opd.f (.cons (Opd.t rfl) .nil) rfl rfl (expr_Type_ok (hs.re 5 [1, 0, 1, 2, 3, 4] rfl) hr25) ?_
    rintro _ w26 ⟨rfl, hs⟩
    replace hs := Sat.n5 (Γ := Φ) hs rfl
    refine WL_op (Run_move (Opd.t rfl)) rfl rfl rfl rfl <| WL_op (Run_extract (vs := [(.int .i64 r24.1), (.int .i64 r24.2.1), (.int .i64 r24.2.2)]) (Opd.t rfl) rfl) rfl rfl rfl rfl <| WL_op (Run_extract (vs := [(.int .i64 r24.1), (.int .i64 r24.2.1), (.int .i64 r24.2.2)]) (Opd.t rfl) rfl) rfl rfl rfl rfl <| WL_op (Run_extract (vs := [(.int .i64 r24.1), (.int .i64 r24.2.1), (.int .i64 r24.2.2)]) (Opd.t rfl) rfl) rfl rfl rfl rfl <| WL_op (Run_assign (Opd.t rfl)) rfl rfl rfl rfl <| WL_op (Run_assign (Opd.t rfl)) rfl rfl rfl rfl <| WL_op (Run_assign (Opd.t rfl)) rfl rfl rfl rfl <| ?_
    refine WL_nil ?_
    refine At_then ?_
    refine WC_seq ?_
    refine WC_region ?_
    refine WS_lit (A := (RI .i64)) (xs := [15, 20, 21, 22]) (zs := [(.int .i64 0)]) (cells := [(.int .i64 15), (.int .i64 20), (.int .i64 21), (.int .i64 22)]) (parts := [(0, (.const (.int .i64 15))), (1, (.const (.int .i64 20))), (2, (.const (.int .i64 21))), (3, (.const (.int .i64 22)))]) hs Tryd.underlying25 ti3 rfl rfl rfl (.cons Opd.c (.cons Opd.c (.cons Opd.c (.cons Opd.c .nil)))) (by kernel_rfl) rfl (ARd.cons (A := (RI .i64)) (c := [(.int .i64 15)]) (x := 15) rfl (ARd.cons (A := (RI .i64)) (c := [(.int .i64 20)]) (x := 20) rfl (ARd.cons (A := (RI .i64)) (c := [(.int .i64 21)]) (x := 21) rfl (ARd.cons (A := (RI .i64)) (c := [(.int .i64 22)]) (x := 22) rfl ARd.nil)))) rfl ?_
    intro b27 w28 hs
    replace hs := Sat.n6 (Γ := Φ) hs rfl
    refine WL_op (Run_assign (Opd.t rfl)) rfl rfl rfl rfl <| ?_
    refine WL_nil ?_
    refine At_then ?_
    refine WC_seq ?_
    refine WC_region ?_
    refine WS_lit (A := (RI .i64)) (xs := [16, 17, 18, 19, 23, 24]) (zs := [(.int .i64 0)]) (cells := [(.int .i64 16), (.int .i64 17), (.int .i64 18), (.int .i64 19), (.int .i64 23), (.int .i64 24)]) (parts := [(0, (.const (.int .i64 16))), (1, (.const (.int .i64 17))), (2, (.const (.int .i64 18))), (3, (.const (.int .i64 19))), (4, (.const (.int .i64 23))), (5, (.const (.int .i64 24)))]) hs Tryd.underlying25 ti3 rfl rfl rfl (.cons Opd.c (.cons Opd.c (.cons Opd.c (.cons Opd.c (.cons Opd.c (.cons Opd.c .nil)))))) (by kernel_rfl) rfl (ARd.cons (A := (RI .i64)) (c := [(.int .i64 16)]) (x := 16) rfl (ARd.cons (A := (RI .i64)) (c := [(.int .i64 17)]) (x := 17) rfl (ARd.cons (A := (RI .i64)) (c := [(.int .i64 18)]) (x := 18) rfl (ARd.cons (A := (RI .i64)) (c := [(.int .i64 19)]) (x := 19) rfl (ARd.cons (A := (RI .i64)) (c := [(.int .i64 23)]) (x := 23) rfl (ARd.cons (A := (RI .i64)) (c := [(.int .i64 24)]) (x := 24) rfl ARd.nil)))))) rfl ?_
    intro b29 w30 hs
    replace hs := Sat.n7 (Γ := Φ) hs rfl
    refine WL_op (Run_assign (Opd.t rfl)) rfl rfl rfl rfl <| ?_
    refine WL_nil ?_
    refine At_then ?_
    refine WC_seq ?_
    refine WC_region ?_
    refine WL_op (Run_move (Opd.t rfl)) rfl rfl rfl rfl <| WL_op (Run_conv Tryd.underlying5 Tryd.underlying3 (Opd.t rfl)) rfl rfl rfl rfl <| WL_op (Run_rem (Opd.t rfl) Opd.c (by rfl)) rfl rfl rfl rfl <| WL_op (Run_assign (Opd.t rfl)) rfl rfl rfl rfl <| ?_
    refine WL_nil ?_
    refine At_then ?_
    refine WC_seq ?_
    refine WC_region ?_
    refine WL_op (Run_move (Opd.t rfl)) rfl rfl rfl rfl <| WL_op (Run_conv Tryd.underlying5 Tryd.underlying3 (Opd.t rfl)) rfl rfl rfl rfl <| WL_op (Run_rem (Opd.t rfl) Opd.c (by rfl)) rfl rfl rfl rfl <| WL_op (Run_assign (Opd.t rfl)) rfl rfl rfl rfl <| ?_
    refine WL_nil ?_
    refine At_then ?_
    refine WC_seq ?_
    refine WC_region_mixed [0, 0, 3, 4, 0, 16, 40, 64, 128, 256, 256, 256, 1023, 6143, 16383] (.q 0 0 (.q 1 1 (.q 2 3 (.q 3 7 (.q 4 15 (.l 5 31 (.q 6 63 (.l 7 127 (.q 8 255 (.q 9 511 (.q 10 1023 (.q 11 2047 (.q 12 4095 (.q 13 8191 (.q 14 16383 .nil))))))))))))))) (by kernel_rfl) (by kernel_rfl) ?_
    intro w31 hx32
    replace hs := hs.ext hx32
    refine WD_pure (fun _ => (Run_move (Opd.t rfl))) rfl rfl rfl rfl <| WD_pure (fun _ => (Run_move (Opd.t rfl))) rfl rfl rfl rfl <| ?_
    obtain ⟨e33, he34, hm⟩ := bind_some' hm
    refine WD_pure (fun _ => (Run_idxAddr (p := (elA (sl (some ⟨b27, 0, none⟩, 4, 4)) (Int.tmod (IntKind.i64.wrap k) 4) 1)) Tryd.underlying25 ti3 (Opd.t rfl) (Opd.t rfl) (fun hg => (Own.atA (A := (RI .i64)) (v := (sl (some ⟨b27, 0, none⟩, 4, 4))) (hs.own (i := 1) rfl) he34).1))) rfl rfl rfl rfl <| WD_op (fun w => true = true → CellsAt w (elA (sl (some ⟨b27, 0, none⟩, 4, 4)) (Int.tmod (IntKind.i64.wrap k) 4) 1) [(.int .i64 e33)]) (fun hg => (Own.cellsF (A := (RI .i64)) (v := (sl (some ⟨b27, 0, none⟩, 4, 4))) (hs.own (i := 1) rfl) he34 (fun _ h => openT3 h)).sub 0 rfl) (fun _ hJ => (Run_load1 (v := (.int .i64 e33)) Tryd.underlying3 rfl (Opd.t rfl) hJ)) rfl rfl rfl rfl <| WD_op (fun w => CellsAt w ⟨b3, 0, none⟩ [(.int .i64 e.op), (.int .i64 e.n), (.int .i64 e.at_), (sl v1)]) ((hs.box (i := 2) rfl).part 0 rfl) (fun _ hJ => (Run_loadA (vs := [(.int .i64 e.op), (.int .i64 e.n), (.int .i64 e.at_), (sl v1)]) Tryd.underlying24 rfl ti24 (Opd.t rfl) (fun _ => hJ) rfl)) rfl rfl rfl rfl <| ?_
    refine WD_loud (pend' := [(3, fun w => true = true → CellsAt w (elA (sl (some ⟨b27, 0, none⟩, 4, 4)) (Int.tmod (IntKind.i64.wrap k) 4) 1) [(.int .i64 e33)])]) rfl (by kernel_rfl) ?_
    refine WS_lit (A := RExpr) (xs := [e]) (zs := [(.int .i64 0), (.int .i64 0), (.int .i64 0), (sl (none, 0, 0))]) (cells := [(.int .i64 e.op), (.int .i64 e.n), (.int .i64 e.at_), (sl v1)]) (parts := [(0, (.tmp 50))]) hs Tryd.underlying22 ti24 rfl rfl rfl (.cons (Opd.t rfl) .nil) (by kernel_rfl) rfl (ARd.cons (A := RExpr) (c := [(.int .i64 e.op), (.int .i64 e.n), (.int .i64 e.at_), (sl v1)]) (x := e) (RExpr_closeE (⟨_, rfl, (hs.sl (i := 3) rfl)⟩)) ARd.nil) rfl ?_
    intro b35 w36 hs
    replace hs := Sat.n8 (Γ := Φ) hs rfl
    refine WL_nil ?_
    refine At_QK (allJ_cons (fun hg => (Own.cellsF (A := (RI .i64)) (v := (sl (some ⟨b27, 0, none⟩, 4, 4))) (hs.own (i := 2) rfl) he34 (fun _ h => openT3 h)).sub 0 rfl) allJ_nil) ?_
    refine WD_pure (fun _ => (Run_build (parts := [(0, (.tmp 49)), (2, (.const (.int .i64 7))), (3, (.tmp 51))]) (v := (.agg #[(.int .i64 e33), (.int .i64 0), (.int .i64 7), (sl (some ⟨b35, 0, none⟩, 1, 1))])) (.cons (Opd.t rfl) (.cons Opd.c (.cons (Opd.t rfl) .nil))) (fun _ => by kernel_rfl))) rfl rfl rfl rfl <| ?_
    refine WD_loud (pend' := [(3, fun w => true = true → CellsAt w (elA (sl (some ⟨b27, 0, none⟩, 4, 4)) (Int.tmod (IntKind.i64.wrap k) 4) 1) [(.int .i64 e33)])]) rfl (by kernel_rfl) ?_
    replace hs := hs.freeze (i := 0) rfl
    obtain ⟨r37, hr38, hm⟩ := bind_some' hm
    refine WL_call (f := 19) (first := []) (cap := []) (xs := [(.tmp 52)]) (vs := [(.agg #[(.int .i64 e33), (.int .i64 0), (.int .i64 7), (sl (some ⟨b35, 0, none⟩, 1, 1))])]) (args := [(.agg #[(.int .i64 e33), (.int .i64 0), (.int .i64 7), (sl (some ⟨b35, 0, none⟩, 1, 1))])]) Tryd.call19 Opd.f (.cons (Opd.t rfl) .nil) rfl rfl (expr_Type_ok (e := (Ex.mk e33 0 7 ([e] : List Ex))) (hs.re 8 [0, 0, 1, 2, 3, 4, 5, 6, 7] rfl) hr38) ?_
    rintro _ w39 ⟨rfl, hs⟩
    replace hs := Sat.n8 (Γ := Φ) hs rfl
    refine WL_nil ?_
    refine At_QK (allJ_cons (fun hg => (Own.cellsF (A := (RI .i64)) (v := (sl (some ⟨b27, 0, none⟩, 4, 4))) (hs.own (i := 2) rfl) he34 (fun _ h => openT3 h)).sub 0 rfl) allJ_nil) ?_
    refine WD_pure (fun _ => (Run_move (Opd.t rfl))) rfl rfl rfl rfl <| WD_pure (fun _ => (Run_extract (vs := [(.int .i64 r37.1), (.int .i64 r37.2.1), (.int .i64 r37.2.2)]) (Opd.t rfl) rfl)) rfl rfl rfl rfl <| WD_pure (fun _ => (Run_extract (vs := [(.int .i64 r37.1), (.int .i64 r37.2.1), (.int .i64 r37.2.2)]) (Opd.t rfl) rfl)) rfl rfl rfl rfl <| WD_pure (fun _ => (Run_extract (vs := [(.int .i64 r37.1), (.int .i64 r37.2.1), (.int .i64 r37.2.2)]) (Opd.t rfl) rfl)) rfl rfl rfl rfl <| WD_pure (fun _ => (Run_assign (Opd.t rfl))) rfl rfl rfl rfl <| WD_pure (fun _ => (Run_assign (Opd.t rfl))) rfl rfl rfl rfl <| WD_pure (fun _ => (Run_assign (Opd.t rfl))) rfl rfl rfl rfl <| ?_
    refine WD_nil ?_
    refine At_then ?_
    refine WC_seq ?_
    refine WC_region_mixed [0, 0, 3, 4, 0, 0, 48, 72, 128, 256, 512, 512, 512, 2047, 12287, 32767] (.q 0 0 (.q 1 1 (.q 2 3 (.q 3 7 (.q 4 15 (.q 5 31 (.l 6 63 (.q 7 127 (.l 8 255 (.q 9 511 (.q 10 1023 (.q 11 2047 (.q 12 4095 (.q 13 8191 (.q 14 16383 (.q 15 32767 .nil)))))))))))))))) (by kernel_rfl) (by kernel_rfl) ?_
    intro w40 hx41
    replace hs := hs.ext hx41
    refine WD_pure (fun _ => (Run_move (Opd.t rfl))) rfl rfl rfl rfl <| WD_pure (fun _ => (Run_move (Opd.t rfl))) rfl rfl rfl rfl <| ?_
    obtain ⟨e42, he43, hm⟩ := bind_some' hm
    refine WD_pure (fun _ => (Run_idxAddr (p := (elA (sl (some ⟨b29, 0, none⟩, 6, 6)) (Int.tmod (IntKind.i64.wrap k) 6) 1)) Tryd.underlying25 ti3 (Opd.t rfl) (Opd.t rfl) (fun hg => (Own.atA (A := (RI .i64)) (v := (sl (some ⟨b29, 0, none⟩, 6, 6))) (hs.own (i := 1) rfl) he43).1))) rfl rfl rfl rfl <| WD_op (fun w => true = true → CellsAt w (elA (sl (some ⟨b29, 0, none⟩, 6, 6)) (Int.tmod (IntKind.i64.wrap k) 6) 1) [(.int .i64 e42)]) (fun hg => (Own.cellsF (A := (RI .i64)) (v := (sl (some ⟨b29, 0, none⟩, 6, 6))) (hs.own (i := 1) rfl) he43 (fun _ h => openT3 h)).sub 0 rfl) (fun _ hJ => (Run_load1 (v := (.int .i64 e42)) Tryd.underlying3 rfl (Opd.t rfl) hJ)) rfl rfl rfl rfl <| WD_op (fun w => CellsAt w ⟨b3, 0, none⟩ [(.int .i64 e.op), (.int .i64 e.n), (.int .i64 e.at_), (sl v1)]) ((hs.box (i := 3) rfl).part 0 rfl) (fun _ hJ => (Run_loadA (vs := [(.int .i64 e.op), (.int .i64 e.n), (.int .i64 e.at_), (sl v1)]) Tryd.underlying24 rfl ti24 (Opd.t rfl) (fun _ => hJ) rfl)) rfl rfl rfl rfl <| WD_op (fun w => CellsAt w ⟨b3, 0, none⟩ [(.int .i64 e.op), (.int .i64 e.n), (.int .i64 e.at_), (sl v1)]) ((hs.box (i := 3) rfl).part 0 rfl) (fun _ hJ => (Run_loadA (vs := [(.int .i64 e.op), (.int .i64 e.n), (.int .i64 e.at_), (sl v1)]) Tryd.underlying24 rfl ti24 (Opd.t rfl) (fun _ => hJ) rfl)) rfl rfl rfl rfl <| ?_
    refine WD_loud (pend' := [(3, fun w => true = true → CellsAt w (elA (sl (some ⟨b29, 0, none⟩, 6, 6)) (Int.tmod (IntKind.i64.wrap k) 6) 1) [(.int .i64 e42)])]) rfl (by kernel_rfl) ?_
    refine WS_lit (A := RExpr) (xs := [e, e]) (zs := [(.int .i64 0), (.int .i64 0), (.int .i64 0), (sl (none, 0, 0))]) (cells := [(.int .i64 e.op), (.int .i64 e.n), (.int .i64 e.at_), (sl v1), (.int .i64 e.op), (.int .i64 e.n), (.int .i64 e.at_), (sl v1)]) (parts := [(0, (.tmp 62)), (1, (.tmp 63))]) hs Tryd.underlying22 ti24 rfl rfl rfl (.cons (Opd.t rfl) (.cons (Opd.t rfl) .nil)) (by kernel_rfl) rfl (ARd.cons (A := RExpr) (c := [(.int .i64 e.op), (.int .i64 e.n), (.int .i64 e.at_), (sl v1)]) (x := e) (RExpr_closeE (⟨_, rfl, (hs.sl (i := 4) rfl)⟩)) (ARd.cons (A := RExpr) (c := [(.int .i64 e.op), (.int .i64 e.n), (.int .i64 e.at_), (sl v1)]) (x := e) (RExpr_closeE (⟨_, rfl, (hs.sl (i := 4) rfl)⟩)) ARd.nil)) rfl ?_
    intro b44 w45 hs
    replace hs := Sat.n9 (Γ := Φ) hs rfl
    refine WL_nil ?_
    refine At_QK (allJ_cons (fun hg => (Own.cellsF (A := (RI .i64)) (v := (sl (some ⟨b29, 0, none⟩, 6, 6))) (hs.own (i := 2) rfl) he43 (fun _ h => openT3 h)).sub 0 rfl) allJ_nil) ?_
    refine WD_pure (fun _ => (Run_build (parts := [(0, (.tmp 61)), (2, (.const (.int .i64 8))), (3, (.tmp 64))]) (v := (.agg #[(.int .i64 e42), (.int .i64 0), (.int .i64 8), (sl (some ⟨b44, 0, none⟩, 2, 2))])) (.cons (Opd.t rfl) (.cons Opd.c (.cons (Opd.t rfl) .nil))) (fun _ => by kernel_rfl))) rfl rfl rfl rfl <| ?_
    refine WD_loud (pend' := [(3, fun w => true = true → CellsAt w (elA (sl (some ⟨b29, 0, none⟩, 6, 6)) (Int.tmod (IntKind.i64.wrap k) 6) 1) [(.int .i64 e42)])]) rfl (by kernel_rfl) ?_
    replace hs := hs.freeze (i := 0) rfl
    obtain ⟨r46, hr47, hm⟩ := bind_some' hm
    refine WL_call (f := 19) (first := []) (cap := []) (xs := [(.tmp 65)]) (vs := [(.agg #[(.int .i64 e42), (.int .i64 0), (.int .i64 8), (sl (some ⟨b44, 0, none⟩, 2, 2))])]) (args := [(.agg #[(.int .i64 e42), (.int .i64 0), (.int .i64 8), (sl (some ⟨b44, 0, none⟩, 2, 2))])]) Tryd.call19 Opd.f (.cons (Opd.t rfl) .nil) rfl rfl (expr_Type_ok (e := (Ex.mk e42 0 8 ([e, e] : List Ex))) (hs.re 9 [0, 0, 1, 2, 3, 4, 5, 6, 7, 8] rfl) hr47) ?_
    rintro _ w48 ⟨rfl, hs⟩
    replace hs := Sat.n9 (Γ := Φ) hs rfl
    refine WL_nil ?_
    refine At_QK (allJ_cons (fun hg => (Own.cellsF (A := (RI .i64)) (v := (sl (some ⟨b29, 0, none⟩, 6, 6))) (hs.own (i := 2) rfl) he43 (fun _ h => openT3 h)).sub 0 rfl) allJ_nil) ?_
    refine WD_pure (fun _ => (Run_move (Opd.t rfl))) rfl rfl rfl rfl <| WD_pure (fun _ => (Run_extract (vs := [(.int .i64 r46.1), (.int .i64 r46.2.1), (.int .i64 r46.2.2)]) (Opd.t rfl) rfl)) rfl rfl rfl rfl <| WD_pure (fun _ => (Run_extract (vs := [(.int .i64 r46.1), (.int .i64 r46.2.1), (.int .i64 r46.2.2)]) (Opd.t rfl) rfl)) rfl rfl rfl rfl <| WD_pure (fun _ => (Run_extract (vs := [(.int .i64 r46.1), (.int .i64 r46.2.1), (.int .i64 r46.2.2)]) (Opd.t rfl) rfl)) rfl rfl rfl rfl <| WD_pure (fun _ => (Run_assign (Opd.t rfl))) rfl rfl rfl rfl <| WD_pure (fun _ => (Run_assign (Opd.t rfl))) rfl rfl rfl rfl <| WD_pure (fun _ => (Run_assign (Opd.t rfl))) rfl rfl rfl rfl <| ?_
    refine WD_nil ?_
    refine At_then ?_
    refine WC_seq ?_
    refine WC_seq ?_
    refine WC_region ?_
    refine WL_op (Run_move (Opd.t rfl)) rfl rfl rfl rfl <| WL_op (Run_neI (Opd.t rfl) Opd.c) rfl rfl rfl rfl <| ?_
    refine WL_nil ?_
    refine At_then ?_
    refine WC_cond (Opd.t rfl) (fun hc49 => ?_) (fun hc49 => ?_)
    ·
      replace hm := bif_t hc49 hm
      refine WC_seq ?_
      refine WC_region ?_
      refine WL_op (Run_move (Opd.t rfl)) rfl rfl rfl rfl <| WL_op (Run_move (Opd.t rfl)) rfl rfl rfl rfl <| WL_opG rfl rfl rfl rfl guard_pos (Run_move (Opd.t rfl)) rfl rfl rfl <| WL_opG rfl rfl rfl rfl guard_pos (Run_move (Opd.t rfl)) rfl rfl rfl <| ?_
      obtain ⟨b50, e51, hm⟩ := letv_some hm
      refine WL_opG rfl rfl rfl rfl guard_pos (Run.eqB (Run_eqI (Opd.g rfl id) (Opd.g rfl id)) e51) rfl rfl rfl <| ?_
      obtain ⟨b52, e53, hm⟩ := letv_some hm
      refine WL_op (Run.eqB (Run_and (Opd.t rfl) (Opd.g rfl id)) e53) rfl rfl rfl rfl <| WL_op (Run_move (Opd.t rfl)) rfl rfl rfl rfl <| WL_opG rfl rfl rfl rfl guard_pos (Run_move (Opd.t rfl)) rfl rfl rfl <| WL_opG rfl rfl rfl rfl guard_pos (Run_move (Opd.t rfl)) rfl rfl rfl <| ?_
      obtain ⟨b54, e55, hm⟩ := letv_some hm
      refine WL_opG rfl rfl rfl rfl guard_pos (Run.eqB (Run_eqI (Opd.g rfl id) (Opd.g rfl id)) e55) rfl rfl rfl <| ?_
      obtain ⟨b56, e57, hm⟩ := letv_some hm
      refine WL_op (Run.eqB (Run_and (Opd.t rfl) (Opd.g rfl id)) e57) rfl rfl rfl rfl <| WL_op (Run_move (Opd.t rfl)) rfl rfl rfl rfl <| WL_opG rfl rfl rfl rfl guard_pos (Run_move (Opd.t rfl)) rfl rfl rfl <| WL_opG rfl rfl rfl rfl guard_pos (Run_move (Opd.t rfl)) rfl rfl rfl <| ?_
      obtain ⟨b58, e59, hm⟩ := letv_some hm
      refine WL_opG rfl rfl rfl rfl guard_pos (Run.eqB (Run_eqI (Opd.g rfl id) (Opd.g rfl id)) e59) rfl rfl rfl <| ?_
      obtain ⟨b60, e61, hm⟩ := letv_some hm
      refine WL_op (Run.eqB (Run_and (Opd.t rfl) (Opd.g rfl id)) e61) rfl rfl rfl rfl <| WL_op (Run_move (Opd.t rfl)) rfl rfl rfl rfl <| WL_opG rfl rfl rfl rfl guard_pos (Run_move (Opd.t rfl)) rfl rfl rfl <| WL_opG rfl rfl rfl rfl guard_pos (Run_move (Opd.t rfl)) rfl rfl rfl <| ?_
      obtain ⟨b62, e63, hm⟩ := letv_some hm
      refine WL_opG rfl rfl rfl rfl guard_pos (Run.eqB (Run_eqI (Opd.g rfl id) (Opd.g rfl id)) e63) rfl rfl rfl <| ?_
      obtain ⟨b64, e65, hm⟩ := letv_some hm
      refine WL_op (Run.eqB (Run_and (Opd.t rfl) (Opd.g rfl id)) e65) rfl rfl rfl rfl <| WL_op (Run_move (Opd.t rfl)) rfl rfl rfl rfl <| WL_opG rfl rfl rfl rfl guard_pos (Run_move (Opd.t rfl)) rfl rfl rfl <| ?_
      obtain ⟨b66, e67, hm⟩ := letv_some hm
      refine WL_opG rfl rfl rfl rfl guard_pos (Run.eqB (Run_eqI (Opd.g rfl id) Opd.c) e67) rfl rfl rfl <| ?_
      obtain ⟨b68, e69, hm⟩ := letv_some hm
      refine WL_op (Run.eqB (Run_and (Opd.t rfl) (Opd.g rfl id)) e69) rfl rfl rfl rfl <| WL_op (Run_move (Opd.t rfl)) rfl rfl rfl rfl <| WL_opG rfl rfl rfl rfl guard_pos (Run_move (Opd.t rfl)) rfl rfl rfl <| ?_
      obtain ⟨b70, e71, hm⟩ := letv_some hm
      refine WL_opG rfl rfl rfl rfl guard_pos (Run.eqB (Run_eqI (Opd.g rfl id) Opd.c) e71) rfl rfl rfl <| ?_
      obtain ⟨b72, e73, hm⟩ := letv_some hm
      refine WL_op (Run.eqB (Run_and (Opd.t rfl) (Opd.g rfl id)) e73) rfl rfl rfl rfl <| WL_op (Run_assign (Opd.t rfl)) rfl rfl rfl rfl <| ?_
      refine WL_nil ?_
      refine At_then ?_
      refine WC_ret ?_
      refine At_then_ret <| ?_
      refine At_r1 rfl (ResIs.t rfl) ?_
      cases hm
      exact ⟨rfl, (hs.re 9 [] rfl)⟩
    ·
      replace hm := bif_f hc49 hm
      refine WC_skip ?_
      refine At_then ?_
      refine WC_seq ?_
      refine WC_seq ?_
      refine WC_region ?_
      refine WL_op (Run_move (Opd.t rfl)) rfl rfl rfl rfl <| WL_op (Run_eqI (Opd.t rfl) Opd.c) rfl rfl rfl rfl <| ?_
      refine WL_nil ?_
      refine At_then ?_
      refine WC_cond (Opd.t rfl) (fun hc74 => ?_) (fun hc74 => ?_)
      ·
        replace hm := bif_t hc74 hm
        refine WC_seq ?_
        refine WC_region ?_
        refine WL_op (Run_move (Opd.t rfl)) rfl rfl rfl rfl <| WL_op (Run_move (Opd.t rfl)) rfl rfl rfl rfl <| WL_opG rfl rfl rfl rfl guard_pos (Run_move (Opd.t rfl)) rfl rfl rfl <| ?_
        obtain ⟨b75, e76, hm⟩ := letv_some hm
        refine WL_opG rfl rfl rfl rfl guard_pos (Run.eqB (Run_eqI (Opd.g rfl id) Opd.c) e76) rfl rfl rfl <| ?_
        obtain ⟨b77, e78, hm⟩ := letv_some hm
        refine WL_op (Run.eqB (Run_and (Opd.t rfl) (Opd.g rfl id)) e78) rfl rfl rfl rfl <| WL_op (Run_move (Opd.t rfl)) rfl rfl rfl rfl <| WL_opG rfl rfl rfl rfl guard_pos (Run_move (Opd.t rfl)) rfl rfl rfl <| ?_
        obtain ⟨b79, e80, hm⟩ := letv_some hm
        refine WL_opG rfl rfl rfl rfl guard_pos (Run.eqB (Run_eqI (Opd.g rfl id) Opd.c) e80) rfl rfl rfl <| ?_
        obtain ⟨b81, e82, hm⟩ := letv_some hm
        refine WL_op (Run.eqB (Run_and (Opd.t rfl) (Opd.g rfl id)) e82) rfl rfl rfl rfl <| WL_op (Run_move (Opd.t rfl)) rfl rfl rfl rfl <| WL_opG rfl rfl rfl rfl guard_pos (Run_move (Opd.t rfl)) rfl rfl rfl <| ?_
        obtain ⟨b83, e84, hm⟩ := letv_some hm
        refine WL_opG rfl rfl rfl rfl guard_pos (Run.eqB (Run_eqI (Opd.g rfl id) Opd.c) e84) rfl rfl rfl <| ?_
        obtain ⟨b85, e86, hm⟩ := letv_some hm
        refine WL_op (Run.eqB (Run_and (Opd.t rfl) (Opd.g rfl id)) e86) rfl rfl rfl rfl <| WL_op (Run_move (Opd.t rfl)) rfl rfl rfl rfl <| WL_opG rfl rfl rfl rfl guard_pos (Run_move (Opd.t rfl)) rfl rfl rfl <| ?_
        obtain ⟨b87, e88, hm⟩ := letv_some hm
        refine WL_opG rfl rfl rfl rfl guard_pos (Run.eqB (Run_eqI (Opd.g rfl id) Opd.c) e88) rfl rfl rfl <| ?_
        obtain ⟨b89, e90, hm⟩ := letv_some hm
        refine WL_op (Run.eqB (Run_and (Opd.t rfl) (Opd.g rfl id)) e90) rfl rfl rfl rfl <| WL_op (Run_assign (Opd.t rfl)) rfl rfl rfl rfl <| ?_
        refine WL_nil ?_
        refine At_then ?_
        refine WC_ret ?_
        refine At_then_ret <| ?_
        refine At_r1 rfl (ResIs.t rfl) ?_
        cases hm
        exact ⟨rfl, (hs.re 9 [] rfl)⟩
      ·
        replace hm := bif_f hc74 hm
        refine WC_skip ?_
        refine At_then ?_
        refine WC_seq ?_
        refine WC_region ?_
        refine WL_op (Run_assign Opd.c) rfl rfl rfl rfl <| ?_
        refine WL_nil ?_
        refine At_then ?_
        refine WC_seq ?_
        refine WC_region ?_
        refine WL_op (Run_assign Opd.c) rfl rfl rfl rfl <| ?_
        refine WL_nil ?_
        refine At_then ?_
        refine WC_seq_cut (γ := Int) (fun wantA92 w91 => scrutinylaw13_ExprTypes_K1 k r5 r24 r37 r46 wantA92 = some r ∧ Sat (gl 0 (keysL.map S) :: gl 1 (textsL.map S) :: gl 2 (pow10L.map (Value.int .u64)) :: Φ) w91) (fun wantA92 => [(5, true, (.bool r5)), (6, true, (.int .i64 r24.1)), (12, true, (.int .i64 (Int.tmod (IntKind.i64.wrap k) 6))), (13, true, (.int .i64 r37.1)), (14, true, (.int .i64 r37.2.1)), (16, true, (.int .i64 r46.1)), (17, true, (.int .i64 r46.2.1)), (19, true, (.int .i64 wantA92)), (20, true, (.int .i64 3))]) ?_ ?_
        ·
          rintro wantA92 w91 ⟨hm, hs⟩
          unfold scrutinylaw13_ExprTypes_K1 at hm
          refine WC_seq_cut (γ := Int) (fun wantB94 w93 => scrutinylaw13_ExprTypes_K2 r5 r37 r46 wantA92 wantB94 = some r ∧ Sat (gl 0 (keysL.map S) :: gl 1 (textsL.map S) :: gl 2 (pow10L.map (Value.int .u64)) :: Φ) w93) (fun wantB94 => [(5, true, (.bool r5)), (13, true, (.int .i64 r37.1)), (14, true, (.int .i64 r37.2.1)), (16, true, (.int .i64 r46.1)), (17, true, (.int .i64 r46.2.1)), (19, true, (.int .i64 wantA92)), (20, true, (.int .i64 wantB94))]) ?_ ?_
          ·
            rintro wantB94 w93 ⟨hm, hs⟩
            unfold scrutinylaw13_ExprTypes_K2 at hm
            refine WC_seq ?_
            refine WC_region ?_
            refine WL_op (Run_move (Opd.t rfl)) rfl rfl rfl rfl <| WL_op (Run_move (Opd.t rfl)) rfl rfl rfl rfl <| WL_opG rfl rfl rfl rfl guard_pos (Run_move (Opd.t rfl)) rfl rfl rfl <| ?_
            obtain ⟨b95, e96, hm⟩ := letv_some hm
            refine WL_opG rfl rfl rfl rfl guard_pos (Run.eqB (Run_eqI (Opd.g rfl id) Opd.c) e96) rfl rfl rfl <| ?_
            obtain ⟨b97, e98, hm⟩ := letv_some hm
            refine WL_op (Run.eqB (Run_and (Opd.t rfl) (Opd.g rfl id)) e98) rfl rfl rfl rfl <| WL_op (Run_move (Opd.t rfl)) rfl rfl rfl rfl <| WL_opG rfl rfl rfl rfl guard_pos (Run_move (Opd.t rfl)) rfl rfl rfl <| ?_
            obtain ⟨b99, e100, hm⟩ := letv_some hm
            refine WL_opG rfl rfl rfl rfl guard_pos (Run.eqB (Run_eqI (Opd.g rfl id) Opd.c) e100) rfl rfl rfl <| ?_
            obtain ⟨b101, e102, hm⟩ := letv_some hm
            refine WL_op (Run.eqB (Run_and (Opd.t rfl) (Opd.g rfl id)) e102) rfl rfl rfl rfl <| WL_op (Run_move (Opd.t rfl)) rfl rfl rfl rfl <| WL_opG rfl rfl rfl rfl guard_pos (Run_move (Opd.t rfl)) rfl rfl rfl <| WL_opG rfl rfl rfl rfl guard_pos (Run_move (Opd.t rfl)) rfl rfl rfl <| ?_
            obtain ⟨b103, e104, hm⟩ := letv_some hm
            refine WL_opG rfl rfl rfl rfl guard_pos (Run.eqB (Run_eqI (Opd.g rfl id) (Opd.g rfl id)) e104) rfl rfl rfl <| ?_
            obtain ⟨b105, e106, hm⟩ := letv_some hm
            refine WL_op (Run.eqB (Run_and (Opd.t rfl) (Opd.g rfl id)) e106) rfl rfl rfl rfl <| WL_op (Run_move (Opd.t rfl)) rfl rfl rfl rfl <| WL_opG rfl rfl rfl rfl guard_pos (Run_move (Opd.t rfl)) rfl rfl rfl <| WL_opG rfl rfl rfl rfl guard_pos (Run_move (Opd.t rfl)) rfl rfl rfl <| ?_
            obtain ⟨b107, e108, hm⟩ := letv_some hm
            refine WL_opG rfl rfl rfl rfl guard_pos (Run.eqB (Run_eqI (Opd.g rfl id) (Opd.g rfl id)) e108) rfl rfl rfl <| ?_
            obtain ⟨b109, e110, hm⟩ := letv_some hm
            refine WL_op (Run.eqB (Run_and (Opd.t rfl) (Opd.g rfl id)) e110) rfl rfl rfl rfl <| WL_op (Run_assign (Opd.t rfl)) rfl rfl rfl rfl <| ?_
            refine WL_nil ?_
            refine At_then ?_
            refine WC_ret ?_
            refine At_r1 rfl (ResIs.t rfl) ?_
            cases hm
            exact ⟨rfl, (hs.re 3 [] rfl)⟩
          ·
            refine WC_seq ?_
            refine WC_region ?_
            refine WL_op (Run_move (Opd.t rfl)) rfl rfl rfl rfl <| WL_op (Run_ltI (Opd.t rfl) Opd.c) rfl rfl rfl rfl <| ?_
            refine WL_nil ?_
            refine At_then ?_
            refine WC_cond (Opd.t rfl) (fun hc111 => ?_) (fun hc111 => ?_)
            ·
              replace hm := bif_t hc111 hm
              refine WC_region ?_
              refine WL_op (Run_move (Opd.t rfl)) rfl rfl rfl rfl <| WL_op (Run_assign (Opd.t rfl)) rfl rfl rfl rfl <| ?_
              refine WL_nil ?_
              exact At_join r24.1 ⟨hm, (hs.re 3 [0, 1, 2] rfl)⟩ rfl
            ·
              replace hm := bif_f hc111 hm
              refine WC_skip ?_
              exact At_join 3 ⟨hm, (hs.re 3 [0, 1, 2] rfl)⟩ rfl
        ·
          refine WC_seq ?_
          refine WC_region ?_
          refine WL_op (Run_move (Opd.t rfl)) rfl rfl rfl rfl <| WL_op (Run_eqI (Opd.t rfl) Opd.c) rfl rfl rfl rfl <| ?_
          refine WL_nil ?_
          refine At_then ?_
          refine WC_cond (Opd.t rfl) (fun hc112 => ?_) (fun hc112 => ?_)
          ·
            replace hm := bif_t hc112 hm
            refine WC_region ?_
            refine WL_op (Run_move (Opd.t rfl)) rfl rfl rfl rfl <| WL_op (Run_assign (Opd.t rfl)) rfl rfl rfl rfl <| ?_
            refine WL_nil ?_
            exact At_join r24.1 ⟨hm, (hs.re 9 [6, 7, 8] rfl)⟩ rfl
          ·
            replace hm := bif_f hc112 hm
            refine WC_skip ?_
            exact At_join 3 ⟨hm, (hs.re 9 [6, 7, 8] rfl)⟩ rfl

set_option maxRecDepth 100000 in
set_option maxHeartbeats 4000000 in
theorem scrutinylaw13_ExprNames_ok {Φ : Ctx} {w : World} {e : Ex} {v1 : SLV} {r : Bool} (hs : Sat (imm (RSl RExpr) [sl v1] e.l :: gl 0 (keysL.map S) :: gl 1 (textsL.map S) :: gl 2 (pow10L.map (Value.int .u64)) :: Φ) w) (hm : scrutinylaw13_ExprNames e = some r) :
    CallsR Tryd.prog 9 [(.agg #[(.int .i64 e.op), (.int .i64 e.n), (.int .i64 e.at_), (sl v1)])] w (fun v w' => v = (.bool r) ∧ Sat (Φ) w') := by
  refine CallsX_enter Tryd.func9 rfl Tryd.ntmps9 rfl ?_
  unfold scrutinylaw13_ExprNames at hm
  refine WC_seq ?_
  refine WC_region ?_
  refine WS_box (zs := [(.int .i64 e.op), (.int .i64 e.n), (.int .i64 e.at_), (sl v1)]) hs (Opd.t rfl) rfl rfl ?_
  intro b3 w4 hs
  replace hs := Sat.n5 (Γ := Φ) hs rfl
  refine WL_op (Run_assign Opd.c) rfl rfl rfl rfl <| ?_
  refine WL_nil ?_
  refine At_then ?_
  refine WC_seq ?_
  refine WC_region ?_
  obtain ⟨r5, hr6, hm⟩ := bind_some' hm
  refine WL_call (f := 10) (first := []) (cap := []) (xs := []) (vs := []) (args := []) Tryd.call10 Opd.f .nil rfl rfl (scrutinylaw13_shown_ok (hs.re 5 [2, 3, 4, 0, 1, 2, 3, 4] rfl) hr6) ?_
  rintro _ w7 ⟨rfl, hs⟩
  replace hs := Sat.n5 (Γ := Φ) hs rfl
  refine WL_op (Run_assign (Opd.t rfl)) rfl rfl rfl rfl <| ?_
  refine WL_nil ?_
  refine At_then ?_
  refine WC_seq ?_
  refine WC_seq ?_
  refine WC_region ?_
  refine WL_op (Run_loadA (vs := [(.int .i64 e.op), (.int .i64 e.n), (.int .i64 e.at_), (sl v1)]) Tryd.underlying24 rfl ti24 (Opd.t rfl) (fun _ => (hs.box (i := 0) rfl).part 0 rfl) rfl) rfl rfl rfl rfl <| ?_
  obtain ⟨r8, hr9, hm⟩ := bind_some' hm
  refine WL_call (f := 11) (first := []) (cap := []) (xs := [(.tmp 19)]) (vs := [(.agg #[(.int .i64 e.op), (.int .i64 e.n), (.int .i64 e.at_), (sl v1)])]) (args := [(.agg #[(.int .i64 e.op), (.int .i64 e.n), (.int .i64 e.at_), (sl v1)])]) Tryd.call11 Opd.f (.cons (Opd.t rfl) .nil) rfl rfl (scrutinyref13_Few_ok (hs.re 5 [1, 0, 1, 2, 3, 4] rfl) hr9) ?_
  rintro _ w10 ⟨rfl, hs⟩
  replace hs := Sat.n5 (Γ := Φ) hs rfl
  obtain ⟨b11, e12, hm⟩ := letv_some hm
  refine WL_op (Run.eqB (Run_notB (Opd.t rfl)) e12) rfl rfl rfl rfl <| WL_op (Run_move (Opd.t rfl)) rfl rfl rfl rfl <| WL_opG rfl rfl rfl rfl guard_neg (Run_loadA (vs := [(.int .i64 e.op), (.int .i64 e.n), (.int .i64 e.at_), (sl v1)]) Tryd.underlying24 rfl ti24 (Opd.t rfl) (fun _ => (hs.box (i := 0) rfl).part 0 rfl) rfl) rfl rfl rfl <| ?_
  obtain ⟨r13, hr14, -, hm⟩ := callG_some hm
  refine WL_callG rfl rfl rfl guard_neg (f := 18) (first := []) (cap := []) (xs := [(.tmp 23), (.const (.int .i64 3))]) (vs := [(.agg #[(.int .i64 e.op), (.int .i64 e.n), (.int .i64 e.at_), (sl v1)]), (.int .i64 3)]) (args := [(.agg #[(.int .i64 e.op), (.int .i64 e.n), (.int .i64 e.at_), (sl v1)]), (.int .i64 3)]) Tryd.call18 Opd.f (.cons (Opd.g rfl id) (.cons Opd.c .nil)) rfl rfl (fun hg => scrutinyref13_May_ok (hs.re 5 [1, 0, 1, 2, 3, 4] rfl) (hr14 hg)) ?_
  intro v16 w15 hv17 hz18
  replace hs := Sat.ofG (fun hg => (hv17 hg).2.re 5 [0, 1, 2, 3, 4] rfl) hz18 hs
  refine WL_sub1 (v := (.bool r13)) (fun hg => (hv17 hg).1) ?_
  replace hs := Sat.n5 (Γ := Φ) hs rfl
  obtain ⟨b19, e20, hm⟩ := letv_some hm
  refine WL_opG rfl rfl rfl rfl guard_neg (Run.eqB (Run_notB (Opd.g rfl id)) e20) rfl rfl rfl <| ?_
  obtain ⟨b21, e22, hm⟩ := letv_some hm
  refine WL_op (Run.eqB (Run_or (Opd.t rfl) (Opd.g rfl id)) e22) rfl rfl rfl rfl <| ?_
  refine WL_nil ?_
  refine At_then ?_
  refine WC_cond (Opd.t rfl) (fun hc23 => ?_) (fun hc23 => ?_)
  ·
    replace hm := bif_t hc23 hm
    refine WC_seq ?_
    refine WC_region ?_
    refine WL_op (Run_move (Opd.t rfl)) rfl rfl rfl rfl <| WL_op (Run_assign (Opd.t rfl)) rfl rfl rfl rfl <| ?_
    refine WL_nil ?_
    refine At_then ?_
    refine WC_ret ?_
    refine At_then_ret <| ?_
    refine At_r1 rfl (ResIs.t rfl) ?_
    cases hm
    exact ⟨rfl, (hs.re 5 [] rfl)⟩
  ·
    replace hm := bif_f hc23 hm
    refine WC_skip ?_
    refine At_then ?_
    refine WC_seq ?_
    refine WC_region ?_
    refine WS_lit (A := RS) (xs := [[108, 111, 110, 103, 95, 110, 97, 109, 101], [81], [95]]) (zs := [(S [])]) (cells := [(S [108, 111, 110, 103, 95, 110, 97, 109, 101]), (S [81]), (S [95])]) (parts := [(0, (.const (.string ⟨#[108, 111, 110, 103, 95, 110, 97, 109, 101]⟩))), (1, (.const (.string ⟨#[81]⟩))), (2, (.const (.string ⟨#[95]⟩)))]) hs Tryd.underlying40 ti9 rfl rfl rfl (.cons Opd.c (.cons Opd.c (.cons Opd.c .nil))) (by kernel_rfl) rfl (ARd.cons (A := RS) (c := [(S [108, 111, 110, 103, 95, 110, 97, 109, 101])]) (x := [108, 111, 110, 103, 95, 110, 97, 109, 101]) rfl (ARd.cons (A := RS) (c := [(S [81])]) (x := [81]) rfl (ARd.cons (A := RS) (c := [(S [95])]) (x := [95]) rfl ARd.nil))) rfl ?_
    intro b24 w25 hs
    replace hs := Sat.n6 (Γ := Φ) hs rfl
    refine WL_op (Run_assign (Opd.t rfl)) rfl rfl rfl rfl <| ?_
    refine WL_nil ?_
    refine At_then ?_
    refine WC_seq ?_
    refine WC_region ?_
    refine WL_op (Run_loadA (vs := [(.int .i64 e.op), (.int .i64 e.n), (.int .i64 e.at_), (sl v1)]) Tryd.underlying24 rfl ti24 (Opd.t rfl) (fun _ => (hs.box (i := 1) rfl).part 0 rfl) rfl) rfl rfl rfl rfl <| WL_op (Run_move (Opd.t rfl)) rfl rfl rfl rfl <| ?_
    replace hs := hs.freeze (i := 0) rfl
    obtain ⟨r26, hr27, hm⟩ := bind_some' hm
    refine WL_call (f := 21) (first := []) (cap := []) (xs := [(.tmp 30), (.tmp 31)]) (vs := [(.agg #[(.int .i64 e.op), (.int .i64 e.n), (.int .i64 e.at_), (sl v1)]), (sl (some ⟨b24, 0, none⟩, 3, 3))]) (args := [(.agg #[(.int .i64 e.op), (.int .i64 e.n), (.int .i64 e.at_), (sl v1)]), (sl (some ⟨b24, 0, none⟩, 3, 3))]) Tryd.call21 Opd.f (.cons (Opd.t rfl) (.cons (Opd.t rfl) .nil)) rfl rfl (expr_Show_ok (hs.re 6 [2, 0, 4, 5, 0, 1, 2, 3, 4, 5] rfl) hr27) ?_
    rintro _ w28 ⟨rfl, hs⟩
    replace hs := Sat.n6 (Γ := Φ) hs rfl
    obtain ⟨r29, hr30, hm⟩ := bind_some' hm
    refine WL_call (f := 26) (first := []) (cap := []) (xs := [(.tmp 32)]) (vs := [(S r26)]) (args := [(S r26)]) Tryd.call26 Opd.f (.cons (Opd.t rfl) .nil) rfl rfl (scrutinyref12_Tokens_ok (hs.re 6 [0, 1, 2, 3, 4, 5] rfl) hr30) ?_
    rintro _ w33 ⟨v31, R32, rfl, hs⟩
    replace hs := Sat.n7 (Γ := Φ) hs rfl
    refine WL_op (Run_move (Opd.t rfl)) rfl rfl rfl rfl <| WL_op (Run_extract (vs := [(sl v31), (.int .i64 r29.2.1), (.int .i64 r29.2.2)]) (Opd.t rfl) rfl) rfl rfl rfl rfl <| WL_op (Run_extract (vs := [(sl v31), (.int .i64 r29.2.1), (.int .i64 r29.2.2)]) (Opd.t rfl) rfl) rfl rfl rfl rfl <| WL_op (Run_extract (vs := [(sl v31), (.int .i64 r29.2.1), (.int .i64 r29.2.2)]) (Opd.t rfl) rfl) rfl rfl rfl rfl <| WL_op (Run_assign (Opd.t rfl)) rfl rfl rfl rfl <| WL_op (Run_assign (Opd.t rfl)) rfl rfl rfl rfl <| WL_op (Run_assign (Opd.t rfl)) rfl rfl rfl rfl <| ?_
    refine WL_nil ?_
    refine At_then ?_
    refine WC_seq ?_
    refine WC_seq ?_
    refine WC_region ?_
    refine WL_op (Run_move (Opd.t rfl)) rfl rfl rfl rfl <| ?_
    obtain ⟨b34, e35, hm⟩ := letv_some hm
    refine WL_op (Run.eqB (Run_neI (Opd.t rfl) Opd.c) e35) rfl rfl rfl rfl <| WL_op (Run_move (Opd.t rfl)) rfl rfl rfl rfl <| WL_opG rfl rfl rfl rfl guard_neg (Run_move (Opd.t rfl)) rfl rfl rfl <| WL_opG rfl rfl rfl rfl guard_neg (Run_lenSlG Tryd.underlying44 (Opd.g rfl id) (fun _ => (hs.own (i := 0) rfl).len)) rfl rfl rfl <| ?_
    obtain ⟨b36, e37, hm⟩ := letv_some hm
    refine WL_opG rfl rfl rfl rfl guard_neg (Run.eqB (Run_eqI (Opd.g rfl id) Opd.c) e37) rfl rfl rfl <| ?_
    obtain ⟨b38, e39, hm⟩ := letv_some hm
    refine WL_op (Run.eqB (Run_or (Opd.t rfl) (Opd.g rfl id)) e39) rfl rfl rfl rfl <| ?_
    refine WL_nil ?_
    refine At_then ?_
    refine WC_cond (Opd.t rfl) (fun hc40 => ?_) (fun hc40 => ?_)
    ·
      replace hm := bif_t hc40 hm
      refine WC_seq ?_
      refine WC_region ?_
      refine WL_op (Run_assign Opd.c) rfl rfl rfl rfl <| ?_
      refine WL_nil ?_
      refine At_then ?_
      refine WC_ret ?_
      refine At_then_ret <| ?_
      refine At_r1 rfl (ResIs.t rfl) ?_
      cases hm
      exact ⟨rfl, (hs.re 7 [] rfl)⟩
    ·
      replace hm := bif_f hc40 hm
      refine WC_skip ?_
      refine At_then ?_
      refine WC_seq ?_
      refine WC_region ?_
      refine WL_op (Run_move (Opd.t rfl)) rfl rfl rfl rfl <| WL_op (Run_move (Opd.t rfl)) rfl rfl rfl rfl <| ?_
      replace hs := hs.freeze (i := 0) rfl
      obtain ⟨r41, hr42, hm⟩ := bind_some' hm
      refine WL_call (f := 27) (first := []) (cap := []) (xs := [(.tmp 45), (.const (.int .i64 0)), (.tmp 46)]) (vs := [(sl v31), (.int .i64 0), (sl (some ⟨b24, 0, none⟩, 3, 3))]) (args := [(sl v31), (.int .i64 0), (sl (some ⟨b24, 0, none⟩, 3, 3))]) Tryd.call27 Opd.f (.cons (Opd.t rfl) (.cons Opd.c (.cons (Opd.t rfl) .nil))) rfl rfl (expr_Parse_ok (hs.re 7 [0, 1, 4, 5, 0, 1, 2, 3, 4, 5, 6] rfl) hr42) ?_
      rintro _ w45 ⟨v43, R44, rfl, hs⟩
      replace hs := Sat.n8 (Γ := Φ) hs rfl
      refine WL_op (Run_move (Opd.t rfl)) rfl rfl rfl rfl <| WL_op (Run_extract (vs := [(.agg #[(.int .i64 r41.1.op), (.int .i64 r41.1.n), (.int .i64 r41.1.at_), (sl v43)]), (.int .i64 r41.2.1), (.int .i64 r41.2.2.1), (.int .i64 r41.2.2.2)]) (Opd.t rfl) rfl) rfl rfl rfl rfl <| WL_op (Run_extract (vs := [(.agg #[(.int .i64 r41.1.op), (.int .i64 r41.1.n), (.int .i64 r41.1.at_), (sl v43)]), (.int .i64 r41.2.1), (.int .i64 r41.2.2.1), (.int .i64 r41.2.2.2)]) (Opd.t rfl) rfl) rfl rfl rfl rfl <| WL_op (Run_extract (vs := [(.agg #[(.int .i64 r41.1.op), (.int .i64 r41.1.n), (.int .i64 r41.1.at_), (sl v43)]), (.int .i64 r41.2.1), (.int .i64 r41.2.2.1), (.int .i64 r41.2.2.2)]) (Opd.t rfl) rfl) rfl rfl rfl rfl <| WL_op (Run_extract (vs := [(.agg #[(.int .i64 r41.1.op), (.int .i64 r41.1.n), (.int .i64 r41.1.at_), (sl v43)]), (.int .i64 r41.2.1), (.int .i64 r41.2.2.1), (.int .i64 r41.2.2.2)]) (Opd.t rfl) rfl) rfl rfl rfl rfl <| ?_
      refine WS_alloc (zs := [(.int .i64 0), (.int .i64 0), (.int .i64 0), (sl (none, 0, 0))]) hs ti24 rfl rfl ?_
      intro b46 w47 hs
      replace hs := Sat.n9 (Γ := Φ) hs rfl
      refine WS_store (us := [(.int .i64 r41.1.op), (.int .i64 r41.1.n), (.int .i64 r41.1.at_), (sl v43)]) (vs' := [(.int .i64 r41.1.op), (.int .i64 r41.1.n), (.int .i64 r41.1.at_), (sl v43)]) hs 0 rfl ti24 (Opd.t rfl) (Opd.t rfl) rfl rfl rfl rfl rfl ?_
      intro w48 hs
      replace hs := Sat.n9 (Γ := Φ) hs rfl
      refine WL_op (Run_assign (Opd.t rfl)) rfl rfl rfl rfl <| WL_op (Run_assign (Opd.t rfl)) rfl rfl rfl rfl <| WL_op (Run_assign (Opd.t rfl)) rfl rfl rfl rfl <| ?_
      refine WL_nil ?_
      refine At_then ?_
      refine WC_seq ?_
      refine WC_region ?_
      refine WL_op (Run_move (Opd.t rfl)) rfl rfl rfl rfl <| WL_op (Run_move (Opd.t rfl)) rfl rfl rfl rfl <| ?_
      obtain ⟨k52, hm⟩ := chk_some hm
      obtain ⟨v50, hv49, h51⟩ := SRd.cutS (A := RS) (M := Ctx.M _) (fun _ => hs.sl (i := 3) rfl) (fun _ => k52)
      refine WL_op (Run_cutSl (lo := none) (hi := (some (.const (.int .i64 0)))) Tryd.underlying40 ti9 (Opd.t rfl) (fun hg => (hs.sl (i := 3) rfl).len) rfl ⟨_, Opd.c⟩ hv49) rfl rfl rfl rfl <| ?_
      replace hs := hs.addS (h51 rfl)
      obtain ⟨r53, hr54, hm⟩ := bind_some' hm
      refine WL_call (f := 27) (first := []) (cap := []) (xs := [(.tmp 53), (.const (.int .i64 0)), (.tmp 55)]) (vs := [(sl v31), (.int .i64 0), (sl v50)]) (args := [(sl v31), (.int .i64 0), (sl v50)]) Tryd.call27 Opd.f (.cons (Opd.t rfl) (.cons Opd.c (.cons (Opd.t rfl) .nil))) rfl rfl (expr_Parse_ok (hs.re 10 [3, 0, 7, 8, 0, 1, 2, 3, 4, 5, 6, 7, 8, 9] rfl) hr54) ?_
      rintro _ w57 ⟨v55, R56, rfl, hs⟩
      replace hs := Sat.n11 (Γ := Φ) hs rfl
      refine WL_op (Run_move (Opd.t rfl)) rfl rfl rfl rfl <| WL_op (Run_extract (vs := [(.agg #[(.int .i64 r53.1.op), (.int .i64 r53.1.n), (.int .i64 r53.1.at_), (sl v55)]), (.int .i64 r53.2.1), (.int .i64 r53.2.2.1), (.int .i64 r53.2.2.2)]) (Opd.t rfl) rfl) rfl rfl rfl rfl <| WL_op (Run_extract (vs := [(.agg #[(.int .i64 r53.1.op), (.int .i64 r53.1.n), (.int .i64 r53.1.at_), (sl v55)]), (.int .i64 r53.2.1), (.int .i64 r53.2.2.1), (.int .i64 r53.2.2.2)]) (Opd.t rfl) rfl) rfl rfl rfl rfl <| WL_op (Run_extract (vs := [(.agg #[(.int .i64 r53.1.op), (.int .i64 r53.1.n), (.int .i64 r53.1.at_), (sl v55)]), (.int .i64 r53.2.1), (.int .i64 r53.2.2.1), (.int .i64 r53.2.2.2)]) (Opd.t rfl) rfl) rfl rfl rfl rfl <| WL_op (Run_extract (vs := [(.agg #[(.int .i64 r53.1.op), (.int .i64 r53.1.n), (.int .i64 r53.1.at_), (sl v55)]), (.int .i64 r53.2.1), (.int .i64 r53.2.2.1), (.int .i64 r53.2.2.2)]) (Opd.t rfl) rfl) rfl rfl rfl rfl <| ?_
      refine WS_alloc (zs := [(.int .i64 0), (.int .i64 0), (.int .i64 0), (sl (none, 0, 0))]) hs ti24 rfl rfl ?_
      intro b58 w59 hs
      replace hs := Sat.n12 (Γ := Φ) hs rfl
      refine WS_store (us := [(.int .i64 r53.1.op), (.int .i64 r53.1.n), (.int .i64 r53.1.at_), (sl v55)]) (vs' := [(.int .i64 r53.1.op), (.int .i64 r53.1.n), (.int .i64 r53.1.at_), (sl v55)]) hs 0 rfl ti24 (Opd.t rfl) (Opd.t rfl) rfl rfl rfl rfl rfl ?_
      intro w60 hs
      replace hs := Sat.n12 (Γ := Φ) hs rfl
      refine WL_op (Run_assign (Opd.t rfl)) rfl rfl rfl rfl <| WL_op (Run_assign (Opd.t rfl)) rfl rfl rfl rfl <| WL_op (Run_assign (Opd.t rfl)) rfl rfl rfl rfl <| ?_
      refine WL_nil ?_
      refine At_then ?_
      refine WC_seq ?_
      refine WC_region ?_
      refine WL_op (Run_assign Opd.c) rfl rfl rfl rfl <| ?_
      refine WL_nil ?_
      refine At_then ?_
      refine WC_seq ?_
      refine WC_seq ?_
      refine WC_region ?_
      refine WL_op (Run_assign Opd.c) rfl rfl rfl rfl <| ?_
      refine WL_nil ?_
      refine At_then ?_
      refine WC_block ?_
      refine WC_loop (σ := Int × Int) (γ := Unit) (F := (scrutinylaw13_ExprNames_L1 e r5 r29 r41 r53)) (N := FUEL) (s0 := ((-1), 0)) (r := r) (fun ⟨first62, i63⟩ (_ : Unit) w61 => Sat (box b3 24 [(.int .i64 e.op), (.int .i64 e.n), (.int .i64 e.at_), (sl v1)] :: imm (RSl RExpr) [sl v1] e.l :: imm (RSl (RP (RI .i64) (RP RS (RP (RI .i64) (RI .i64))))) [sl v31] r29.1 :: box b46 24 [(.int .i64 r41.1.op), (.int .i64 r41.1.n), (.int .i64 r41.1.at_), (sl v43)] :: osl RExpr 24 (sl v43) r41.1.l R44 :: gl 0 (keysL.map S) :: gl 1 (textsL.map S) :: gl 2 (pow10L.map (Value.int .u64)) :: Φ) w61) (fun ⟨first62, i63⟩ (_ : Unit) => [(1, true, (.pointer (some ⟨b3, 0, none⟩))), (3, true, (.bool r5)), (5, true, (sl v31)), (8, true, (.pointer (some ⟨b46, 0, none⟩))), (10, true, (.int .i64 r41.2.2.1)), (14, true, (.int .i64 r53.2.2.1)), (15, true, (.int .i64 r53.2.2.2)), (16, true, (.int .i64 first62)), (17, true, (.int .i64 i63))]) hm () (hs.re 12 [7, 8, 5, 3, 4, 9, 10, 11] rfl) rfl ?_
      rintro again64 ⟨first62, i63⟩ _ w61 hm hs
      unfold scrutinylaw13_ExprNames_L1 at hm
      dsimp only at hm
      refine WC_seq ?_
      refine WC_seq ?_
      refine WC_region ?_
      refine WL_op (Run_move (Opd.t rfl)) rfl rfl rfl rfl <| WL_op (Run_move (Opd.t rfl)) rfl rfl rfl rfl <| WL_op (Run_lenSlG Tryd.underlying44 (Opd.t rfl) (fun hg => (hs.sl (i := 2) rfl).len)) rfl rfl rfl rfl <| WL_op (Run_ltI (Opd.t rfl) (Opd.t rfl)) rfl rfl rfl rfl <| ?_
      refine WL_nil ?_
      refine At_then ?_
      refine WC_cond (Opd.t rfl) (fun hc65 => ?_) (fun hc65 => ?_)
      ·
        replace hm := bif_t hc65 hm
        refine WC_skip ?_
        refine At_then ?_
        refine WC_seq ?_
        refine WC_block ?_
        refine WC_seq ?_
        refine WC_region ?_
        refine WL_op (Run_move (Opd.t rfl)) rfl rfl rfl rfl <| WL_op (Run_move (Opd.t rfl)) rfl rfl rfl rfl <| ?_
        obtain ⟨e66, he67, hm⟩ := bind_some' hm
        refine WL_op (Run_idxAddr (p := (elA (sl v31) i63 4)) Tryd.underlying44 ti60 (Opd.t rfl) (Opd.t rfl) (fun hg => (SRd.atA (A := (RP (RI .i64) (RP RS (RP (RI .i64) (RI .i64))))) (v := (sl v31)) (hs.sl (i := 2) rfl) he67).1)) rfl rfl rfl rfl <| WL_op (Run_fieldAddr fo60_0 (Opd.t rfl)) rfl rfl rfl rfl <| WL_op (Run_load1 (v := (.int .i64 e66.1)) Tryd.underlying3 rfl (Opd.t rfl) (fun hg => ((SRd.cellsF (A := (RP (RI .i64) (RP RS (RP (RI .i64) (RI .i64))))) (v := (sl v31)) (hs.sl (i := 2) rfl) he67 (fun _ h => openT60 h)).sub (us := [(.int .i64 e66.1)]) 0 rfl).sub 0 rfl)) rfl rfl rfl rfl <| ?_
        obtain ⟨b68, e69, hm⟩ := letv_some hm
        refine WL_op (Run.eqB (Run_eqI (Opd.t rfl) Opd.c) e69) rfl rfl rfl rfl <| WL_op (Run_move (Opd.t rfl)) rfl rfl rfl rfl <| WL_opG rfl rfl rfl rfl guard_pos (Run_move (Opd.t rfl)) rfl rfl rfl <| WL_opG rfl rfl rfl rfl guard_pos (Run_move (Opd.t rfl)) rfl rfl rfl <| ?_
        obtain ⟨e70, he71, -, hm⟩ := callG_some hm
        refine WL_opG rfl rfl rfl rfl guard_pos (Run_idxAddr (p := (elA (sl v31) i63 4)) Tryd.underlying44 ti60 (Opd.g rfl id) (Opd.g rfl id) (fun hg => (SRd.atA (A := (RP (RI .i64) (RP RS (RP (RI .i64) (RI .i64))))) (v := (sl v31)) (hs.sl (i := 2) rfl) (he71 hg)).1)) rfl rfl rfl <| WL_opG rfl rfl rfl rfl guard_pos (Run_fieldAddr fo60_1 (Opd.g rfl id)) rfl rfl rfl <| WL_opG rfl rfl rfl rfl guard_pos (Run_load1 (v := (S e70.2.1)) Tryd.underlying9 rfl (Opd.g rfl id) (fun hg => ((SRd.cellsF (A := (RP (RI .i64) (RP RS (RP (RI .i64) (RI .i64))))) (v := (sl v31)) (hs.sl (i := 2) rfl) (he71 hg) (fun _ h => openT60 h)).sub (us := [(S e70.2.1)]) 1 rfl).sub 0 rfl)) rfl rfl rfl <| ?_
        obtain ⟨r72, hr73, -, hm⟩ := callG_some hm
        refine WL_callG rfl rfl rfl guard_pos (f := 13) (first := []) (cap := []) (xs := [(.tmp 78)]) (vs := [(S e70.2.1)]) (args := [(S e70.2.1)]) Tryd.call13 Opd.f (.cons (Opd.g rfl id) .nil) rfl rfl (fun hg => scrutinyref13_Key_ok (hs.re 8 [0, 1, 2, 3, 4, 5, 6, 7] rfl) (hr73 hg)) ?_
        intro v75 w74 hv76 hz77
        replace hs := Sat.ofG (fun hg => (hv76 hg).2.re 8 [0, 1, 2, 3, 4, 5, 6, 7] rfl) hz77 hs
        refine WL_sub1 (v := (.bool r72)) (fun hg => (hv76 hg).1) ?_
        replace hs := Sat.n8 (Γ := Φ) hs rfl
        obtain ⟨b78, e79, hm⟩ := letv_some hm
        refine WL_opG rfl rfl rfl rfl guard_pos (Run.eqB (Run_notB (Opd.g rfl id)) e79) rfl rfl rfl <| ?_
        obtain ⟨b80, e81, hm⟩ := letv_some hm
        refine WL_op (Run.eqB (Run_and (Opd.t rfl) (Opd.g rfl id)) e81) rfl rfl rfl rfl <| WL_op (Run_move (Opd.t rfl)) rfl rfl rfl rfl <| WL_opG rfl rfl rfl rfl guard_pos (Run_move (Opd.t rfl)) rfl rfl rfl <| ?_
        obtain ⟨b82, e83, hm⟩ := letv_some hm
        refine WL_opG rfl rfl rfl rfl guard_pos (Run.eqB (Run_ltI (Opd.g rfl id) Opd.c) e83) rfl rfl rfl <| ?_
        obtain ⟨b84, e85, hm⟩ := letv_some hm
        refine WL_op (Run.eqB (Run_and (Opd.t rfl) (Opd.g rfl id)) e85) rfl rfl rfl rfl <| ?_
        refine WL_nil ?_
        refine At_then ?_
        refine WC_cond (Opd.t rfl) (fun hc86 => ?_) (fun hc86 => ?_)
        ·
          replace hm := bif_t hc86 hm
          refine WC_region ?_
          refine WL_op (Run_move (Opd.t rfl)) rfl rfl rfl rfl <| WL_op (Run_move (Opd.t rfl)) rfl rfl rfl rfl <| ?_
          obtain ⟨e87, he88, hm⟩ := bind_some' hm
          refine WL_op (Run_idxAddr (p := (elA (sl v31) i63 4)) Tryd.underlying44 ti60 (Opd.t rfl) (Opd.t rfl) (fun hg => (SRd.atA (A := (RP (RI .i64) (RP RS (RP (RI .i64) (RI .i64))))) (v := (sl v31)) (hs.sl (i := 2) rfl) he88).1)) rfl rfl rfl rfl <| WL_op (Run_fieldAddr fo60_3 (Opd.t rfl)) rfl rfl rfl rfl <| WL_op (Run_load1 (v := (.int .i64 e87.2.2.2)) Tryd.underlying3 rfl (Opd.t rfl) (fun hg => ((SRd.cellsF (A := (RP (RI .i64) (RP RS (RP (RI .i64) (RI .i64))))) (v := (sl v31)) (hs.sl (i := 2) rfl) he88 (fun _ h => openT60 h)).sub (us := [(.int .i64 e87.2.2.2)]) 3 rfl).sub 0 rfl)) rfl rfl rfl rfl <| WL_op (Run_assign (Opd.t rfl)) rfl rfl rfl rfl <| ?_
          refine WL_nil ?_
          refine At_blk_normal ?_
          refine At_then ?_
          refine WC_region ?_
          refine WL_op (Run_move (Opd.t rfl)) rfl rfl rfl rfl <| WL_op (Run_add (Opd.t rfl) Opd.c) rfl rfl rfl rfl <| WL_op (Run_assign (Opd.t rfl)) rfl rfl rfl rfl <| ?_
          refine WL_nil ?_
          exact At_again (e87.2.2.2, (IntKind.i64.wrap (i63 + 1))) () hm (hs.re 8 [0, 1, 2, 3, 4, 5, 6, 7] rfl) rfl
        ·
          replace hm := bif_f hc86 hm
          refine WC_skip ?_
          refine At_blk_normal ?_
          refine At_then ?_
          refine WC_region ?_
          refine WL_op (Run_move (Opd.t rfl)) rfl rfl rfl rfl <| WL_op (Run_add (Opd.t rfl) Opd.c) rfl rfl rfl rfl <| WL_op (Run_assign (Opd.t rfl)) rfl rfl rfl rfl <| ?_
          refine WL_nil ?_
          exact At_again (first62, (IntKind.i64.wrap (i63 + 1))) () hm (hs.re 8 [0, 1, 2, 3, 4, 5, 6, 7] rfl) rfl
      ·
        replace hm := bif_f hc65 hm
        refine WC_exit ?_
        refine At_then_exit <| At_then_exit <| At_blk_here <| ?_
        refine At_then ?_
        refine WC_seq ?_
        refine WC_region ?_
        refine WL_op (Run_move (Opd.t rfl)) rfl rfl rfl rfl <| WL_op (Run_move (Opd.t rfl)) rfl rfl rfl rfl <| WL_opG rfl rfl rfl rfl guard_pos (Run_move (Opd.t rfl)) rfl rfl rfl <| ?_
        obtain ⟨b89, e90, hm⟩ := letv_some hm
        refine WL_opG rfl rfl rfl rfl guard_pos (Run.eqB (Run_eqI (Opd.g rfl id) Opd.c) e90) rfl rfl rfl <| ?_
        obtain ⟨b91, e92, hm⟩ := letv_some hm
        refine WL_op (Run.eqB (Run_and (Opd.t rfl) (Opd.g rfl id)) e92) rfl rfl rfl rfl <| WL_op (Run_move (Opd.t rfl)) rfl rfl rfl rfl <| WL_opG rfl rfl rfl rfl guard_pos (Run_loadA (vs := [(.int .i64 r41.1.op), (.int .i64 r41.1.n), (.int .i64 r41.1.at_), (sl v43)]) Tryd.underlying24 rfl ti24 (Opd.t rfl) (fun _ => (hs.box (i := 3) rfl).part 0 rfl) rfl) rfl rfl rfl <| WL_opG rfl rfl rfl rfl guard_pos (Run_loadA (vs := [(.int .i64 e.op), (.int .i64 e.n), (.int .i64 e.at_), (sl v1)]) Tryd.underlying24 rfl ti24 (Opd.t rfl) (fun _ => (hs.box (i := 0) rfl).part 0 rfl) rfl) rfl rfl rfl <| ?_
        replace hs := hs.freeze (i := 4) rfl
        obtain ⟨r93, hr94, -, hm⟩ := callG_some hm
        refine WL_callG rfl rfl rfl guard_pos (f := 15) (first := []) (cap := []) (xs := [(.tmp 97), (.tmp 98)]) (vs := [(.agg #[(.int .i64 r41.1.op), (.int .i64 r41.1.n), (.int .i64 r41.1.at_), (sl v43)]), (.agg #[(.int .i64 e.op), (.int .i64 e.n), (.int .i64 e.at_), (sl v1)])]) (args := [(.agg #[(.int .i64 r41.1.op), (.int .i64 r41.1.n), (.int .i64 r41.1.at_), (sl v43)]), (.agg #[(.int .i64 e.op), (.int .i64 e.n), (.int .i64 e.at_), (sl v1)])]) Tryd.call15 Opd.f (.cons (Opd.g rfl id) (.cons (Opd.g rfl id) .nil)) rfl rfl (fun hg => scrutinyref13_Same_ok (hs.re 8 [4, 1, 0, 1, 2, 3, 4, 5, 6, 7] rfl) (hr94 hg)) ?_
        intro v96 w95 hv97 hz98
        replace hs := Sat.ofG (fun hg => (hv97 hg).2.re 8 [0, 1, 2, 3, 4, 5, 6, 7] rfl) hz98 hs
        refine WL_sub1 (v := (.bool r93)) (fun hg => (hv97 hg).1) ?_
        replace hs := Sat.n8 (Γ := Φ) hs rfl
        obtain ⟨b99, e100, hm⟩ := letv_some hm
        refine WL_op (Run.eqB (Run_and (Opd.t rfl) (Opd.g rfl id)) e100) rfl rfl rfl rfl <| WL_op (Run_move (Opd.t rfl)) rfl rfl rfl rfl <| WL_opG rfl rfl rfl rfl guard_pos (Run_move (Opd.t rfl)) rfl rfl rfl <| ?_
        obtain ⟨b101, e102, hm⟩ := letv_some hm
        refine WL_opG rfl rfl rfl rfl guard_pos (Run.eqB (Run_eqI (Opd.g rfl id) Opd.c) e102) rfl rfl rfl <| WL_opG rfl rfl rfl rfl guard_pos (Run_move (Opd.t rfl)) rfl rfl rfl <| ?_
        obtain ⟨b103, e104, hm⟩ := letv_some hm
        refine WL_opG rfl rfl rfl rfl guard_pos (Run.eqB (Run_geI (Opd.g rfl id) Opd.c) e104) rfl rfl rfl <| ?_
        obtain ⟨b105, e106, hm⟩ := letv_some hm
        refine WL_opG rfl rfl rfl rfl guard_pos (Run.eqB (Run_eqB Tryd.underlying4 (Opd.g rfl id) (Opd.g rfl id)) e106) rfl rfl rfl <| ?_
        obtain ⟨b107, e108, hm⟩ := letv_some hm
        refine WL_op (Run.eqB (Run_and (Opd.t rfl) (Opd.g rfl id)) e108) rfl rfl rfl rfl <| WL_op (Run_move (Opd.t rfl)) rfl rfl rfl rfl <| WL_opG rfl rfl rfl rfl guard_pos (Run_move (Opd.t rfl)) rfl rfl rfl <| ?_
        obtain ⟨b109, e110, hm⟩ := letv_some hm
        refine WL_opG rfl rfl rfl rfl guard_pos (Run.eqB (Run_ltI (Opd.g rfl id) Opd.c) e110) rfl rfl rfl <| WL_opG rfl rfl rfl rfl guard_pos (Run_move (Opd.g rfl id)) rfl rfl rfl <| WL_opG rfl rfl rfl rfl guard_neg' (Run_move (Opd.t rfl)) rfl rfl rfl <| WL_opG rfl rfl rfl rfl guard_neg' (Run_move (Opd.t rfl)) rfl rfl rfl <| ?_
        obtain ⟨b111, e112, hm⟩ := letv_some hm
        refine WL_opG rfl rfl rfl rfl guard_neg' (Run.eqB (Run_eqI (Opd.g rfl id) (Opd.g rfl id)) e112) rfl rfl rfl <| ?_
        obtain ⟨b113, e114, hm⟩ := letv_some hm
        refine WL_opG rfl rfl rfl rfl guard_pos (Run.eqB (Run_or (Opd.g rfl id) (Opd.g rfl id)) e114) rfl rfl rfl <| ?_
        obtain ⟨b115, e116, hm⟩ := letv_some hm
        refine WL_op (Run.eqB (Run_and (Opd.t rfl) (Opd.g rfl id)) e116) rfl rfl rfl rfl <| WL_op (Run_assign (Opd.t rfl)) rfl rfl rfl rfl <| ?_
        refine WL_nil ?_
        refine At_then ?_
        refine WC_ret ?_
        refine At_r1 rfl (ResIs.t rfl) ?_
        cases hm
        exact ⟨rfl, (hs.re 8 [] rfl)⟩

end Go.Proofs.YtmeombbmhpcacaaDoor
