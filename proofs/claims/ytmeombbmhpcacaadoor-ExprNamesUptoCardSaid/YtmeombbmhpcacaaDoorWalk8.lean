/- Printed by a program: the walks. -/
import Derived.Test.YtmeombbmhpcacaaDoorWalk7
namespace Go.Proofs.YtmeombbmhpcacaaDoor
open Go.Proofs

set_option maxRecDepth 100000 in
set_option maxHeartbeats 4000000 in
theorem expr_Parse_ok {Φ : Ctx} {w : World} {l : (List (Int × Str × Int × Int))} {at_ : Int} {names : (List Str)} {v1 : SLV} {v3 : SLV} {r : (Ex × Int × Int × Int)} (hs : Sat (imm (RSl (RP (RI .i64) (RP RS (RP (RI .i64) (RI .i64))))) [sl v1] l :: imm (RSl RS) [sl v3] names :: gl 0 (keysL.map S) :: gl 1 (textsL.map S) :: Φ) w) (hm : expr_Parse l at_ names = some r) :
    CallsR Tryd.prog 27 [(sl v1), (.int .i64 at_), (sl v3)] w (fun v w' => ∃ v4 : SLV, ∃ R5 : List Nat, v = (.tuple #[(.agg #[(.int .i64 r.1.op), (.int .i64 r.1.n), (.int .i64 r.1.at_), (sl v4)]), (.int .i64 r.2.1), (.int .i64 r.2.2.1), (.int .i64 r.2.2.2)]) ∧ Sat (osl RExpr 24 (sl v4) r.1.l R5 :: Φ) w') := by
  refine CallsX_enter Tryd.func27 rfl Tryd.ntmps27 rfl ?_
  unfold expr_Parse at hm
  refine WC_seq ?_
  refine WC_region ?_
  refine WS_alloc (zs := [(.int .i64 0), (.int .i64 0), (.int .i64 0), (sl (none, 0, 0))]) hs ti24 rfl rfl ?_
  intro b9 w10 hs
  replace hs := Sat.n5 (Γ := Φ) hs rfl
  refine WL_op (Run_assign Opd.c) rfl rfl rfl rfl <| WL_op (Run_assign Opd.c) rfl rfl rfl rfl <| WL_op (Run_assign Opd.c) rfl rfl rfl rfl <| ?_
  refine WL_nil ?_
  refine At_then ?_
  refine WC_seq ?_
  refine WC_region ?_
  refine WL_op (Run_move (Opd.t rfl)) rfl rfl rfl rfl <| WL_op (Run_move (Opd.t rfl)) rfl rfl rfl rfl <| WL_op (Run_move (Opd.t rfl)) rfl rfl rfl rfl <| WL_op (Run_build (parts := [(0, (.tmp 12)), (1, (.tmp 13)), (2, (.tmp 14))]) (v := (.agg #[(sl v1), (.int .i64 at_), (sl v3), (.int .i64 0), (.int .i64 0), (.int .i64 0)])) (.cons (Opd.t rfl) (.cons (Opd.t rfl) (.cons (Opd.t rfl) .nil))) (fun _ => by kernel_rfl)) rfl rfl rfl rfl <| ?_
  refine WS_box (zs := [(sl v1), (.int .i64 at_), (sl v3), (.int .i64 0), (.int .i64 0), (.int .i64 0)]) hs (Opd.t rfl) rfl rfl ?_
  intro b11 w12 hs
  replace hs := Sat.n6 (Γ := Φ) hs rfl
  refine WL_op (Run_assign (Opd.t rfl)) rfl rfl rfl rfl <| ?_
  refine WL_nil ?_
  refine At_then ?_
  refine WC_seq ?_
  refine WC_region ?_
  refine WL_op (Run_move (Opd.t rfl)) rfl rfl rfl rfl <| ?_
  obtain ⟨r13, hr14, hm⟩ := bind_some' hm
  refine WL_call (f := 42) (first := []) (cap := []) (xs := [(.tmp 17), (.func 43)]) (vs := [(.pointer (some ⟨b11, 0, none⟩)), (.func (.func 43) #[] #[])]) (args := [(.pointer (some ⟨b11, 0, none⟩)), (.func (.func 43) #[] #[])]) Tryd.call42 Opd.f (.cons (Opd.t rfl) (.cons Opd.f .nil)) rfl rfl (expr_read_lower_ok (hs.re 6 [0, 2, 3, 4, 5, 1, 2, 3, 4, 5] rfl) hr14) ?_
  rintro _ w17 ⟨v15, R16, rfl, hs⟩
  replace hs := Sat.n9 (Γ := Φ) hs rfl
  refine WS_alloc (zs := [(.int .i64 0), (.int .i64 0), (.int .i64 0), (sl (none, 0, 0))]) hs ti24 rfl rfl ?_
  intro b18 w19 hs
  replace hs := Sat.n10 (Γ := Φ) hs rfl
  refine WS_store (us := [(.int .i64 r13.1.op), (.int .i64 r13.1.n), (.int .i64 r13.1.at_), (sl v15)]) (vs' := [(.int .i64 r13.1.op), (.int .i64 r13.1.n), (.int .i64 r13.1.at_), (sl v15)]) hs 0 rfl ti24 (Opd.t rfl) (Opd.t rfl) rfl rfl rfl rfl rfl ?_
  intro w20 hs
  replace hs := Sat.n10 (Γ := Φ) hs rfl
  refine WL_nil ?_
  refine At_then ?_
  refine WC_seq ?_
  refine WC_seq ?_
  refine WC_region ?_
  refine WL_op (Run_move (Opd.t rfl)) rfl rfl rfl rfl <| WL_op (Run_nilP (Opd.t rfl)) rfl rfl rfl rfl <| WL_op (Run_fieldAddr fo71_4 (Opd.t rfl)) rfl rfl rfl rfl <| WL_op (Run_load1 (v := (.int .i64 r13.2.2.2.1)) Tryd.underlying34 rfl (Opd.t rfl) (fun _ => (hs.box (i := 2) rfl).part 4 rfl)) rfl rfl rfl rfl <| WL_op (Run_neI (Opd.t rfl) Opd.c) rfl rfl rfl rfl <| ?_
  refine WL_nil ?_
  refine At_then ?_
  refine WC_cond (Opd.t rfl) (fun hc21 => ?_) (fun hc21 => ?_)
  ·
    replace hm := bif_t hc21 hm
    refine WC_seq ?_
    refine WC_region_mixed [0, 0, 2, 4, 8, 0, 32, 64, 128, 1, 513, 1567, 4095] (.q 0 0 (.q 1 1 (.q 2 3 (.q 3 7 (.q 4 15 (.q 5 31 (.q 6 63 (.q 7 127 (.q 8 255 (.l 9 511 (.q 10 1023 (.q 11 2047 (.q 12 4095 .nil))))))))))))) (by kernel_rfl) (by kernel_rfl) ?_
    intro w22 hx23
    replace hs := hs.ext hx23
    refine WD_pure (fun _ => (Run_build (parts := []) (v := (.agg #[(.int .i64 0), (.int .i64 0), (.int .i64 0), (sl (none, 0, 0))])) .nil (fun _ => by kernel_rfl))) rfl rfl rfl rfl <| WD_pure (fun _ => (Run_move (Opd.t rfl))) rfl rfl rfl rfl <| WD_pure (fun _ => (Run_nilP (Opd.t rfl))) rfl rfl rfl rfl <| WD_pure (fun _ => (Run_fieldAddr fo71_4 (Opd.t rfl))) rfl rfl rfl rfl <| WD_op (fun w => CellsAt w ⟨b11, 4, none⟩ [(.int .i64 r13.2.2.2.1)]) ((hs.box (i := 2) rfl).part 4 rfl) (fun _ hJ => (Run_load1 (v := (.int .i64 r13.2.2.2.1)) Tryd.underlying34 rfl (Opd.t rfl) (fun _ => hJ))) rfl rfl rfl rfl <| WD_pure (fun _ => (Run_move (Opd.t rfl))) rfl rfl rfl rfl <| WD_pure (fun _ => (Run_nilP (Opd.t rfl))) rfl rfl rfl rfl <| WD_pure (fun _ => (Run_fieldAddr fo71_5 (Opd.t rfl))) rfl rfl rfl rfl <| ?_
    refine WD_op (fun w => CellsAt w ⟨b11, 5, none⟩ [(.int .i64 r13.2.2.2.2)]) ((hs.box (i := 2) rfl).part 5 rfl) (fun _ hJ => (Run_load1 (v := (.int .i64 r13.2.2.2.2)) Tryd.underlying3 rfl (Opd.t rfl) (fun _ => hJ))) rfl rfl rfl rfl <| ?_
    refine WD_loud (pend' := [(8, fun w => CellsAt w ⟨b11, 5, none⟩ [(.int .i64 r13.2.2.2.2)]), (4, fun w => CellsAt w ⟨b11, 4, none⟩ [(.int .i64 r13.2.2.2.1)])]) rfl (by kernel_rfl) ?_
    refine WS_store (us := [(.int .i64 0), (.int .i64 0), (.int .i64 0), (sl (none, 0, 0))]) (vs' := [(.int .i64 0), (.int .i64 0), (.int .i64 0), (sl (none, 0, 0))]) hs 5 rfl ti24 (Opd.t rfl) (Opd.t rfl) rfl rfl rfl rfl rfl ?_
    intro w24 hs
    replace hs := Sat.n10 (Γ := Φ) hs rfl
    refine WL_nil ?_
    refine At_QK (allJ_cons ((hs.box (i := 2) rfl).part 5 rfl) (allJ_cons ((hs.box (i := 2) rfl).part 4 rfl) allJ_nil)) ?_
    refine WD_pure (fun _ => (Run_assign Opd.c)) rfl rfl rfl rfl <| WD_pure (fun _ => (Run_assign (Opd.t rfl))) rfl rfl rfl rfl <| WD_pure (fun _ => (Run_assign (Opd.t rfl))) rfl rfl rfl rfl <| ?_
    refine WD_nil ?_
    refine At_then ?_
    refine WC_ret ?_
    refine At_then_ret <| ?_
    refine At_r4 rfl (ResIs.cA (vs := [(.int .i64 0), (.int .i64 0), (.int .i64 0), (sl (none, 0, 0))]) rfl Tryd.underlying24 rfl ti24 ((hs.box (i := 5) rfl).part 0 rfl) rfl) (ResIs.t rfl) (ResIs.t rfl) (ResIs.t rfl) ?_
    replace hs := hs.addNil RExpr 24
    cases hm
    exact ⟨(none, 0, 0), [], rfl, (hs.re 11 [0] rfl)⟩
  ·
    replace hm := bif_f hc21 hm
    refine WC_skip ?_
    refine At_then ?_
    refine WC_seq ?_
    refine WC_region_mixed [0, 0, 2, 4, 8, 1, 63, 127, 255] (.q 0 0 (.q 1 1 (.q 2 3 (.q 3 7 (.q 4 15 (.l 5 31 (.q 6 63 (.q 7 127 (.q 8 255 .nil))))))))) (by kernel_rfl) (by kernel_rfl) ?_
    intro w25 hx26
    replace hs := hs.ext hx26
    refine WD_op (fun w => CellsAt w ⟨b18, 0, none⟩ [(.int .i64 r13.1.op), (.int .i64 r13.1.n), (.int .i64 r13.1.at_), (sl v15)]) ((hs.box (i := 0) rfl).part 0 rfl) (fun _ hJ => (Run_loadA (vs := [(.int .i64 r13.1.op), (.int .i64 r13.1.n), (.int .i64 r13.1.at_), (sl v15)]) Tryd.underlying24 rfl ti24 (Opd.t rfl) (fun _ => hJ) rfl)) rfl rfl rfl rfl <| WD_pure (fun _ => (Run_move (Opd.t rfl))) rfl rfl rfl rfl <| WD_pure (fun _ => (Run_nilP (Opd.t rfl))) rfl rfl rfl rfl <| WD_pure (fun _ => (Run_fieldAddr fo71_1 (Opd.t rfl))) rfl rfl rfl rfl <| WD_op (fun w => CellsAt w ⟨b11, 1, none⟩ [(.int .i64 r13.2.1)]) ((hs.box (i := 2) rfl).part 1 rfl) (fun _ hJ => (Run_load1 (v := (.int .i64 r13.2.1)) Tryd.underlying3 rfl (Opd.t rfl) (fun _ => hJ))) rfl rfl rfl rfl <| ?_
    refine WD_loud (pend' := [(4, fun w => CellsAt w ⟨b11, 1, none⟩ [(.int .i64 r13.2.1)])]) rfl (by kernel_rfl) ?_
    refine WS_store (us := [(.int .i64 r13.1.op), (.int .i64 r13.1.n), (.int .i64 r13.1.at_), (sl v15)]) (vs' := [(.int .i64 r13.1.op), (.int .i64 r13.1.n), (.int .i64 r13.1.at_), (sl v15)]) hs 5 rfl ti24 (Opd.t rfl) (Opd.t rfl) rfl rfl rfl rfl rfl ?_
    intro w27 hs
    replace hs := Sat.n10 (Γ := Φ) hs rfl
    refine WL_nil ?_
    refine At_QK (allJ_cons ((hs.box (i := 2) rfl).part 1 rfl) allJ_nil) ?_
    refine WD_pure (fun _ => (Run_assign (Opd.t rfl))) rfl rfl rfl rfl <| WD_pure (fun _ => (Run_assign Opd.c)) rfl rfl rfl rfl <| WD_pure (fun _ => (Run_assign Opd.c)) rfl rfl rfl rfl <| ?_
    refine WD_nil ?_
    refine At_then ?_
    refine WC_ret ?_
    refine At_r4 rfl (ResIs.cA (vs := [(.int .i64 r13.1.op), (.int .i64 r13.1.n), (.int .i64 r13.1.at_), (sl v15)]) rfl Tryd.underlying24 rfl ti24 ((hs.box (i := 5) rfl).part 0 rfl) rfl) (ResIs.t rfl) (ResIs.t rfl) (ResIs.t rfl) ?_
    cases hm
    exact ⟨v15, R16, rfl, (hs.re 10 [1] rfl)⟩

set_option maxRecDepth 100000 in
set_option maxHeartbeats 4000000 in
theorem scrutinylaw13_parsed_ok {Φ : Ctx} {w : World} {text : Str} {r : (Ex × Int × Int × Int)} (hs : Sat (gl 0 (keysL.map S) :: gl 1 (textsL.map S) :: Φ) w) (hm : scrutinylaw13_parsed text = some r) :
    CallsR Tryd.prog 31 [(S text)] w (fun v w' => ∃ v3 : SLV, ∃ R4 : List Nat, v = (.tuple #[(.agg #[(.int .i64 r.1.op), (.int .i64 r.1.n), (.int .i64 r.1.at_), (sl v3)]), (.int .i64 r.2.1), (.int .i64 r.2.2.1), (.int .i64 r.2.2.2)]) ∧ Sat (osl RExpr 24 (sl v3) r.1.l R4 :: Φ) w') := by
  refine CallsX_enter Tryd.func31 rfl Tryd.ntmps31 rfl ?_
  unfold scrutinylaw13_parsed at hm
  refine WC_seq ?_
  refine WC_region ?_
  refine WS_alloc (zs := [(.int .i64 0), (.int .i64 0), (.int .i64 0), (sl (none, 0, 0))]) hs ti24 rfl rfl ?_
  intro b8 w9 hs
  replace hs := Sat.n3 (Γ := Φ) hs rfl
  refine WL_op (Run_assign Opd.c) rfl rfl rfl rfl <| WL_op (Run_assign Opd.c) rfl rfl rfl rfl <| WL_op (Run_assign Opd.c) rfl rfl rfl rfl <| ?_
  refine WL_nil ?_
  refine At_then ?_
  refine WC_seq ?_
  refine WC_region ?_
  refine WL_op (Run_move (Opd.t rfl)) rfl rfl rfl rfl <| ?_
  obtain ⟨r10, hr11, hm⟩ := bind_some' hm
  refine WL_call (f := 26) (first := []) (cap := []) (xs := [(.tmp 10)]) (vs := [(S text)]) (args := [(S text)]) Tryd.call26 Opd.f (.cons (Opd.t rfl) .nil) rfl rfl (scrutinyref12_Tokens_ok (hs.re 3 [0, 1, 2] rfl) hr11) ?_
  rintro _ w14 ⟨v12, R13, rfl, hs⟩
  replace hs := Sat.n4 (Γ := Φ) hs rfl
  refine WL_op (Run_move (Opd.t rfl)) rfl rfl rfl rfl <| WL_op (Run_extract (vs := [(sl v12), (.int .i64 r10.2.1), (.int .i64 r10.2.2)]) (Opd.t rfl) rfl) rfl rfl rfl rfl <| WL_op (Run_extract (vs := [(sl v12), (.int .i64 r10.2.1), (.int .i64 r10.2.2)]) (Opd.t rfl) rfl) rfl rfl rfl rfl <| WL_op (Run_extract (vs := [(sl v12), (.int .i64 r10.2.1), (.int .i64 r10.2.2)]) (Opd.t rfl) rfl) rfl rfl rfl rfl <| WL_op (Run_assign (Opd.t rfl)) rfl rfl rfl rfl <| WL_op (Run_assign (Opd.t rfl)) rfl rfl rfl rfl <| WL_op (Run_assign (Opd.t rfl)) rfl rfl rfl rfl <| ?_
  refine WL_nil ?_
  refine At_then ?_
  refine WC_seq ?_
  refine WC_seq ?_
  refine WC_region ?_
  refine WL_op (Run_move (Opd.t rfl)) rfl rfl rfl rfl <| WL_op (Run_lenSlG Tryd.underlying44 (Opd.t rfl) (fun _ => (hs.own (i := 0) rfl).len)) rfl rfl rfl rfl <| WL_op (Run_eqI (Opd.t rfl) Opd.c) rfl rfl rfl rfl <| ?_
  refine WL_nil ?_
  refine At_then ?_
  refine WC_cond (Opd.t rfl) (fun hc15 => ?_) (fun hc15 => ?_)
  ·
    replace hm := bif_t hc15 hm
    refine WC_seq ?_
    refine WC_region ?_
    refine WL_op (Run_build (parts := []) (v := (.agg #[(.int .i64 0), (.int .i64 0), (.int .i64 0), (sl (none, 0, 0))])) .nil (fun _ => by kernel_rfl)) rfl rfl rfl rfl <| ?_
    refine WS_store (us := [(.int .i64 0), (.int .i64 0), (.int .i64 0), (sl (none, 0, 0))]) (vs' := [(.int .i64 0), (.int .i64 0), (.int .i64 0), (sl (none, 0, 0))]) hs 1 rfl ti24 (Opd.t rfl) (Opd.t rfl) rfl rfl rfl rfl rfl ?_
    intro w16 hs
    replace hs := Sat.n4 (Γ := Φ) hs rfl
    refine WL_op (Run_assign Opd.c) rfl rfl rfl rfl <| WL_op (Run_assign Opd.c) rfl rfl rfl rfl <| WL_op (Run_assign Opd.c) rfl rfl rfl rfl <| ?_
    refine WL_nil ?_
    refine At_then ?_
    refine WC_ret ?_
    refine At_then_ret <| ?_
    refine At_r4 rfl (ResIs.cA (vs := [(.int .i64 0), (.int .i64 0), (.int .i64 0), (sl (none, 0, 0))]) rfl Tryd.underlying24 rfl ti24 ((hs.box (i := 1) rfl).part 0 rfl) rfl) (ResIs.t rfl) (ResIs.t rfl) (ResIs.t rfl) ?_
    replace hs := hs.addNil RExpr 24
    cases hm
    exact ⟨(none, 0, 0), [], rfl, (hs.re 5 [0] rfl)⟩
  ·
    replace hm := bif_f hc15 hm
    refine WC_skip ?_
    refine At_then ?_
    refine WC_seq ?_
    refine WC_region ?_
    refine WL_op (Run_move (Opd.t rfl)) rfl rfl rfl rfl <| ?_
    obtain ⟨r17, hr18, hm⟩ := bind_some' hm
    refine WL_call (f := 22) (first := []) (cap := []) (xs := []) (vs := []) (args := []) Tryd.call22 Opd.f .nil rfl rfl (scrutinylaw13_names_ok (hs.re 4 [0, 1, 2, 3] rfl) hr18) ?_
    rintro _ w21 ⟨v19, R20, rfl, hs⟩
    replace hs := Sat.n5 (Γ := Φ) hs rfl
    replace hs := hs.freeze (i := 1) rfl
    replace hs := hs.freeze (i := 0) rfl
    obtain ⟨r22, hr23, hm⟩ := bind_some' hm
    refine WL_call (f := 27) (first := []) (cap := []) (xs := [(.tmp 19), (.const (.int .i64 0)), (.tmp 20)]) (vs := [(sl v12), (.int .i64 0), (sl v19)]) (args := [(sl v12), (.int .i64 0), (sl v19)]) Tryd.call27 Opd.f (.cons (Opd.t rfl) (.cons Opd.c (.cons (Opd.t rfl) .nil))) rfl rfl (expr_Parse_ok (hs.re 5 [1, 0, 3, 4, 0, 1, 2, 3, 4] rfl) hr23) ?_
    rintro _ w26 ⟨v24, R25, rfl, hs⟩
    replace hs := Sat.n6 (Γ := Φ) hs rfl
    refine WL_op (Run_extract (vs := [(.agg #[(.int .i64 r22.1.op), (.int .i64 r22.1.n), (.int .i64 r22.1.at_), (sl v24)]), (.int .i64 r22.2.1), (.int .i64 r22.2.2.1), (.int .i64 r22.2.2.2)]) (Opd.t rfl) rfl) rfl rfl rfl rfl <| WL_op (Run_extract (vs := [(.agg #[(.int .i64 r22.1.op), (.int .i64 r22.1.n), (.int .i64 r22.1.at_), (sl v24)]), (.int .i64 r22.2.1), (.int .i64 r22.2.2.1), (.int .i64 r22.2.2.2)]) (Opd.t rfl) rfl) rfl rfl rfl rfl <| WL_op (Run_extract (vs := [(.agg #[(.int .i64 r22.1.op), (.int .i64 r22.1.n), (.int .i64 r22.1.at_), (sl v24)]), (.int .i64 r22.2.1), (.int .i64 r22.2.2.1), (.int .i64 r22.2.2.2)]) (Opd.t rfl) rfl) rfl rfl rfl rfl <| WL_op (Run_extract (vs := [(.agg #[(.int .i64 r22.1.op), (.int .i64 r22.1.n), (.int .i64 r22.1.at_), (sl v24)]), (.int .i64 r22.2.1), (.int .i64 r22.2.2.1), (.int .i64 r22.2.2.2)]) (Opd.t rfl) rfl) rfl rfl rfl rfl <| ?_
    refine WS_store (us := [(.int .i64 r22.1.op), (.int .i64 r22.1.n), (.int .i64 r22.1.at_), (sl v24)]) (vs' := [(.int .i64 r22.1.op), (.int .i64 r22.1.n), (.int .i64 r22.1.at_), (sl v24)]) hs 3 rfl ti24 (Opd.t rfl) (Opd.t rfl) rfl rfl rfl rfl rfl ?_
    intro w27 hs
    replace hs := Sat.n6 (Γ := Φ) hs rfl
    refine WL_op (Run_assign (Opd.t rfl)) rfl rfl rfl rfl <| WL_op (Run_assign (Opd.t rfl)) rfl rfl rfl rfl <| WL_op (Run_assign (Opd.t rfl)) rfl rfl rfl rfl <| ?_
    refine WL_nil ?_
    refine At_then ?_
    refine WC_ret ?_
    refine At_r4 rfl (ResIs.cA (vs := [(.int .i64 r22.1.op), (.int .i64 r22.1.n), (.int .i64 r22.1.at_), (sl v24)]) rfl Tryd.underlying24 rfl ti24 ((hs.box (i := 3) rfl).part 0 rfl) rfl) (ResIs.t rfl) (ResIs.t rfl) (ResIs.t rfl) ?_
    cases hm
    exact ⟨v24, R25, rfl, (hs.re 6 [0] rfl)⟩

set_option maxRecDepth 100000 in
set_option maxHeartbeats 4000000 in
theorem expr_Type_F_ok {k_expr_Type : Ex → Option (Int × Int × Int)} (ih_expr_Type : ∀ {Φ : Ctx} {w : World} {e : Ex} {v1 : SLV} {r : (Int × Int × Int)}, Sat (imm (RSl RExpr) [sl v1] e.l :: Φ) w → k_expr_Type e = some r → CallsR Tryd.prog 19 [(.agg #[(.int .i64 e.op), (.int .i64 e.n), (.int .i64 e.at_), (sl v1)])] w (fun v w' => v = (.tuple #[(.int .i64 r.1), (.int .i64 r.2.1), (.int .i64 r.2.2)]) ∧ Sat (Φ) w')) {Φ : Ctx} {w : World} {e : Ex} {v1 : SLV} {r : (Int × Int × Int)} (hs : Sat (imm (RSl RExpr) [sl v1] e.l :: Φ) w) (hm : expr_Type_F k_expr_Type e = some r) :
    CallsR Tryd.prog 19 [(.agg #[(.int .i64 e.op), (.int .i64 e.n), (.int .i64 e.at_), (sl v1)])] w (fun v w' => v = (.tuple #[(.int .i64 r.1), (.int .i64 r.2.1), (.int .i64 r.2.2)]) ∧ Sat (Φ) w') := by
  refine CallsX_enter Tryd.func19 rfl Tryd.ntmps19 rfl ?_
  unfold expr_Type_F at hm
  refine WC_seq ?_
  refine WC_region ?_
  refine WS_box (zs := [(.int .i64 e.op), (.int .i64 e.n), (.int .i64 e.at_), (sl v1)]) hs (Opd.t rfl) rfl rfl ?_
  intro b5 w6 hs
  replace hs := Sat.n2 (Γ := Φ) hs rfl
  refine WL_op (Run_assign Opd.c) rfl rfl rfl rfl <| WL_op (Run_assign Opd.c) rfl rfl rfl rfl <| WL_op (Run_assign Opd.c) rfl rfl rfl rfl <| ?_
  refine WL_nil ?_
  refine At_then ?_
  refine WC_seq ?_
  refine WC_region ?_
  refine WL_op (Run_assign Opd.c) rfl rfl rfl rfl <| WL_op (Run_assign Opd.c) rfl rfl rfl rfl <| WL_op (Run_assign Opd.c) rfl rfl rfl rfl <| ?_
  refine WL_nil ?_
  refine At_then ?_
  refine WC_seq ?_
  refine WC_seq ?_
  refine WC_region ?_
  refine WL_op (Run_fieldAddr fo24_3 (Opd.t rfl)) rfl rfl rfl rfl <| WL_op (Run_load1 (v := (sl v1)) Tryd.underlying22 rfl (Opd.t rfl) (fun _ => (hs.box (i := 0) rfl).part 3 rfl)) rfl rfl rfl rfl <| WL_op (Run_lenSlG Tryd.underlying22 (Opd.t rfl) (fun hg => (hs.sl (i := 1) rfl).len)) rfl rfl rfl rfl <| WL_op (Run_move Opd.c) rfl rfl rfl rfl <| ?_
  refine WL_nil ?_
  refine At_then ?_
  refine WC_block ?_
  refine WC_loop (σ := Bool × Bool × Bool × Int) (γ := Unit) (F := (expr_Type_L1 k_expr_Type e)) (N := FUEL) (s0 := (true, true, true, 0)) (r := r) (fun ⟨ints8, bools9, times10, t11⟩ (_ : Unit) w7 => Sat (box b5 24 [(.int .i64 e.op), (.int .i64 e.n), (.int .i64 e.at_), (sl v1)] :: imm (RSl RExpr) [sl v1] e.l :: Φ) w7) (fun ⟨ints8, bools9, times10, t11⟩ (_ : Unit) => [(1, true, (.pointer (some ⟨b5, 0, none⟩))), (5, true, (.bool ints8)), (6, true, (.bool bools9)), (7, true, (.bool times10)), (14, true, (sl v1)), (15, true, (.int .i64 (List.length e.l : Int))), (16, true, (.int .i64 t11))]) hm () (hs.re 2 [0, 1] rfl) rfl ?_
  rintro again12 ⟨ints8, bools9, times10, t11⟩ _ w7 hm hs
  unfold expr_Type_L1 at hm
  dsimp only at hm
  refine WC_seq ?_
  refine WC_region ?_
  refine WL_op (Run_ltI (Opd.t rfl) (Opd.t rfl)) rfl rfl rfl rfl <| ?_
  refine WL_nil ?_
  refine At_then ?_
  refine WC_seq ?_
  refine WC_cond (Opd.t rfl) (fun hc13 => ?_) (fun hc13 => ?_)
  ·
    replace hm := bif_t hc13 hm
    refine WC_skip ?_
    refine At_then ?_
    refine WC_seq ?_
    refine WC_block ?_
    refine WC_seq ?_
    refine WC_region ?_
    obtain ⟨e14, he15, hm⟩ := bind_some' hm
    obtain ⟨v16, hC17, hN18, hR19⟩ := cellsM24 (g := true) (fun hg => (hs.sl (i := 1) rfl)) (fun hg => he15)
    replace hs := hs.addL [elem true (elA (sl v1) t11 4) [(.int .i64 e14.op), (.int .i64 e14.n), (.int .i64 e14.at_), (sl v16)], imm (RSl RExpr) [sl v16] e14.l] rfl ⟨fun hg => ⟨hN18 hg, hC17 hg⟩, ⟨_, rfl, hR19 rfl⟩, trivial⟩
    replace hs := Sat.n4 (Γ := Φ) hs rfl
    refine WL_op (Run_idxAddr (p := (elA (sl v1) t11 4)) Tryd.underlying22 ti24 (Opd.t rfl) (Opd.t rfl) (fun hg => (SRd.atA (A := RExpr) (v := (sl v1)) (hs.sl (i := 3) rfl) he15).1)) rfl rfl rfl rfl <| WL_op (Run_loadA (vs := [(.int .i64 e14.op), (.int .i64 e14.n), (.int .i64 e14.at_), (sl v16)]) Tryd.underlying24 rfl ti24 (Opd.t rfl) (fun hg => ((hs.elem (i := 0) rfl) hg).sub 0 rfl) rfl) rfl rfl rfl rfl <| ?_
    refine WS_alloc (zs := [(.int .i64 0), (.int .i64 0), (.int .i64 0), (sl (none, 0, 0))]) hs ti24 rfl rfl ?_
    intro b20 w21 hs
    replace hs := Sat.n5 (Γ := Φ) hs rfl
    refine WS_store (us := [(.int .i64 e14.op), (.int .i64 e14.n), (.int .i64 e14.at_), (sl v16)]) (vs' := [(.int .i64 e14.op), (.int .i64 e14.n), (.int .i64 e14.at_), (sl v16)]) hs 0 rfl ti24 (Opd.t rfl) (Opd.t rfl) rfl rfl rfl rfl rfl ?_
    intro w22 hs
    replace hs := Sat.n5 (Γ := Φ) hs rfl
    refine WL_nil ?_
    refine At_then ?_
    refine WC_seq ?_
    refine WC_region ?_
    refine WL_op (Run_loadA (vs := [(.int .i64 e14.op), (.int .i64 e14.n), (.int .i64 e14.at_), (sl v16)]) Tryd.underlying24 rfl ti24 (Opd.t rfl) (fun _ => (hs.box (i := 0) rfl).part 0 rfl) rfl) rfl rfl rfl rfl <| ?_
    obtain ⟨r23, hr24, hm⟩ := bind_some' hm
    refine WL_call (f := 19) (first := []) (cap := []) (xs := [(.tmp 21)]) (vs := [(.agg #[(.int .i64 e14.op), (.int .i64 e14.n), (.int .i64 e14.at_), (sl v16)])]) (args := [(.agg #[(.int .i64 e14.op), (.int .i64 e14.n), (.int .i64 e14.at_), (sl v16)])]) Tryd.call19 Opd.f (.cons (Opd.t rfl) .nil) rfl rfl (ih_expr_Type (hs.re 5 [2, 0, 1, 2, 3, 4] rfl) hr24) ?_
    rintro _ w25 ⟨rfl, hs⟩
    replace hs := Sat.n5 (Γ := Φ) hs rfl
    refine WL_op (Run_move (Opd.t rfl)) rfl rfl rfl rfl <| WL_op (Run_extract (vs := [(.int .i64 r23.1), (.int .i64 r23.2.1), (.int .i64 r23.2.2)]) (Opd.t rfl) rfl) rfl rfl rfl rfl <| WL_op (Run_extract (vs := [(.int .i64 r23.1), (.int .i64 r23.2.1), (.int .i64 r23.2.2)]) (Opd.t rfl) rfl) rfl rfl rfl rfl <| WL_op (Run_extract (vs := [(.int .i64 r23.1), (.int .i64 r23.2.1), (.int .i64 r23.2.2)]) (Opd.t rfl) rfl) rfl rfl rfl rfl <| WL_op (Run_assign (Opd.t rfl)) rfl rfl rfl rfl <| WL_op (Run_assign (Opd.t rfl)) rfl rfl rfl rfl <| WL_op (Run_assign (Opd.t rfl)) rfl rfl rfl rfl <| ?_
    refine WL_nil ?_
    refine At_then ?_
    refine WC_seq ?_
    refine WC_seq ?_
    refine WC_region ?_
    refine WL_op (Run_move (Opd.t rfl)) rfl rfl rfl rfl <| WL_op (Run_neI (Opd.t rfl) Opd.c) rfl rfl rfl rfl <| ?_
    refine WL_nil ?_
    refine At_then ?_
    refine WC_cond (Opd.t rfl) (fun hc26 => ?_) (fun hc26 => ?_)
    ·
      replace hm := bif_t hc26 hm
      refine WC_seq ?_
      refine WC_region ?_
      refine WL_op (Run_move (Opd.t rfl)) rfl rfl rfl rfl <| WL_op (Run_move (Opd.t rfl)) rfl rfl rfl rfl <| WL_op (Run_assign Opd.c) rfl rfl rfl rfl <| WL_op (Run_assign (Opd.t rfl)) rfl rfl rfl rfl <| WL_op (Run_assign (Opd.t rfl)) rfl rfl rfl rfl <| ?_
      refine WL_nil ?_
      refine At_then ?_
      refine WC_ret ?_
      refine At_then_ret <| At_blk_ret <| At_then_ret <| At_then_ret <| At_blk_ret <| At_then_ret <| ?_
      refine At_r3 rfl (ResIs.t rfl) (ResIs.t rfl) (ResIs.t rfl) ?_
      cases hm
      exact ⟨rfl, (hs.re 5 [] rfl)⟩
    ·
      replace hm := bif_f hc26 hm
      refine WC_skip ?_
      refine At_then ?_
      refine WC_seq ?_
      refine WC_region ?_
      refine WL_op (Run_move (Opd.t rfl)) rfl rfl rfl rfl <| WL_op (Run_move (Opd.t rfl)) rfl rfl rfl rfl <| WL_opG rfl rfl rfl rfl guard_pos (Run_move (Opd.t rfl)) rfl rfl rfl <| ?_
      obtain ⟨b27, e28, hm⟩ := letv_some hm
      refine WL_opG rfl rfl rfl rfl guard_pos (Run.eqB (Run_eqI (Opd.g rfl id) Opd.c) e28) rfl rfl rfl <| ?_
      obtain ⟨b29, e30, hm⟩ := letv_some hm
      refine WL_op (Run.eqB (Run_and (Opd.t rfl) (Opd.g rfl id)) e30) rfl rfl rfl rfl <| WL_op (Run_assign (Opd.t rfl)) rfl rfl rfl rfl <| ?_
      refine WL_nil ?_
      refine At_then ?_
      refine WC_seq ?_
      refine WC_region ?_
      refine WL_op (Run_move (Opd.t rfl)) rfl rfl rfl rfl <| WL_op (Run_move (Opd.t rfl)) rfl rfl rfl rfl <| WL_opG rfl rfl rfl rfl guard_pos (Run_move (Opd.t rfl)) rfl rfl rfl <| ?_
      obtain ⟨b31, e32, hm⟩ := letv_some hm
      refine WL_opG rfl rfl rfl rfl guard_pos (Run.eqB (Run_eqI (Opd.g rfl id) Opd.c) e32) rfl rfl rfl <| ?_
      obtain ⟨b33, e34, hm⟩ := letv_some hm
      refine WL_op (Run.eqB (Run_and (Opd.t rfl) (Opd.g rfl id)) e34) rfl rfl rfl rfl <| WL_op (Run_assign (Opd.t rfl)) rfl rfl rfl rfl <| ?_
      refine WL_nil ?_
      refine At_then ?_
      refine WC_region ?_
      refine WL_op (Run_move (Opd.t rfl)) rfl rfl rfl rfl <| WL_op (Run_move (Opd.t rfl)) rfl rfl rfl rfl <| WL_opG rfl rfl rfl rfl guard_pos (Run_move (Opd.t rfl)) rfl rfl rfl <| ?_
      obtain ⟨b35, e36, hm⟩ := letv_some hm
      refine WL_opG rfl rfl rfl rfl guard_pos (Run.eqB (Run_neI (Opd.g rfl id) Opd.c) e36) rfl rfl rfl <| ?_
      obtain ⟨b37, e38, hm⟩ := letv_some hm
      refine WL_op (Run.eqB (Run_and (Opd.t rfl) (Opd.g rfl id)) e38) rfl rfl rfl rfl <| WL_op (Run_assign (Opd.t rfl)) rfl rfl rfl rfl <| ?_
      refine WL_nil ?_
      refine At_blk_normal ?_
      refine At_then ?_
      refine WC_region ?_
      refine WL_op (Run_add (Opd.t rfl) Opd.c) rfl rfl rfl rfl <| WL_op (Run_move (Opd.t rfl)) rfl rfl rfl rfl <| ?_
      refine WL_nil ?_
      exact At_again (b29, b33, b37, (IntKind.i64.wrap (t11 + 1))) () hm (hs.re 5 [3, 4] rfl) rfl
  ·
    replace hm := bif_f hc13 hm
    refine WC_exit ?_
    refine At_then_exit <| At_then_exit <| At_blk_here <| ?_
    refine At_then ?_
    refine WC_seq ?_
    refine WC_block ?_
    refine WC_seq ?_
    refine WC_region ?_
    refine WL_op (Run_fieldAddr fo24_0 (Opd.t rfl)) rfl rfl rfl rfl <| WL_op (Run_load1 (v := (.int .i64 e.op)) Tryd.underlying3 rfl (Opd.t rfl) (fun _ => (hs.box (i := 0) rfl).part 0 rfl)) rfl rfl rfl rfl <| ?_
    obtain ⟨b39, e40, hm⟩ := letv_some hm
    refine WL_op (Run.eqB (Run_leI (Opd.t rfl) Opd.c) e40) rfl rfl rfl rfl <| WL_op (Run_move (Opd.t rfl)) rfl rfl rfl rfl <| WL_opG rfl rfl rfl rfl guard_pos (Run_move (Opd.t rfl)) rfl rfl rfl <| ?_
    obtain ⟨b41, e42, hm⟩ := letv_some hm
    refine WL_op (Run.eqB (Run_and (Opd.t rfl) (Opd.g rfl id)) e42) rfl rfl rfl rfl <| WL_op (Run_assign (Opd.t rfl)) rfl rfl rfl rfl <| ?_
    refine WL_nil ?_
    refine At_then ?_
    refine WC_cond (Opd.t rfl) (fun hc43 => ?_) (fun hc43 => ?_)
    ·
      replace hm := bif_t hc43 hm
      refine WC_seq ?_
      refine WC_region ?_
      refine WL_op (Run_assign Opd.c) rfl rfl rfl rfl <| WL_op (Run_assign Opd.c) rfl rfl rfl rfl <| WL_op (Run_assign Opd.c) rfl rfl rfl rfl <| ?_
      refine WL_nil ?_
      refine At_then ?_
      refine WC_ret ?_
      refine At_blk_ret <| At_then_ret <| ?_
      refine At_r3 rfl (ResIs.t rfl) (ResIs.t rfl) (ResIs.t rfl) ?_
      cases hm
      exact ⟨rfl, (hs.re 2 [] rfl)⟩
    ·
      replace hm := bif_f hc43 hm
      refine WC_seq_cut (γ := Bool) (fun t45 w44 => expr_Type_K2 e times10 t45 = some r ∧ Sat (box b5 24 [(.int .i64 e.op), (.int .i64 e.n), (.int .i64 e.at_), (sl v1)] :: imm (RSl RExpr) [sl v1] e.l :: Φ) w44) (fun t45 => [(1, true, (.pointer (some ⟨b5, 0, none⟩))), (7, true, (.bool times10)), (53, true, (.bool t45))]) ?_ ?_
      ·
        rintro t45 w44 ⟨hm, hs⟩
        unfold expr_Type_K2 at hm
        refine WC_cond (Opd.t rfl) (fun hc46 => ?_) (fun hc46 => ?_)
        ·
          replace hm := bif_t hc46 hm
          refine WC_seq ?_
          refine WC_region ?_
          refine WL_op (Run_assign Opd.c) rfl rfl rfl rfl <| WL_op (Run_assign Opd.c) rfl rfl rfl rfl <| WL_op (Run_assign Opd.c) rfl rfl rfl rfl <| ?_
          refine WL_nil ?_
          refine At_then ?_
          refine WC_ret ?_
          refine At_blk_ret <| At_then_ret <| ?_
          refine At_r3 rfl (ResIs.t rfl) (ResIs.t rfl) (ResIs.t rfl) ?_
          cases hm
          exact ⟨rfl, (hs.re 2 [] rfl)⟩
        ·
          replace hm := bif_f hc46 hm
          refine WC_seq ?_
          refine WC_region ?_
          refine WL_op (Run_fieldAddr fo24_0 (Opd.t rfl)) rfl rfl rfl rfl <| WL_op (Run_load1 (v := (.int .i64 e.op)) Tryd.underlying3 rfl (Opd.t rfl) (fun _ => (hs.box (i := 0) rfl).part 0 rfl)) rfl rfl rfl rfl <| ?_
          obtain ⟨b47, e48, hm⟩ := letv_some hm
          refine WL_op (Run.eqB (Run_geI (Opd.t rfl) Opd.c) e48) rfl rfl rfl rfl <| WL_op (Run_move (Opd.t rfl)) rfl rfl rfl rfl <| WL_opG rfl rfl rfl rfl guard_pos (Run_move (Opd.t rfl)) rfl rfl rfl <| ?_
          obtain ⟨b49, e50, hm⟩ := letv_some hm
          refine WL_op (Run.eqB (Run_and (Opd.t rfl) (Opd.g rfl id)) e50) rfl rfl rfl rfl <| WL_op (Run_assign (Opd.t rfl)) rfl rfl rfl rfl <| ?_
          refine WL_nil ?_
          refine At_then ?_
          refine WC_cond (Opd.t rfl) (fun hc51 => ?_) (fun hc51 => ?_)
          ·
            replace hm := bif_t hc51 hm
            refine WC_seq ?_
            refine WC_region ?_
            refine WL_op (Run_assign Opd.c) rfl rfl rfl rfl <| WL_op (Run_assign Opd.c) rfl rfl rfl rfl <| WL_op (Run_assign Opd.c) rfl rfl rfl rfl <| ?_
            refine WL_nil ?_
            refine At_then ?_
            refine WC_ret ?_
            refine At_blk_ret <| At_then_ret <| ?_
            refine At_r3 rfl (ResIs.t rfl) (ResIs.t rfl) (ResIs.t rfl) ?_
            cases hm
            exact ⟨rfl, (hs.re 2 [] rfl)⟩
          ·
            replace hm := bif_f hc51 hm
            refine WC_skip ?_
            refine At_blk_normal ?_
            refine At_then ?_
            refine WC_seq ?_
            refine WC_region_mixed [0, 1, 0, 4, 15] (.q 0 0 (.q 1 1 (.q 2 3 (.q 3 7 (.q 4 15 .nil))))) (by kernel_rfl) (by kernel_rfl) ?_
            intro w52 hx53
            replace hs := hs.ext hx53
            refine WD_pure (fun _ => (Run_fieldAddr fo24_2 (Opd.t rfl))) rfl rfl rfl rfl <| WD_op (fun w => CellsAt w ⟨b5, 2, none⟩ [(.int .i64 e.at_)]) ((hs.box (i := 0) rfl).part 2 rfl) (fun _ hJ => (Run_load1 (v := (.int .i64 e.at_)) Tryd.underlying3 rfl (Opd.t rfl) (fun _ => hJ))) rfl rfl rfl rfl <| WD_pure (fun _ => (Run_assign Opd.c)) rfl rfl rfl rfl <| WD_pure (fun _ => (Run_assign Opd.c)) rfl rfl rfl rfl <| WD_pure (fun _ => (Run_assign (Opd.t rfl))) rfl rfl rfl rfl <| ?_
            refine WD_nil ?_
            refine At_then ?_
            refine WC_ret ?_
            refine At_r3 rfl (ResIs.t rfl) (ResIs.t rfl) (ResIs.t rfl) ?_
            cases hm
            exact ⟨rfl, (hs.re 2 [] rfl)⟩
      ·
        refine WC_seq ?_
        refine WC_region ?_
        refine WL_op (Run_fieldAddr fo24_0 (Opd.t rfl)) rfl rfl rfl rfl <| WL_op (Run_load1 (v := (.int .i64 e.op)) Tryd.underlying3 rfl (Opd.t rfl) (fun _ => (hs.box (i := 0) rfl).part 0 rfl)) rfl rfl rfl rfl <| ?_
        obtain ⟨b54, e55, hm⟩ := letv_some hm
        refine WL_op (Run.eqB (Run_gtI (Opd.t rfl) Opd.c) e55) rfl rfl rfl rfl <| WL_op (Run_move (Opd.t rfl)) rfl rfl rfl rfl <| WL_opG rfl rfl rfl rfl guard_pos (Run_fieldAddr fo24_0 (Opd.t rfl)) rfl rfl rfl <| WL_opG rfl rfl rfl rfl guard_pos (Run_load1 (v := (.int .i64 e.op)) Tryd.underlying3 rfl (Opd.g rfl id) (fun _ => (hs.box (i := 0) rfl).part 0 rfl)) rfl rfl rfl <| ?_
        obtain ⟨b56, e57, hm⟩ := letv_some hm
        refine WL_opG rfl rfl rfl rfl guard_pos (Run.eqB (Run_leI (Opd.g rfl id) Opd.c) e57) rfl rfl rfl <| ?_
        obtain ⟨b58, e59, hm⟩ := letv_some hm
        refine WL_op (Run.eqB (Run_and (Opd.t rfl) (Opd.g rfl id)) e59) rfl rfl rfl rfl <| WL_op (Run_move (Opd.t rfl)) rfl rfl rfl rfl <| WL_opG rfl rfl rfl rfl guard_pos (Run_move (Opd.t rfl)) rfl rfl rfl <| ?_
        obtain ⟨b60, e61, hm⟩ := letv_some hm
        refine WL_op (Run.eqB (Run_and (Opd.t rfl) (Opd.g rfl id)) e61) rfl rfl rfl rfl <| WL_op (Run_assign (Opd.t rfl)) rfl rfl rfl rfl <| ?_
        refine WL_nil ?_
        refine At_then ?_
        refine WC_cond (Opd.t rfl) (fun hc62 => ?_) (fun hc62 => ?_)
        ·
          replace hm := bif_t hc62 hm
          refine WC_skip ?_
          exact At_join b60 ⟨hm, (hs.re 2 [0, 1] rfl)⟩ rfl
        ·
          replace hm := bif_f hc62 hm
          refine WC_seq ?_
          refine WC_region ?_
          refine WL_op (Run_fieldAddr fo24_0 (Opd.t rfl)) rfl rfl rfl rfl <| WL_op (Run_load1 (v := (.int .i64 e.op)) Tryd.underlying3 rfl (Opd.t rfl) (fun _ => (hs.box (i := 0) rfl).part 0 rfl)) rfl rfl rfl rfl <| WL_op (Run_eqI (Opd.t rfl) Opd.c) rfl rfl rfl rfl <| WL_op (Run_assign (Opd.t rfl)) rfl rfl rfl rfl <| ?_
          refine WL_nil ?_
          refine At_then ?_
          refine WC_cond (Opd.t rfl) (fun hc63 => ?_) (fun hc63 => ?_)
          ·
            replace hm := bif_t hc63 hm
            refine WC_skip ?_
            exact At_join (e.op == 13) ⟨hm, (hs.re 2 [0, 1] rfl)⟩ rfl
          ·
            replace hm := bif_f hc63 hm
            refine WC_seq ?_
            refine WC_region ?_
            refine WL_op (Run_fieldAddr fo24_0 (Opd.t rfl)) rfl rfl rfl rfl <| WL_op (Run_load1 (v := (.int .i64 e.op)) Tryd.underlying3 rfl (Opd.t rfl) (fun _ => (hs.box (i := 0) rfl).part 0 rfl)) rfl rfl rfl rfl <| WL_op (Run_eqI (Opd.t rfl) Opd.c) rfl rfl rfl rfl <| WL_op (Run_assign (Opd.t rfl)) rfl rfl rfl rfl <| ?_
            refine WL_nil ?_
            refine At_then ?_
            refine WC_cond (Opd.t rfl) (fun hc64 => ?_) (fun hc64 => ?_)
            ·
              replace hm := bif_t hc64 hm
              refine WC_skip ?_
              exact At_join (e.op == 14) ⟨hm, (hs.re 2 [0, 1] rfl)⟩ rfl
            ·
              replace hm := bif_f hc64 hm
              refine WC_region ?_
              refine WL_op (Run_fieldAddr fo24_0 (Opd.t rfl)) rfl rfl rfl rfl <| WL_op (Run_load1 (v := (.int .i64 e.op)) Tryd.underlying3 rfl (Opd.t rfl) (fun _ => (hs.box (i := 0) rfl).part 0 rfl)) rfl rfl rfl rfl <| ?_
              obtain ⟨b65, e66, hm⟩ := letv_some hm
              refine WL_op (Run.eqB (Run_geI (Opd.t rfl) Opd.c) e66) rfl rfl rfl rfl <| WL_op (Run_move (Opd.t rfl)) rfl rfl rfl rfl <| WL_opG rfl rfl rfl rfl guard_pos (Run_fieldAddr fo24_0 (Opd.t rfl)) rfl rfl rfl <| WL_opG rfl rfl rfl rfl guard_pos (Run_load1 (v := (.int .i64 e.op)) Tryd.underlying3 rfl (Opd.g rfl id) (fun _ => (hs.box (i := 0) rfl).part 0 rfl)) rfl rfl rfl <| ?_
              obtain ⟨b67, e68, hm⟩ := letv_some hm
              refine WL_opG rfl rfl rfl rfl guard_pos (Run.eqB (Run_leI (Opd.g rfl id) Opd.c) e68) rfl rfl rfl <| ?_
              obtain ⟨b69, e70, hm⟩ := letv_some hm
              refine WL_op (Run.eqB (Run_and (Opd.t rfl) (Opd.g rfl id)) e70) rfl rfl rfl rfl <| WL_op (Run_move (Opd.t rfl)) rfl rfl rfl rfl <| WL_opG rfl rfl rfl rfl guard_pos (Run_move (Opd.t rfl)) rfl rfl rfl <| ?_
              obtain ⟨b71, e72, hm⟩ := letv_some hm
              refine WL_op (Run.eqB (Run_and (Opd.t rfl) (Opd.g rfl id)) e72) rfl rfl rfl rfl <| WL_op (Run_assign (Opd.t rfl)) rfl rfl rfl rfl <| ?_
              refine WL_nil ?_
              exact At_join b71 ⟨hm, (hs.re 2 [0, 1] rfl)⟩ rfl

set_option maxRecDepth 100000 in
set_option maxHeartbeats 4000000 in
theorem expr_Type_ok {Φ : Ctx} {w : World} {e : Ex} {v1 : SLV} {r : (Int × Int × Int)} (hs : Sat (imm (RSl RExpr) [sl v1] e.l :: Φ) w) (hm : expr_Type e = some r) :
    CallsR Tryd.prog 19 [(.agg #[(.int .i64 e.op), (.int .i64 e.n), (.int .i64 e.at_), (sl v1)])] w (fun v w' => v = (.tuple #[(.int .i64 r.1), (.int .i64 r.2.1), (.int .i64 r.2.2)]) ∧ Sat (Φ) w') := by
  have key : ∀ (N : Nat) {Φ : Ctx} {w : World} {e : Ex} {v1 : SLV} {r : (Int × Int × Int)}, Sat (imm (RSl RExpr) [sl v1] e.l :: Φ) w → fixN (fun k (s : Ex) => expr_Type_F k s) N e = some r → CallsR Tryd.prog 19 [(.agg #[(.int .i64 e.op), (.int .i64 e.n), (.int .i64 e.at_), (sl v1)])] w (fun v w' => v = (.tuple #[(.int .i64 r.1), (.int .i64 r.2.1), (.int .i64 r.2.2)]) ∧ Sat (Φ) w') := by
    intro N
    induction N with
    | zero => intros; rename_i h; cases h
    | succ N ih => intros; rename_i hs hm; rw [fixN_succ] at hm; exact expr_Type_F_ok (@ih) hs hm
  unfold expr_Type at hm
  exact key FUEL hs hm

set_option maxRecDepth 100000 in
set_option maxHeartbeats 4000000 in
theorem expr_truth_ok {Φ : Ctx} {w : World} {is_ : Bool} {r : Int} (hs : Sat (Φ) w) (hm : expr_truth is_ = some r) :
    CallsR Tryd.prog 38 [(.bool is_)] w (fun v w' => v = (.int .i64 r) ∧ Sat (Φ) w') := by
  refine CallsX_enter Tryd.func38 rfl Tryd.ntmps38 rfl ?_
  unfold expr_truth at hm
  refine WC_seq ?_
  refine WC_region ?_
  refine WL_op (Run_assign Opd.c) rfl rfl rfl rfl <| ?_
  refine WL_nil ?_
  refine At_then ?_
  refine WC_seq ?_
  refine WC_seq ?_
  refine WC_region ?_
  refine WL_op (Run_move (Opd.t rfl)) rfl rfl rfl rfl <| ?_
  refine WL_nil ?_
  refine At_then ?_
  refine WC_cond (Opd.t rfl) (fun hc3 => ?_) (fun hc3 => ?_)
  ·
    replace hm := bif_t hc3 hm
    refine WC_seq ?_
    refine WC_region ?_
    refine WL_op (Run_assign Opd.c) rfl rfl rfl rfl <| ?_
    refine WL_nil ?_
    refine At_then ?_
    refine WC_ret ?_
    refine At_then_ret <| ?_
    refine At_r1 rfl (ResIs.t rfl) ?_
    cases hm
    exact ⟨rfl, (hs.re 0 [] rfl)⟩
  ·
    replace hm := bif_f hc3 hm
    refine WC_skip ?_
    refine At_then ?_
    refine WC_seq ?_
    refine WC_region ?_
    refine WL_op (Run_assign Opd.c) rfl rfl rfl rfl <| ?_
    refine WL_nil ?_
    refine At_then ?_
    refine WC_ret ?_
    refine At_r1 rfl (ResIs.t rfl) ?_
    cases hm
    exact ⟨rfl, (hs.re 0 [] rfl)⟩

end Go.Proofs.YtmeombbmhpcacaaDoor
