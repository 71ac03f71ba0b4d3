/- Printed by a program: the walks. -/
import Derived.Test.YtmeombbmhpcacaaDoorWalk10
namespace Go.Proofs.YtmeombbmhpcacaaDoor
open Go.Proofs

set_option maxRecDepth 100000 in
set_option maxHeartbeats 4000000 in
theorem scrutinylaw13_shown_ok {Φ : Ctx} {w : World} {r : Bool} (hs : Sat (gl 0 (keysL.map S) :: gl 1 (textsL.map S) :: gl 2 (pow10L.map (Value.int .u64)) :: Φ) w) (hm : scrutinylaw13_shown = some r) :
    CallsR Tryd.prog 10 [] w (fun v w' => v = (.bool r) ∧ Sat (Φ) w') := by
  refine CallsX_enter Tryd.func10 rfl Tryd.ntmps10 rfl ?_
  unfold scrutinylaw13_shown at hm
  refine WC_seq ?_
  refine WC_region ?_
  refine WL_op (Run_assign Opd.c) rfl rfl rfl rfl <| ?_
  refine WL_nil ?_
  refine At_then ?_
  refine WC_seq ?_
  refine WC_region ?_
  obtain ⟨r3, hr4, hm⟩ := bind_some' hm
  refine WL_call (f := 31) (first := []) (cap := []) (xs := [(.const (.string ⟨#[97, 32, 60, 32, 51, 32, 38, 32, 71, 32, 98, 32, 61, 61, 32, 49]⟩))]) (vs := [(S [97, 32, 60, 32, 51, 32, 38, 32, 71, 32, 98, 32, 61, 61, 32, 49])]) (args := [(S [97, 32, 60, 32, 51, 32, 38, 32, 71, 32, 98, 32, 61, 61, 32, 49])]) Tryd.call31 Opd.f (.cons Opd.c .nil) rfl rfl (scrutinylaw13_parsed_ok (hs.re 3 [0, 1, 0, 1, 2] rfl) hr4) ?_
  rintro _ w7 ⟨v5, R6, rfl, hs⟩
  replace hs := Sat.n4 (Γ := Φ) hs rfl
  refine WL_op (Run_move (Opd.t rfl)) rfl rfl rfl rfl <| WL_op (Run_extract (vs := [(.agg #[(.int .i64 r3.1.op), (.int .i64 r3.1.n), (.int .i64 r3.1.at_), (sl v5)]), (.int .i64 r3.2.1), (.int .i64 r3.2.2.1), (.int .i64 r3.2.2.2)]) (Opd.t rfl) rfl) rfl rfl rfl rfl <| WL_op (Run_extract (vs := [(.agg #[(.int .i64 r3.1.op), (.int .i64 r3.1.n), (.int .i64 r3.1.at_), (sl v5)]), (.int .i64 r3.2.1), (.int .i64 r3.2.2.1), (.int .i64 r3.2.2.2)]) (Opd.t rfl) rfl) rfl rfl rfl rfl <| WL_op (Run_extract (vs := [(.agg #[(.int .i64 r3.1.op), (.int .i64 r3.1.n), (.int .i64 r3.1.at_), (sl v5)]), (.int .i64 r3.2.1), (.int .i64 r3.2.2.1), (.int .i64 r3.2.2.2)]) (Opd.t rfl) rfl) rfl rfl rfl rfl <| WL_op (Run_extract (vs := [(.agg #[(.int .i64 r3.1.op), (.int .i64 r3.1.n), (.int .i64 r3.1.at_), (sl v5)]), (.int .i64 r3.2.1), (.int .i64 r3.2.2.1), (.int .i64 r3.2.2.2)]) (Opd.t rfl) rfl) rfl rfl rfl rfl <| ?_
  refine WS_alloc (zs := [(.int .i64 0), (.int .i64 0), (.int .i64 0), (sl (none, 0, 0))]) hs ti24 rfl rfl ?_
  intro b8 w9 hs
  replace hs := Sat.n5 (Γ := Φ) hs rfl
  refine WS_store (us := [(.int .i64 r3.1.op), (.int .i64 r3.1.n), (.int .i64 r3.1.at_), (sl v5)]) (vs' := [(.int .i64 r3.1.op), (.int .i64 r3.1.n), (.int .i64 r3.1.at_), (sl v5)]) hs 0 rfl ti24 (Opd.t rfl) (Opd.t rfl) rfl rfl rfl rfl rfl ?_
  intro w10 hs
  replace hs := Sat.n5 (Γ := Φ) hs rfl
  refine WL_op (Run_assign (Opd.t rfl)) rfl rfl rfl rfl <| WL_op (Run_assign (Opd.t rfl)) rfl rfl rfl rfl <| WL_op (Run_assign (Opd.t rfl)) rfl rfl rfl rfl <| ?_
  refine WL_nil ?_
  refine At_then ?_
  refine WC_seq ?_
  refine WC_region ?_
  refine WL_op (Run_loadA (vs := [(.int .i64 r3.1.op), (.int .i64 r3.1.n), (.int .i64 r3.1.at_), (sl v5)]) Tryd.underlying24 rfl ti24 (Opd.t rfl) (fun _ => (hs.box (i := 0) rfl).part 0 rfl) rfl) rfl rfl rfl rfl <| ?_
  replace hs := hs.freeze (i := 1) rfl
  obtain ⟨r11, hr12, hm⟩ := bind_some' hm
  refine WL_call (f := 19) (first := []) (cap := []) (xs := [(.tmp 34)]) (vs := [(.agg #[(.int .i64 r3.1.op), (.int .i64 r3.1.n), (.int .i64 r3.1.at_), (sl v5)])]) (args := [(.agg #[(.int .i64 r3.1.op), (.int .i64 r3.1.n), (.int .i64 r3.1.at_), (sl v5)])]) Tryd.call19 Opd.f (.cons (Opd.t rfl) .nil) rfl rfl (expr_Type_ok (hs.re 5 [1, 0, 1, 2, 3, 4] rfl) hr12) ?_
  rintro _ w13 ⟨rfl, hs⟩
  replace hs := Sat.n5 (Γ := Φ) hs rfl
  refine WL_op (Run_move (Opd.t rfl)) rfl rfl rfl rfl <| WL_op (Run_extract (vs := [(.int .i64 r11.1), (.int .i64 r11.2.1), (.int .i64 r11.2.2)]) (Opd.t rfl) rfl) rfl rfl rfl rfl <| WL_op (Run_extract (vs := [(.int .i64 r11.1), (.int .i64 r11.2.1), (.int .i64 r11.2.2)]) (Opd.t rfl) rfl) rfl rfl rfl rfl <| WL_op (Run_extract (vs := [(.int .i64 r11.1), (.int .i64 r11.2.1), (.int .i64 r11.2.2)]) (Opd.t rfl) rfl) rfl rfl rfl rfl <| WL_op (Run_assign (Opd.t rfl)) rfl rfl rfl rfl <| WL_op (Run_assign (Opd.t rfl)) rfl rfl rfl rfl <| WL_op (Run_assign (Opd.t rfl)) rfl rfl rfl rfl <| ?_
  refine WL_nil ?_
  refine At_then ?_
  refine WC_seq ?_
  refine WC_region ?_
  obtain ⟨r14, hr15, hm⟩ := bind_some' hm
  refine WL_call (f := 31) (first := []) (cap := []) (xs := [(.const (.string ⟨#[49, 32, 43, 32, 116, 114, 117, 101]⟩))]) (vs := [(S [49, 32, 43, 32, 116, 114, 117, 101])]) (args := [(S [49, 32, 43, 32, 116, 114, 117, 101])]) Tryd.call31 Opd.f (.cons Opd.c .nil) rfl rfl (scrutinylaw13_parsed_ok (hs.re 5 [2, 3, 0, 1, 2, 3, 4] rfl) hr15) ?_
  rintro _ w18 ⟨v16, R17, rfl, hs⟩
  replace hs := Sat.n6 (Γ := Φ) hs rfl
  refine WL_op (Run_move (Opd.t rfl)) rfl rfl rfl rfl <| WL_op (Run_extract (vs := [(.agg #[(.int .i64 r14.1.op), (.int .i64 r14.1.n), (.int .i64 r14.1.at_), (sl v16)]), (.int .i64 r14.2.1), (.int .i64 r14.2.2.1), (.int .i64 r14.2.2.2)]) (Opd.t rfl) rfl) rfl rfl rfl rfl <| WL_op (Run_extract (vs := [(.agg #[(.int .i64 r14.1.op), (.int .i64 r14.1.n), (.int .i64 r14.1.at_), (sl v16)]), (.int .i64 r14.2.1), (.int .i64 r14.2.2.1), (.int .i64 r14.2.2.2)]) (Opd.t rfl) rfl) rfl rfl rfl rfl <| WL_op (Run_extract (vs := [(.agg #[(.int .i64 r14.1.op), (.int .i64 r14.1.n), (.int .i64 r14.1.at_), (sl v16)]), (.int .i64 r14.2.1), (.int .i64 r14.2.2.1), (.int .i64 r14.2.2.2)]) (Opd.t rfl) rfl) rfl rfl rfl rfl <| WL_op (Run_extract (vs := [(.agg #[(.int .i64 r14.1.op), (.int .i64 r14.1.n), (.int .i64 r14.1.at_), (sl v16)]), (.int .i64 r14.2.1), (.int .i64 r14.2.2.1), (.int .i64 r14.2.2.2)]) (Opd.t rfl) rfl) rfl rfl rfl rfl <| ?_
  refine WS_alloc (zs := [(.int .i64 0), (.int .i64 0), (.int .i64 0), (sl (none, 0, 0))]) hs ti24 rfl rfl ?_
  intro b19 w20 hs
  replace hs := Sat.n7 (Γ := Φ) hs rfl
  refine WS_store (us := [(.int .i64 r14.1.op), (.int .i64 r14.1.n), (.int .i64 r14.1.at_), (sl v16)]) (vs' := [(.int .i64 r14.1.op), (.int .i64 r14.1.n), (.int .i64 r14.1.at_), (sl v16)]) hs 0 rfl ti24 (Opd.t rfl) (Opd.t rfl) rfl rfl rfl rfl rfl ?_
  intro w21 hs
  replace hs := Sat.n7 (Γ := Φ) hs rfl
  refine WL_op (Run_assign (Opd.t rfl)) rfl rfl rfl rfl <| WL_op (Run_assign (Opd.t rfl)) rfl rfl rfl rfl <| WL_op (Run_assign (Opd.t rfl)) rfl rfl rfl rfl <| ?_
  refine WL_nil ?_
  refine At_then ?_
  refine WC_seq ?_
  refine WC_region ?_
  refine WL_op (Run_loadA (vs := [(.int .i64 r14.1.op), (.int .i64 r14.1.n), (.int .i64 r14.1.at_), (sl v16)]) Tryd.underlying24 rfl ti24 (Opd.t rfl) (fun _ => (hs.box (i := 0) rfl).part 0 rfl) rfl) rfl rfl rfl rfl <| ?_
  replace hs := hs.freeze (i := 1) rfl
  obtain ⟨r22, hr23, hm⟩ := bind_some' hm
  refine WL_call (f := 19) (first := []) (cap := []) (xs := [(.tmp 46)]) (vs := [(.agg #[(.int .i64 r14.1.op), (.int .i64 r14.1.n), (.int .i64 r14.1.at_), (sl v16)])]) (args := [(.agg #[(.int .i64 r14.1.op), (.int .i64 r14.1.n), (.int .i64 r14.1.at_), (sl v16)])]) Tryd.call19 Opd.f (.cons (Opd.t rfl) .nil) rfl rfl (expr_Type_ok (hs.re 7 [1, 0, 1, 2, 3, 4, 5, 6] rfl) hr23) ?_
  rintro _ w24 ⟨rfl, hs⟩
  replace hs := Sat.n7 (Γ := Φ) hs rfl
  refine WL_op (Run_move (Opd.t rfl)) rfl rfl rfl rfl <| WL_op (Run_extract (vs := [(.int .i64 r22.1), (.int .i64 r22.2.1), (.int .i64 r22.2.2)]) (Opd.t rfl) rfl) rfl rfl rfl rfl <| WL_op (Run_extract (vs := [(.int .i64 r22.1), (.int .i64 r22.2.1), (.int .i64 r22.2.2)]) (Opd.t rfl) rfl) rfl rfl rfl rfl <| WL_op (Run_extract (vs := [(.int .i64 r22.1), (.int .i64 r22.2.1), (.int .i64 r22.2.2)]) (Opd.t rfl) rfl) rfl rfl rfl rfl <| WL_op (Run_assign (Opd.t rfl)) rfl rfl rfl rfl <| WL_op (Run_assign (Opd.t rfl)) rfl rfl rfl rfl <| WL_op (Run_assign (Opd.t rfl)) rfl rfl rfl rfl <| ?_
  refine WL_nil ?_
  refine At_then ?_
  refine WC_seq ?_
  refine WC_region ?_
  obtain ⟨r25, hr26, hm⟩ := bind_some' hm
  refine WL_call (f := 31) (first := []) (cap := []) (xs := [(.const (.string ⟨#[97, 32, 60, 32, 100]⟩))]) (vs := [(S [97, 32, 60, 32, 100])]) (args := [(S [97, 32, 60, 32, 100])]) Tryd.call31 Opd.f (.cons Opd.c .nil) rfl rfl (scrutinylaw13_parsed_ok (hs.re 7 [4, 5, 0, 1, 2, 3, 4, 5, 6] rfl) hr26) ?_
  rintro _ w29 ⟨v27, R28, rfl, hs⟩
  replace hs := Sat.n8 (Γ := Φ) hs rfl
  refine WL_op (Run_move (Opd.t rfl)) rfl rfl rfl rfl <| WL_op (Run_extract (vs := [(.agg #[(.int .i64 r25.1.op), (.int .i64 r25.1.n), (.int .i64 r25.1.at_), (sl v27)]), (.int .i64 r25.2.1), (.int .i64 r25.2.2.1), (.int .i64 r25.2.2.2)]) (Opd.t rfl) rfl) rfl rfl rfl rfl <| WL_op (Run_extract (vs := [(.agg #[(.int .i64 r25.1.op), (.int .i64 r25.1.n), (.int .i64 r25.1.at_), (sl v27)]), (.int .i64 r25.2.1), (.int .i64 r25.2.2.1), (.int .i64 r25.2.2.2)]) (Opd.t rfl) rfl) rfl rfl rfl rfl <| WL_op (Run_extract (vs := [(.agg #[(.int .i64 r25.1.op), (.int .i64 r25.1.n), (.int .i64 r25.1.at_), (sl v27)]), (.int .i64 r25.2.1), (.int .i64 r25.2.2.1), (.int .i64 r25.2.2.2)]) (Opd.t rfl) rfl) rfl rfl rfl rfl <| WL_op (Run_extract (vs := [(.agg #[(.int .i64 r25.1.op), (.int .i64 r25.1.n), (.int .i64 r25.1.at_), (sl v27)]), (.int .i64 r25.2.1), (.int .i64 r25.2.2.1), (.int .i64 r25.2.2.2)]) (Opd.t rfl) rfl) rfl rfl rfl rfl <| ?_
  refine WS_alloc (zs := [(.int .i64 0), (.int .i64 0), (.int .i64 0), (sl (none, 0, 0))]) hs ti24 rfl rfl ?_
  intro b30 w31 hs
  replace hs := Sat.n9 (Γ := Φ) hs rfl
  refine WS_store (us := [(.int .i64 r25.1.op), (.int .i64 r25.1.n), (.int .i64 r25.1.at_), (sl v27)]) (vs' := [(.int .i64 r25.1.op), (.int .i64 r25.1.n), (.int .i64 r25.1.at_), (sl v27)]) hs 0 rfl ti24 (Opd.t rfl) (Opd.t rfl) rfl rfl rfl rfl rfl ?_
  intro w32 hs
  replace hs := Sat.n9 (Γ := Φ) hs rfl
  refine WL_op (Run_assign (Opd.t rfl)) rfl rfl rfl rfl <| WL_op (Run_assign (Opd.t rfl)) rfl rfl rfl rfl <| WL_op (Run_assign (Opd.t rfl)) rfl rfl rfl rfl <| ?_
  refine WL_nil ?_
  refine At_then ?_
  refine WC_seq ?_
  refine WC_region ?_
  obtain ⟨r33, hr34, hm⟩ := bind_some' hm
  refine WL_call (f := 31) (first := []) (cap := []) (xs := [(.const (.string ⟨#[40, 97, 32, 60, 32, 98]⟩))]) (vs := [(S [40, 97, 32, 60, 32, 98])]) (args := [(S [40, 97, 32, 60, 32, 98])]) Tryd.call31 Opd.f (.cons Opd.c .nil) rfl rfl (scrutinylaw13_parsed_ok (hs.re 9 [6, 7, 0, 1, 2, 3, 4, 5, 6, 7, 8] rfl) hr34) ?_
  rintro _ w37 ⟨v35, R36, rfl, hs⟩
  replace hs := Sat.n10 (Γ := Φ) hs rfl
  refine WL_op (Run_move (Opd.t rfl)) rfl rfl rfl rfl <| WL_op (Run_extract (vs := [(.agg #[(.int .i64 r33.1.op), (.int .i64 r33.1.n), (.int .i64 r33.1.at_), (sl v35)]), (.int .i64 r33.2.1), (.int .i64 r33.2.2.1), (.int .i64 r33.2.2.2)]) (Opd.t rfl) rfl) rfl rfl rfl rfl <| WL_op (Run_extract (vs := [(.agg #[(.int .i64 r33.1.op), (.int .i64 r33.1.n), (.int .i64 r33.1.at_), (sl v35)]), (.int .i64 r33.2.1), (.int .i64 r33.2.2.1), (.int .i64 r33.2.2.2)]) (Opd.t rfl) rfl) rfl rfl rfl rfl <| WL_op (Run_extract (vs := [(.agg #[(.int .i64 r33.1.op), (.int .i64 r33.1.n), (.int .i64 r33.1.at_), (sl v35)]), (.int .i64 r33.2.1), (.int .i64 r33.2.2.1), (.int .i64 r33.2.2.2)]) (Opd.t rfl) rfl) rfl rfl rfl rfl <| WL_op (Run_extract (vs := [(.agg #[(.int .i64 r33.1.op), (.int .i64 r33.1.n), (.int .i64 r33.1.at_), (sl v35)]), (.int .i64 r33.2.1), (.int .i64 r33.2.2.1), (.int .i64 r33.2.2.2)]) (Opd.t rfl) rfl) rfl rfl rfl rfl <| ?_
  refine WS_alloc (zs := [(.int .i64 0), (.int .i64 0), (.int .i64 0), (sl (none, 0, 0))]) hs ti24 rfl rfl ?_
  intro b38 w39 hs
  replace hs := Sat.n11 (Γ := Φ) hs rfl
  refine WS_store (us := [(.int .i64 r33.1.op), (.int .i64 r33.1.n), (.int .i64 r33.1.at_), (sl v35)]) (vs' := [(.int .i64 r33.1.op), (.int .i64 r33.1.n), (.int .i64 r33.1.at_), (sl v35)]) hs 0 rfl ti24 (Opd.t rfl) (Opd.t rfl) rfl rfl rfl rfl rfl ?_
  intro w40 hs
  replace hs := Sat.n11 (Γ := Φ) hs rfl
  refine WL_op (Run_assign (Opd.t rfl)) rfl rfl rfl rfl <| WL_op (Run_assign (Opd.t rfl)) rfl rfl rfl rfl <| WL_op (Run_assign (Opd.t rfl)) rfl rfl rfl rfl <| ?_
  refine WL_nil ?_
  refine At_then ?_
  refine WC_seq ?_
  refine WC_region ?_
  obtain ⟨r41, hr42, hm⟩ := bind_some' hm
  refine WL_call (f := 31) (first := []) (cap := []) (xs := [(.const (.string ⟨#[45, 97, 32, 42, 32, 50, 32, 43, 32, 98, 32, 61, 61, 32, 49, 32, 45, 62, 32, 97, 32, 33, 61, 32, 98]⟩))]) (vs := [(S [45, 97, 32, 42, 32, 50, 32, 43, 32, 98, 32, 61, 61, 32, 49, 32, 45, 62, 32, 97, 32, 33, 61, 32, 98])]) (args := [(S [45, 97, 32, 42, 32, 50, 32, 43, 32, 98, 32, 61, 61, 32, 49, 32, 45, 62, 32, 97, 32, 33, 61, 32, 98])]) Tryd.call31 Opd.f (.cons Opd.c .nil) rfl rfl (scrutinylaw13_parsed_ok (hs.re 11 [8, 9, 0, 1, 2, 3, 4, 5, 6, 7, 8, 9, 10] rfl) hr42) ?_
  rintro _ w45 ⟨v43, R44, rfl, hs⟩
  replace hs := Sat.n12 (Γ := Φ) hs rfl
  refine WL_op (Run_move (Opd.t rfl)) rfl rfl rfl rfl <| WL_op (Run_extract (vs := [(.agg #[(.int .i64 r41.1.op), (.int .i64 r41.1.n), (.int .i64 r41.1.at_), (sl v43)]), (.int .i64 r41.2.1), (.int .i64 r41.2.2.1), (.int .i64 r41.2.2.2)]) (Opd.t rfl) rfl) rfl rfl rfl rfl <| WL_op (Run_extract (vs := [(.agg #[(.int .i64 r41.1.op), (.int .i64 r41.1.n), (.int .i64 r41.1.at_), (sl v43)]), (.int .i64 r41.2.1), (.int .i64 r41.2.2.1), (.int .i64 r41.2.2.2)]) (Opd.t rfl) rfl) rfl rfl rfl rfl <| WL_op (Run_extract (vs := [(.agg #[(.int .i64 r41.1.op), (.int .i64 r41.1.n), (.int .i64 r41.1.at_), (sl v43)]), (.int .i64 r41.2.1), (.int .i64 r41.2.2.1), (.int .i64 r41.2.2.2)]) (Opd.t rfl) rfl) rfl rfl rfl rfl <| WL_op (Run_extract (vs := [(.agg #[(.int .i64 r41.1.op), (.int .i64 r41.1.n), (.int .i64 r41.1.at_), (sl v43)]), (.int .i64 r41.2.1), (.int .i64 r41.2.2.1), (.int .i64 r41.2.2.2)]) (Opd.t rfl) rfl) rfl rfl rfl rfl <| ?_
  refine WS_alloc (zs := [(.int .i64 0), (.int .i64 0), (.int .i64 0), (sl (none, 0, 0))]) hs ti24 rfl rfl ?_
  intro b46 w47 hs
  replace hs := Sat.n13 (Γ := Φ) hs rfl
  refine WS_store (us := [(.int .i64 r41.1.op), (.int .i64 r41.1.n), (.int .i64 r41.1.at_), (sl v43)]) (vs' := [(.int .i64 r41.1.op), (.int .i64 r41.1.n), (.int .i64 r41.1.at_), (sl v43)]) hs 0 rfl ti24 (Opd.t rfl) (Opd.t rfl) rfl rfl rfl rfl rfl ?_
  intro w48 hs
  replace hs := Sat.n13 (Γ := Φ) hs rfl
  refine WL_op (Run_assign (Opd.t rfl)) rfl rfl rfl rfl <| WL_op (Run_assign (Opd.t rfl)) rfl rfl rfl rfl <| WL_op (Run_assign (Opd.t rfl)) rfl rfl rfl rfl <| ?_
  refine WL_nil ?_
  refine At_then ?_
  refine WC_seq ?_
  refine WC_seq ?_
  refine WC_region ?_
  refine WL_op (Run_fieldAddr fo24_3 (Opd.t rfl)) rfl rfl rfl rfl <| WL_op (Run_load1 (v := (sl v5)) Tryd.underlying22 rfl (Opd.t rfl) (fun _ => (hs.box (i := 8) rfl).part 3 rfl)) rfl rfl rfl rfl <| WL_op (Run_lenSlG Tryd.underlying22 (Opd.t rfl) (fun hg => (hs.sl (i := 9) rfl).len)) rfl rfl rfl rfl <| WL_op (Run_neI (Opd.t rfl) Opd.c) rfl rfl rfl rfl <| ?_
  refine WL_nil ?_
  refine At_then ?_
  refine WC_cond (Opd.t rfl) (fun hc49 => ?_) (fun hc49 => ?_)
  ·
    replace hm := bif_t hc49 hm
    refine WC_seq ?_
    refine WC_region ?_
    refine WL_op (Run_assign Opd.c) rfl rfl rfl rfl <| ?_
    refine WL_nil ?_
    refine At_then ?_
    refine WC_ret ?_
    refine At_then_ret <| ?_
    refine At_r1 rfl (ResIs.t rfl) ?_
    cases hm
    exact ⟨rfl, (hs.re 13 [] rfl)⟩
  ·
    replace hm := bif_f hc49 hm
    refine WC_skip ?_
    refine At_then ?_
    refine WC_seq ?_
    refine WC_region_mixed [0, 1, 2, 4, 12, 20, 36, 64, 192, 320, 576, 1088, 2048, 6144, 10240, 18432, 34816, 67584, 133120, 264192, 524288, 1572864, 2621440, 4718592, 8912896, 17301504, 34078720, 67633152, 134217728, 402653184, 671088640, 1207959552, 2147483648, 6442450944, 10737418240, 19327352832, 34359738368, 103079215104, 171798691840, 309237645312, 549755813888, 1649267441664, 2748779069440, 4947802324992, 8796093022208, 26388279066624, 43980465111040, 79164837199872, 140737488355328, 422212465065984, 703687441776640, 1266637395197952, 2251799813685248, 6755399441055744, 11258999068426240, 20266198323167232, 36028797018963968, 108086391056891904, 180143985094819840, 324259173170675712, 576460752303423488, 1729382256910270464, 2882303761517117440, 5188146770730811392, 9223372036854775808, 9223372036854775808, 64563604257983430656, 83010348331692982272, 156797324626531188736, 368934881474191032320, 590295810358705651712, 590295810358705651712, 4132070672510939561984, 5312662293228350865408, 10035028776097996079104, 23611832414348226068480, 37778931862957161709568, 37778931862957161709568, 264452523040700131966976, 340010386766614455386112, 642241841670271749062656, 1511157274518286468382720, 2417851639229258349412352, 7253554917687775048237056, 12089258196146291747061760, 21760664753063325144711168, 48357032784585166988247040, 77371252455336267181195264, 77371252455336267181195264, 541598767187353870268366848, 696341272098026404630757376, 1856910058928070412348686336, 2475880078570760549798248448, 2475880078570760549798248448, 17331160549995323848587739136, 22282920707136844948184236032, 42089961335702929346570223616, 99035203142830421991929937920, 158456325028528675187087900672, 475368975085586025561263702016, 950737950171172051122527404032, 1267650600228229401496703205376, 3802951800684688204490109616128, 6338253001141147007483516026880, 20282409603651670423947251286015] (.q 0 0 (.q 1 1 (.q 2 3 (.q 3 7 (.q 4 15 (.q 5 31 (.q 6 63 (.q 7 127 (.q 8 255 (.q 9 511 (.q 10 1023 (.q 11 2047 (.q 12 4095 (.q 13 8191 (.q 14 16383 (.q 15 32767 (.q 16 65535 (.q 17 131071 (.q 18 262143 (.q 19 524287 (.q 20 1048575 (.q 21 2097151 (.q 22 4194303 (.q 23 8388607 (.q 24 16777215 (.q 25 33554431 (.q 26 67108863 (.q 27 134217727 (.q 28 268435455 (.q 29 536870911 (.q 30 1073741823 (.q 31 2147483647 (.q 32 4294967295 (.q 33 8589934591 (.q 34 17179869183 (.q 35 34359738367 (.q 36 68719476735 (.q 37 137438953471 (.q 38 274877906943 (.q 39 549755813887 (.q 40 1099511627775 (.q 41 2199023255551 (.q 42 4398046511103 (.q 43 8796093022207 (.q 44 17592186044415 (.q 45 35184372088831 (.q 46 70368744177663 (.q 47 140737488355327 (.q 48 281474976710655 (.q 49 562949953421311 (.q 50 1125899906842623 (.q 51 2251799813685247 (.q 52 4503599627370495 (.q 53 9007199254740991 (.q 54 18014398509481983 (.q 55 36028797018963967 (.q 56 72057594037927935 (.q 57 144115188075855871 (.q 58 288230376151711743 (.q 59 576460752303423487 (.q 60 1152921504606846975 (.q 61 2305843009213693951 (.q 62 4611686018427387903 (.q 63 9223372036854775807 (.q 64 18446744073709551615 (.l 65 36893488147419103231 (.l 66 73786976294838206463 (.q 67 147573952589676412927 (.q 68 295147905179352825855 (.q 69 590295810358705651711 (.q 70 1180591620717411303423 (.l 71 2361183241434822606847 (.l 72 4722366482869645213695 (.q 73 9444732965739290427391 (.q 74 18889465931478580854783 (.q 75 37778931862957161709567 (.q 76 75557863725914323419135 (.l 77 151115727451828646838271 (.l 78 302231454903657293676543 (.q 79 604462909807314587353087 (.q 80 1208925819614629174706175 (.q 81 2417851639229258349412351 (.q 82 4835703278458516698824703 (.l 83 9671406556917033397649407 (.q 84 19342813113834066795298815 (.q 85 38685626227668133590597631 (.q 86 77371252455336267181195263 (.q 87 154742504910672534362390527 (.q 88 309485009821345068724781055 (.l 89 618970019642690137449562111 (.q 90 1237940039285380274899124223 (.q 91 2475880078570760549798248447 (.q 92 4951760157141521099596496895 (.q 93 9903520314283042199192993791 (.l 94 19807040628566084398385987583 (.q 95 39614081257132168796771975167 (.q 96 79228162514264337593543950335 (.q 97 158456325028528675187087900671 (.l 98 316912650057057350374175801343 (.q 99 633825300114114700748351602687 (.q 100 1267650600228229401496703205375 (.l 101 2535301200456458802993406410751 (.q 102 5070602400912917605986812821503 (.q 103 10141204801825835211973625643007 (.q 104 20282409603651670423947251286015 .nil))))))))))))))))))))))))))))))))))))))))))))))))))))))))))))))))))))))))))))))))))))))))))))))))))))))))) (by kernel_rfl) (by kernel_rfl) ?_
    intro w50 hx51
    replace hs := hs.ext hx51
    refine WD_pure (fun _ => (Run_move (Opd.t rfl))) rfl rfl rfl rfl <| ?_
    obtain ⟨b52, e53, hm⟩ := letv_some hm
    refine WD_pure (fun _ => (Run.eqB (Run_eqI (Opd.t rfl) Opd.c) e53)) rfl rfl rfl rfl <| WD_pure (fun _ => (Run_move (Opd.t rfl))) rfl rfl rfl rfl <| WD_pureG rfl rfl rfl rfl guard_pos (fun _ => (Run_move (Opd.t rfl))) rfl rfl rfl <| ?_
    obtain ⟨b54, e55, hm⟩ := letv_some hm
    refine WD_pureG rfl rfl rfl rfl guard_pos (fun _ => (Run.eqB (Run_eqI (Opd.g rfl id) Opd.c) e55)) rfl rfl rfl <| ?_
    obtain ⟨b56, e57, hm⟩ := letv_some hm
    refine WD_pure (fun _ => (Run.eqB (Run_and (Opd.t rfl) (Opd.g rfl id)) e57)) rfl rfl rfl rfl <| WD_pure (fun _ => (Run_move (Opd.t rfl))) rfl rfl rfl rfl <| WD_pureG rfl rfl rfl rfl guard_pos (fun _ => (Run_fieldAddr fo24_0 (Opd.t rfl))) rfl rfl rfl <| WD_opG (fun w => CellsAt w ⟨b8, 0, none⟩ [(.int .i64 r3.1.op)]) ((hs.box (i := 8) rfl).part 0 rfl) rfl rfl rfl rfl guard_pos (fun _ hJ => (Run_load1 (v := (.int .i64 r3.1.op)) Tryd.underlying3 rfl (Opd.g rfl id) (fun _ => hJ))) rfl rfl rfl <| ?_
    obtain ⟨b58, e59, hm⟩ := letv_some hm
    refine WD_pureG rfl rfl rfl rfl guard_pos (fun _ => (Run.eqB (Run_eqI (Opd.g rfl id) Opd.c) e59)) rfl rfl rfl <| ?_
    obtain ⟨b60, e61, hm⟩ := letv_some hm
    refine WD_pure (fun _ => (Run.eqB (Run_and (Opd.t rfl) (Opd.g rfl id)) e61)) rfl rfl rfl rfl <| WD_pure (fun _ => (Run_move (Opd.t rfl))) rfl rfl rfl rfl <| WD_pureG rfl rfl rfl rfl guard_pos (fun _ => (Run_fieldAddr fo24_3 (Opd.t rfl))) rfl rfl rfl <| WD_opG (fun w => CellsAt w ⟨b8, 3, none⟩ [(sl v5)]) ((hs.box (i := 8) rfl).part 3 rfl) rfl rfl rfl rfl guard_pos (fun _ hJ => (Run_load1 (v := (sl v5)) Tryd.underlying22 rfl (Opd.g rfl id) (fun _ => hJ))) rfl rfl rfl <| ?_
    obtain ⟨e62, he63, -, hm⟩ := callG_some hm
    obtain ⟨v64, hC65, hN66, hR67⟩ := cellsM24 (g := b60) (fun hg => (hs.sl (i := 9) rfl)) (fun hg => (he63 hg))
    replace hs := hs.addL [elem b60 (elA (sl v5) 0 4) [(.int .i64 e62.op), (.int .i64 e62.n), (.int .i64 e62.at_), (sl v64)], immG b60 (RSl RExpr) [sl v64] e62.l] rfl ⟨fun hg => ⟨hN66 hg, hC65 hg⟩, fun hg => ⟨_, rfl, hR67 hg⟩, trivial⟩
    replace hs := Sat.n15 (Γ := Φ) hs rfl
    refine WD_pureG rfl rfl rfl rfl guard_pos (fun _ => (Run_idxAddr (p := (elA (sl v5) 0 4)) Tryd.underlying22 ti24 (Opd.g rfl id) Opd.c (fun hg => (SRd.atA (A := RExpr) (v := (sl v5)) (hs.sl (i := 11) rfl) (he63 hg)).1))) rfl rfl rfl <| WD_pureG rfl rfl rfl rfl guard_pos (fun _ => (Run_fieldAddr fo24_0 (Opd.g rfl id))) rfl rfl rfl <| WD_opG (fun w => b60 = true → CellsAt w ((elA (sl v5) 0 4).add 0) [(.int .i64 e62.op)]) (fun hg => (((hs.elem (i := 0) rfl) hg).sub (us := [(.int .i64 e62.op)]) 0 rfl).sub 0 rfl) rfl rfl rfl rfl guard_pos (fun _ hJ => (Run_load1 (v := (.int .i64 e62.op)) Tryd.underlying3 rfl (Opd.g rfl id) hJ)) rfl rfl rfl <| ?_
    obtain ⟨b68, e69, hm⟩ := letv_some hm
    refine WD_pureG rfl rfl rfl rfl guard_pos (fun _ => (Run.eqB (Run_eqI (Opd.g rfl id) Opd.c) e69)) rfl rfl rfl <| ?_
    obtain ⟨b70, e71, hm⟩ := letv_some hm
    refine WD_pure (fun _ => (Run.eqB (Run_and (Opd.t rfl) (Opd.g rfl id)) e71)) rfl rfl rfl rfl <| WD_pure (fun _ => (Run_move (Opd.t rfl))) rfl rfl rfl rfl <| WD_pureG rfl rfl rfl rfl guard_pos (fun _ => (Run_fieldAddr fo24_3 (Opd.t rfl))) rfl rfl rfl <| WD_opG (fun w => CellsAt w ⟨b8, 3, none⟩ [(sl v5)]) ((hs.box (i := 10) rfl).part 3 rfl) rfl rfl rfl rfl guard_pos (fun _ hJ => (Run_load1 (v := (sl v5)) Tryd.underlying22 rfl (Opd.g rfl id) (fun _ => hJ))) rfl rfl rfl <| ?_
    obtain ⟨e72, he73, -, hm⟩ := callG_some hm
    obtain ⟨v74, hC75, hN76, hR77⟩ := cellsM24 (g := b70) (fun hg => (hs.sl (i := 11) rfl)) (fun hg => (he73 hg))
    replace hs := hs.addL [elem b70 (elA (sl v5) 1 4) [(.int .i64 e72.op), (.int .i64 e72.n), (.int .i64 e72.at_), (sl v74)], immG b70 (RSl RExpr) [sl v74] e72.l] rfl ⟨fun hg => ⟨hN76 hg, hC75 hg⟩, fun hg => ⟨_, rfl, hR77 hg⟩, trivial⟩
    replace hs := Sat.n17 (Γ := Φ) hs rfl
    refine WD_pureG rfl rfl rfl rfl guard_pos (fun _ => (Run_idxAddr (p := (elA (sl v5) 1 4)) Tryd.underlying22 ti24 (Opd.g rfl id) Opd.c (fun hg => (SRd.atA (A := RExpr) (v := (sl v5)) (hs.sl (i := 13) rfl) (he73 hg)).1))) rfl rfl rfl <| WD_pureG rfl rfl rfl rfl guard_pos (fun _ => (Run_fieldAddr fo24_0 (Opd.g rfl id))) rfl rfl rfl <| WD_opG (fun w => b70 = true → CellsAt w ((elA (sl v5) 1 4).add 0) [(.int .i64 e72.op)]) (fun hg => (((hs.elem (i := 0) rfl) hg).sub (us := [(.int .i64 e72.op)]) 0 rfl).sub 0 rfl) rfl rfl rfl rfl guard_pos (fun _ hJ => (Run_load1 (v := (.int .i64 e72.op)) Tryd.underlying3 rfl (Opd.g rfl id) hJ)) rfl rfl rfl <| ?_
    obtain ⟨b78, e79, hm⟩ := letv_some hm
    refine WD_pureG rfl rfl rfl rfl guard_pos (fun _ => (Run.eqB (Run_eqI (Opd.g rfl id) Opd.c) e79)) rfl rfl rfl <| ?_
    obtain ⟨b80, e81, hm⟩ := letv_some hm
    refine WD_pure (fun _ => (Run.eqB (Run_and (Opd.t rfl) (Opd.g rfl id)) e81)) rfl rfl rfl rfl <| WD_pure (fun _ => (Run_move (Opd.t rfl))) rfl rfl rfl rfl <| WD_pureG rfl rfl rfl rfl guard_pos (fun _ => (Run_move (Opd.t rfl))) rfl rfl rfl <| ?_
    obtain ⟨b82, e83, hm⟩ := letv_some hm
    refine WD_pureG rfl rfl rfl rfl guard_pos (fun _ => (Run.eqB (Run_eqI (Opd.g rfl id) Opd.c) e83)) rfl rfl rfl <| ?_
    obtain ⟨b84, e85, hm⟩ := letv_some hm
    refine WD_pure (fun _ => (Run.eqB (Run_and (Opd.t rfl) (Opd.g rfl id)) e85)) rfl rfl rfl rfl <| WD_pure (fun _ => (Run_move (Opd.t rfl))) rfl rfl rfl rfl <| WD_pureG rfl rfl rfl rfl guard_pos (fun _ => (Run_move (Opd.t rfl))) rfl rfl rfl <| ?_
    obtain ⟨b86, e87, hm⟩ := letv_some hm
    refine WD_pureG rfl rfl rfl rfl guard_pos (fun _ => (Run.eqB (Run_eqI (Opd.g rfl id) Opd.c) e87)) rfl rfl rfl <| ?_
    obtain ⟨b88, e89, hm⟩ := letv_some hm
    refine WD_pure (fun _ => (Run.eqB (Run_and (Opd.t rfl) (Opd.g rfl id)) e89)) rfl rfl rfl rfl <| WD_pure (fun _ => (Run_move (Opd.t rfl))) rfl rfl rfl rfl <| WD_pureG rfl rfl rfl rfl guard_pos (fun _ => (Run_move (Opd.t rfl))) rfl rfl rfl <| ?_
    obtain ⟨b90, e91, hm⟩ := letv_some hm
    refine WD_pureG rfl rfl rfl rfl guard_pos (fun _ => (Run.eqB (Run_eqI (Opd.g rfl id) Opd.c) e91)) rfl rfl rfl <| ?_
    obtain ⟨b92, e93, hm⟩ := letv_some hm
    refine WD_pure (fun _ => (Run.eqB (Run_and (Opd.t rfl) (Opd.g rfl id)) e93)) rfl rfl rfl rfl <| WD_pure (fun _ => (Run_move (Opd.t rfl))) rfl rfl rfl rfl <| WD_pureG rfl rfl rfl rfl guard_pos (fun _ => (Run_move (Opd.t rfl))) rfl rfl rfl <| ?_
    obtain ⟨b94, e95, hm⟩ := letv_some hm
    refine WD_pureG rfl rfl rfl rfl guard_pos (fun _ => (Run.eqB (Run_eqI (Opd.g rfl id) Opd.c) e95)) rfl rfl rfl <| ?_
    obtain ⟨b96, e97, hm⟩ := letv_some hm
    refine WD_pure (fun _ => (Run.eqB (Run_and (Opd.t rfl) (Opd.g rfl id)) e97)) rfl rfl rfl rfl <| WD_pure (fun _ => (Run_move (Opd.t rfl))) rfl rfl rfl rfl <| WD_pureG rfl rfl rfl rfl guard_pos (fun _ => (Run_move (Opd.t rfl))) rfl rfl rfl <| ?_
    obtain ⟨b98, e99, hm⟩ := letv_some hm
    refine WD_pureG rfl rfl rfl rfl guard_pos (fun _ => (Run.eqB (Run_eqI (Opd.g rfl id) Opd.c) e99)) rfl rfl rfl <| ?_
    obtain ⟨b100, e101, hm⟩ := letv_some hm
    refine WD_pure (fun _ => (Run.eqB (Run_and (Opd.t rfl) (Opd.g rfl id)) e101)) rfl rfl rfl rfl <| WD_pure (fun _ => (Run_move (Opd.t rfl))) rfl rfl rfl rfl <| WD_pureG rfl rfl rfl rfl guard_pos (fun _ => (Run_move (Opd.t rfl))) rfl rfl rfl <| ?_
    obtain ⟨b102, e103, hm⟩ := letv_some hm
    refine WD_pureG rfl rfl rfl rfl guard_pos (fun _ => (Run.eqB (Run_eqI (Opd.g rfl id) Opd.c) e103)) rfl rfl rfl <| ?_
    obtain ⟨b104, e105, hm⟩ := letv_some hm
    refine WD_pure (fun _ => (Run.eqB (Run_and (Opd.t rfl) (Opd.g rfl id)) e105)) rfl rfl rfl rfl <| WD_pure (fun _ => (Run_move (Opd.t rfl))) rfl rfl rfl rfl <| WD_pureG rfl rfl rfl rfl guard_pos (fun _ => (Run_move (Opd.t rfl))) rfl rfl rfl <| ?_
    obtain ⟨b106, e107, hm⟩ := letv_some hm
    refine WD_pureG rfl rfl rfl rfl guard_pos (fun _ => (Run.eqB (Run_eqI (Opd.g rfl id) Opd.c) e107)) rfl rfl rfl <| ?_
    obtain ⟨b108, e109, hm⟩ := letv_some hm
    refine WD_pure (fun _ => (Run.eqB (Run_and (Opd.t rfl) (Opd.g rfl id)) e109)) rfl rfl rfl rfl <| WD_pure (fun _ => (Run_move (Opd.t rfl))) rfl rfl rfl rfl <| WD_pureG rfl rfl rfl rfl guard_pos (fun _ => (Run_move (Opd.t rfl))) rfl rfl rfl <| ?_
    obtain ⟨b110, e111, hm⟩ := letv_some hm
    refine WD_pureG rfl rfl rfl rfl guard_pos (fun _ => (Run.eqB (Run_eqI (Opd.g rfl id) Opd.c) e111)) rfl rfl rfl <| ?_
    obtain ⟨b112, e113, hm⟩ := letv_some hm
    refine WD_pure (fun _ => (Run.eqB (Run_and (Opd.t rfl) (Opd.g rfl id)) e113)) rfl rfl rfl rfl <| WD_pure (fun _ => (Run_move (Opd.t rfl))) rfl rfl rfl rfl <| WD_pureG rfl rfl rfl rfl guard_pos (fun _ => (Run_move (Opd.t rfl))) rfl rfl rfl <| ?_
    obtain ⟨b114, e115, hm⟩ := letv_some hm
    refine WD_pureG rfl rfl rfl rfl guard_pos (fun _ => (Run.eqB (Run_eqI (Opd.g rfl id) Opd.c) e115)) rfl rfl rfl <| ?_
    obtain ⟨b116, e117, hm⟩ := letv_some hm
    refine WD_pure (fun _ => (Run.eqB (Run_and (Opd.t rfl) (Opd.g rfl id)) e117)) rfl rfl rfl rfl <| WD_pure (fun _ => (Run_move (Opd.t rfl))) rfl rfl rfl rfl <| WD_opG (fun w => CellsAt w ⟨b46, 0, none⟩ [(.int .i64 r41.1.op), (.int .i64 r41.1.n), (.int .i64 r41.1.at_), (sl v43)]) ((hs.box (i := 4) rfl).part 0 rfl) rfl rfl rfl rfl guard_pos (fun _ hJ => (Run_loadA (vs := [(.int .i64 r41.1.op), (.int .i64 r41.1.n), (.int .i64 r41.1.at_), (sl v43)]) Tryd.underlying24 rfl ti24 (Opd.t rfl) (fun _ => hJ) rfl)) rfl rfl rfl <| ?_
    refine WD_loud (pend' := [(64, fun w => CellsAt w ⟨b46, 0, none⟩ [(.int .i64 r41.1.op), (.int .i64 r41.1.n), (.int .i64 r41.1.at_), (sl v43)]), (24, fun w => b70 = true → CellsAt w ((elA (sl v5) 1 4).add 0) [(.int .i64 e72.op)]), (21, fun w => CellsAt w ⟨b8, 3, none⟩ [(sl v5)]), (16, fun w => b60 = true → CellsAt w ((elA (sl v5) 0 4).add 0) [(.int .i64 e62.op)]), (13, fun w => CellsAt w ⟨b8, 3, none⟩ [(sl v5)]), (8, fun w => CellsAt w ⟨b8, 0, none⟩ [(.int .i64 r3.1.op)])]) rfl (by kernel_rfl) ?_
    refine WS_litG (A := (RI .i64)) (xs := [2, 5]) (zs := [(.int .i64 0)]) (cells := [(.int .i64 2), (.int .i64 5)]) (parts := [(0, (.const (.int .i64 2))), (1, (.const (.int .i64 5)))]) rfl rfl rfl guard_pos hs Tryd.underlying25 ti3 rfl rfl rfl (.cons Opd.c (.cons Opd.c .nil)) (by kernel_rfl) rfl (fun hg => (ARd.cons (A := (RI .i64)) (c := [(.int .i64 2)]) (x := 2) rfl (ARd.cons (A := (RI .i64)) (c := [(.int .i64 5)]) (x := 5) rfl ARd.nil))) rfl ?_
    intro v118 w119 hs
    refine WL_nil ?_
    refine At_QK (allJ_cons ((hs.box (i := 5) rfl).part 0 rfl) (allJ_cons (fun hg => (((hs.elem (i := 1) rfl) hg).sub (us := [(.int .i64 e72.op)]) 0 rfl).sub 0 rfl) (allJ_cons ((hs.box (i := 13) rfl).part 3 rfl) (allJ_cons (fun hg => (((hs.elem (i := 3) rfl) hg).sub (us := [(.int .i64 e62.op)]) 0 rfl).sub 0 rfl) (allJ_cons ((hs.box (i := 13) rfl).part 3 rfl) (allJ_cons ((hs.box (i := 13) rfl).part 0 rfl) allJ_nil)))))) ?_
    refine WD_loud (pend' := [(24, fun w => b70 = true → CellsAt w ((elA (sl v5) 1 4).add 0) [(.int .i64 e72.op)]), (21, fun w => CellsAt w ⟨b8, 3, none⟩ [(sl v5)]), (16, fun w => b60 = true → CellsAt w ((elA (sl v5) 0 4).add 0) [(.int .i64 e62.op)]), (13, fun w => CellsAt w ⟨b8, 3, none⟩ [(sl v5)]), (8, fun w => CellsAt w ⟨b8, 0, none⟩ [(.int .i64 r3.1.op)])]) rfl (by kernel_rfl) ?_
    replace hs := hs.freeze (i := 6) rfl
    obtain ⟨r120, hr121, -, hm⟩ := callG_some hm
    refine WL_callG rfl rfl rfl guard_pos (f := 24) (first := []) (cap := []) (xs := [(.tmp 137), (.tmp 138)]) (vs := [(.agg #[(.int .i64 r41.1.op), (.int .i64 r41.1.n), (.int .i64 r41.1.at_), (sl v43)]), (sl v118)]) (args := [(.agg #[(.int .i64 r41.1.op), (.int .i64 r41.1.n), (.int .i64 r41.1.at_), (sl v43)]), (sl v118)]) Tryd.call24 Opd.f (.cons (Opd.g rfl id) (.cons (Opd.g rfl id) .nil)) rfl rfl (fun hg => expr_Eval_ok ((hs.addS (hs.slG (i := 0) rfl hg)).re 19 [7, 0, 1, 2, 3, 4, 5, 6, 7, 8, 9, 10, 11, 12, 13, 14, 15, 16, 17, 18] rfl) (hr121 hg)) ?_
    intro v123 w122 hv124 hz125
    replace hs := Sat.ofG (fun hg => (hv124 hg).2.re 18 [0, 1, 2, 3, 4, 5, 6, 7, 8, 9, 10, 11, 12, 13, 14, 15, 16, 17] rfl) hz125 hs
    refine WL_sub1 (v := (.int .i64 r120)) (fun hg => (hv124 hg).1) ?_
    replace hs := Sat.n18 (Γ := Φ) hs rfl
    refine WL_nil ?_
    refine At_QK (allJ_cons (fun hg => (((hs.elem (i := 1) rfl) hg).sub (us := [(.int .i64 e72.op)]) 0 rfl).sub 0 rfl) (allJ_cons ((hs.box (i := 13) rfl).part 3 rfl) (allJ_cons (fun hg => (((hs.elem (i := 3) rfl) hg).sub (us := [(.int .i64 e62.op)]) 0 rfl).sub 0 rfl) (allJ_cons ((hs.box (i := 13) rfl).part 3 rfl) (allJ_cons ((hs.box (i := 13) rfl).part 0 rfl) allJ_nil))))) ?_
    obtain ⟨b126, e127, hm⟩ := letv_some hm
    refine WD_pureG rfl rfl rfl rfl guard_pos (fun _ => (Run.eqB (Run_eqI (Opd.g rfl id) Opd.c) e127)) rfl rfl rfl <| ?_
    obtain ⟨b128, e129, hm⟩ := letv_some hm
    refine WD_pure (fun _ => (Run.eqB (Run_and (Opd.t rfl) (Opd.g rfl id)) e129)) rfl rfl rfl rfl <| WD_pure (fun _ => (Run_move (Opd.t rfl))) rfl rfl rfl rfl <| WD_opG (fun w => CellsAt w ⟨b46, 0, none⟩ [(.int .i64 r41.1.op), (.int .i64 r41.1.n), (.int .i64 r41.1.at_), (sl v43)]) ((hs.box (i := 5) rfl).part 0 rfl) rfl rfl rfl rfl guard_pos (fun _ hJ => (Run_loadA (vs := [(.int .i64 r41.1.op), (.int .i64 r41.1.n), (.int .i64 r41.1.at_), (sl v43)]) Tryd.underlying24 rfl ti24 (Opd.t rfl) (fun _ => hJ) rfl)) rfl rfl rfl <| ?_
    refine WD_loud (pend' := [(70, fun w => CellsAt w ⟨b46, 0, none⟩ [(.int .i64 r41.1.op), (.int .i64 r41.1.n), (.int .i64 r41.1.at_), (sl v43)]), (24, fun w => b70 = true → CellsAt w ((elA (sl v5) 1 4).add 0) [(.int .i64 e72.op)]), (21, fun w => CellsAt w ⟨b8, 3, none⟩ [(sl v5)]), (16, fun w => b60 = true → CellsAt w ((elA (sl v5) 0 4).add 0) [(.int .i64 e62.op)]), (13, fun w => CellsAt w ⟨b8, 3, none⟩ [(sl v5)]), (8, fun w => CellsAt w ⟨b8, 0, none⟩ [(.int .i64 r3.1.op)])]) rfl (by kernel_rfl) ?_
    refine WS_litG (A := (RI .i64)) (xs := [2, 2, 0]) (zs := [(.int .i64 0)]) (cells := [(.int .i64 2), (.int .i64 2), (.int .i64 0)]) (parts := [(0, (.const (.int .i64 2))), (1, (.const (.int .i64 2))), (2, (.const (.int .i64 0)))]) rfl rfl rfl guard_pos hs Tryd.underlying25 ti3 rfl rfl rfl (.cons Opd.c (.cons Opd.c (.cons Opd.c .nil))) (by kernel_rfl) rfl (fun hg => (ARd.cons (A := (RI .i64)) (c := [(.int .i64 2)]) (x := 2) rfl (ARd.cons (A := (RI .i64)) (c := [(.int .i64 2)]) (x := 2) rfl (ARd.cons (A := (RI .i64)) (c := [(.int .i64 0)]) (x := 0) rfl ARd.nil)))) rfl ?_
    intro v130 w131 hs
    refine WL_nil ?_
    refine At_QK (allJ_cons ((hs.box (i := 6) rfl).part 0 rfl) (allJ_cons (fun hg => (((hs.elem (i := 2) rfl) hg).sub (us := [(.int .i64 e72.op)]) 0 rfl).sub 0 rfl) (allJ_cons ((hs.box (i := 14) rfl).part 3 rfl) (allJ_cons (fun hg => (((hs.elem (i := 4) rfl) hg).sub (us := [(.int .i64 e62.op)]) 0 rfl).sub 0 rfl) (allJ_cons ((hs.box (i := 14) rfl).part 3 rfl) (allJ_cons ((hs.box (i := 14) rfl).part 0 rfl) allJ_nil)))))) ?_
    refine WD_loud (pend' := [(24, fun w => b70 = true → CellsAt w ((elA (sl v5) 1 4).add 0) [(.int .i64 e72.op)]), (21, fun w => CellsAt w ⟨b8, 3, none⟩ [(sl v5)]), (16, fun w => b60 = true → CellsAt w ((elA (sl v5) 0 4).add 0) [(.int .i64 e62.op)]), (13, fun w => CellsAt w ⟨b8, 3, none⟩ [(sl v5)]), (8, fun w => CellsAt w ⟨b8, 0, none⟩ [(.int .i64 r3.1.op)])]) rfl (by kernel_rfl) ?_
    obtain ⟨r132, hr133, -, hm⟩ := callG_some hm
    refine WL_callG rfl rfl rfl guard_pos (f := 24) (first := []) (cap := []) (xs := [(.tmp 143), (.tmp 144)]) (vs := [(.agg #[(.int .i64 r41.1.op), (.int .i64 r41.1.n), (.int .i64 r41.1.at_), (sl v43)]), (sl v130)]) (args := [(.agg #[(.int .i64 r41.1.op), (.int .i64 r41.1.n), (.int .i64 r41.1.at_), (sl v43)]), (sl v130)]) Tryd.call24 Opd.f (.cons (Opd.g rfl id) (.cons (Opd.g rfl id) .nil)) rfl rfl (fun hg => expr_Eval_ok ((hs.addS (hs.slG (i := 0) rfl hg)).re 20 [8, 0, 1, 2, 3, 4, 5, 6, 7, 8, 9, 10, 11, 12, 13, 14, 15, 16, 17, 18, 19] rfl) (hr133 hg)) ?_
    intro v135 w134 hv136 hz137
    replace hs := Sat.ofG (fun hg => (hv136 hg).2.re 19 [0, 1, 2, 3, 4, 5, 6, 7, 8, 9, 10, 11, 12, 13, 14, 15, 16, 17, 18] rfl) hz137 hs
    refine WL_sub1 (v := (.int .i64 r132)) (fun hg => (hv136 hg).1) ?_
    replace hs := Sat.n19 (Γ := Φ) hs rfl
    refine WL_nil ?_
    refine At_QK (allJ_cons (fun hg => (((hs.elem (i := 2) rfl) hg).sub (us := [(.int .i64 e72.op)]) 0 rfl).sub 0 rfl) (allJ_cons ((hs.box (i := 14) rfl).part 3 rfl) (allJ_cons (fun hg => (((hs.elem (i := 4) rfl) hg).sub (us := [(.int .i64 e62.op)]) 0 rfl).sub 0 rfl) (allJ_cons ((hs.box (i := 14) rfl).part 3 rfl) (allJ_cons ((hs.box (i := 14) rfl).part 0 rfl) allJ_nil))))) ?_
    obtain ⟨b138, e139, hm⟩ := letv_some hm
    refine WD_pureG rfl rfl rfl rfl guard_pos (fun _ => (Run.eqB (Run_eqI (Opd.g rfl id) Opd.c) e139)) rfl rfl rfl <| ?_
    obtain ⟨b140, e141, hm⟩ := letv_some hm
    refine WD_pure (fun _ => (Run.eqB (Run_and (Opd.t rfl) (Opd.g rfl id)) e141)) rfl rfl rfl rfl <| WD_pure (fun _ => (Run_move (Opd.t rfl))) rfl rfl rfl rfl <| WD_opG (fun w => CellsAt w ⟨b8, 0, none⟩ [(.int .i64 r3.1.op), (.int .i64 r3.1.n), (.int .i64 r3.1.at_), (sl v5)]) ((hs.box (i := 14) rfl).part 0 rfl) rfl rfl rfl rfl guard_pos (fun _ hJ => (Run_loadA (vs := [(.int .i64 r3.1.op), (.int .i64 r3.1.n), (.int .i64 r3.1.at_), (sl v5)]) Tryd.underlying24 rfl ti24 (Opd.t rfl) (fun _ => hJ) rfl)) rfl rfl rfl <| ?_
    refine WD_loud (pend' := [(76, fun w => CellsAt w ⟨b8, 0, none⟩ [(.int .i64 r3.1.op), (.int .i64 r3.1.n), (.int .i64 r3.1.at_), (sl v5)]), (24, fun w => b70 = true → CellsAt w ((elA (sl v5) 1 4).add 0) [(.int .i64 e72.op)]), (21, fun w => CellsAt w ⟨b8, 3, none⟩ [(sl v5)]), (16, fun w => b60 = true → CellsAt w ((elA (sl v5) 0 4).add 0) [(.int .i64 e62.op)]), (13, fun w => CellsAt w ⟨b8, 3, none⟩ [(sl v5)]), (8, fun w => CellsAt w ⟨b8, 0, none⟩ [(.int .i64 r3.1.op)])]) rfl (by kernel_rfl) ?_
    obtain ⟨r142, hr143, -, hm⟩ := callG_some hm
    refine WL_callG rfl rfl rfl guard_pos (f := 22) (first := []) (cap := []) (xs := []) (vs := []) (args := []) Tryd.call22 Opd.f .nil rfl rfl (fun hg => scrutinylaw13_names_ok (hs.re 19 [0, 1, 2, 3, 4, 5, 6, 7, 8, 9, 10, 11, 12, 13, 14, 15, 16, 17, 18] rfl) (hr143 hg)) ?_
    intro v147 w146 hv148 hz149
    obtain ⟨v144, hw150, hs⟩ : ∃ v144 : SLV, (b140 = true → v147 = (sl v144)) ∧ Sat (immG b140 (RSl RS) [sl v144] r142 :: immG b128 (RSl (RI .i64)) [sl v130] ([2, 2, 0] : List Int) :: immG b116 (RSl (RI .i64)) [sl v118] ([2, 5] : List Int) :: elem b70 (elA (sl v5) 1 4) [(.int .i64 e72.op), (.int .i64 e72.n), (.int .i64 e72.at_), (sl v74)] :: immG b70 (RSl RExpr) [sl v74] e72.l :: elem b60 (elA (sl v5) 0 4) [(.int .i64 e62.op), (.int .i64 e62.n), (.int .i64 e62.at_), (sl v64)] :: immG b60 (RSl RExpr) [sl v64] e62.l :: box b46 24 [(.int .i64 r41.1.op), (.int .i64 r41.1.n), (.int .i64 r41.1.at_), (sl v43)] :: imm (RSl RExpr) [sl v43] r41.1.l :: box b38 24 [(.int .i64 r33.1.op), (.int .i64 r33.1.n), (.int .i64 r33.1.at_), (sl v35)] :: osl RExpr 24 (sl v35) r33.1.l R36 :: box b30 24 [(.int .i64 r25.1.op), (.int .i64 r25.1.n), (.int .i64 r25.1.at_), (sl v27)] :: osl RExpr 24 (sl v27) r25.1.l R28 :: box b19 24 [(.int .i64 r14.1.op), (.int .i64 r14.1.n), (.int .i64 r14.1.at_), (sl v16)] :: imm (RSl RExpr) [sl v16] r14.1.l :: box b8 24 [(.int .i64 r3.1.op), (.int .i64 r3.1.n), (.int .i64 r3.1.at_), (sl v5)] :: imm (RSl RExpr) [sl v5] r3.1.l :: gl 0 (keysL.map S) :: gl 1 (textsL.map S) :: gl 2 (pow10L.map (Value.int .u64)) :: Φ) w146 := by
      cases hg : b140
      · rw [hz149 hg]; exact ⟨(none, 0, 0), (fun h => by cases h), (sat_addG0 hs rfl)⟩
      · obtain ⟨v144, R145, hq, hs⟩ := hv148 hg
        replace hs := hs.freeze (i := 0) rfl
        replace hs := hs.re 20 [0, 1, 2, 3, 4, 5, 6, 7, 8, 9, 10, 11, 12, 13, 14, 15, 16, 17, 18, 19] rfl
        replace hs := sat_gate hs (i := 0) rfl true
        exact ⟨v144, (fun _ => hq), hs⟩
    refine WL_sub1 (v := (sl v144)) hw150 ?_
    refine WL_nil ?_
    refine At_QK (allJ_cons ((hs.box (i := 15) rfl).part 0 rfl) (allJ_cons (fun hg => (((hs.elem (i := 3) rfl) hg).sub (us := [(.int .i64 e72.op)]) 0 rfl).sub 0 rfl) (allJ_cons ((hs.box (i := 15) rfl).part 3 rfl) (allJ_cons (fun hg => (((hs.elem (i := 5) rfl) hg).sub (us := [(.int .i64 e62.op)]) 0 rfl).sub 0 rfl) (allJ_cons ((hs.box (i := 15) rfl).part 3 rfl) (allJ_cons ((hs.box (i := 15) rfl).part 0 rfl) allJ_nil)))))) ?_
    refine WD_loud (pend' := [(24, fun w => b70 = true → CellsAt w ((elA (sl v5) 1 4).add 0) [(.int .i64 e72.op)]), (21, fun w => CellsAt w ⟨b8, 3, none⟩ [(sl v5)]), (16, fun w => b60 = true → CellsAt w ((elA (sl v5) 0 4).add 0) [(.int .i64 e62.op)]), (13, fun w => CellsAt w ⟨b8, 3, none⟩ [(sl v5)]), (8, fun w => CellsAt w ⟨b8, 0, none⟩ [(.int .i64 r3.1.op)])]) rfl (by kernel_rfl) ?_
    obtain ⟨r151, hr152, -, hm⟩ := callG_some hm
    refine WL_callG rfl rfl rfl guard_pos (f := 21) (first := []) (cap := []) (xs := [(.tmp 149), (.tmp 150)]) (vs := [(.agg #[(.int .i64 r3.1.op), (.int .i64 r3.1.n), (.int .i64 r3.1.at_), (sl v5)]), (sl v144)]) (args := [(.agg #[(.int .i64 r3.1.op), (.int .i64 r3.1.n), (.int .i64 r3.1.at_), (sl v5)]), (sl v144)]) Tryd.call21 Opd.f (.cons (Opd.g rfl id) (.cons (Opd.g rfl id) .nil)) rfl rfl (fun hg => expr_Show_ok ((hs.addS (hs.slG (i := 0) rfl hg)).re 21 [17, 0, 19, 20, 1, 2, 3, 4, 5, 6, 7, 8, 9, 10, 11, 12, 13, 14, 15, 16, 17, 18, 19, 20] rfl) (hr152 hg)) ?_
    intro v154 w153 hv155 hz156
    replace hs := Sat.ofG (fun hg => (hv155 hg).2.re 20 [0, 1, 2, 3, 4, 5, 6, 7, 8, 9, 10, 11, 12, 13, 14, 15, 16, 17, 18, 19] rfl) hz156 hs
    refine WL_sub1 (v := (S r151)) (fun hg => (hv155 hg).1) ?_
    replace hs := Sat.n20 (Γ := Φ) hs rfl
    refine WL_nil ?_
    refine At_QK (allJ_cons (fun hg => (((hs.elem (i := 3) rfl) hg).sub (us := [(.int .i64 e72.op)]) 0 rfl).sub 0 rfl) (allJ_cons ((hs.box (i := 15) rfl).part 3 rfl) (allJ_cons (fun hg => (((hs.elem (i := 5) rfl) hg).sub (us := [(.int .i64 e62.op)]) 0 rfl).sub 0 rfl) (allJ_cons ((hs.box (i := 15) rfl).part 3 rfl) (allJ_cons ((hs.box (i := 15) rfl).part 0 rfl) allJ_nil))))) ?_
    obtain ⟨b157, e158, hm⟩ := letv_some hm
    refine WD_pureG rfl rfl rfl rfl guard_pos (fun _ => (Run.eqB (Run_eqS (Opd.g rfl id) Opd.c) e158)) rfl rfl rfl <| ?_
    obtain ⟨b159, e160, hm⟩ := letv_some hm
    refine WD_pure (fun _ => (Run.eqB (Run_and (Opd.t rfl) (Opd.g rfl id)) e160)) rfl rfl rfl rfl <| WD_pure (fun _ => (Run_move (Opd.t rfl))) rfl rfl rfl rfl <| WD_opG (fun w => CellsAt w ⟨b8, 0, none⟩ [(.int .i64 r3.1.op), (.int .i64 r3.1.n), (.int .i64 r3.1.at_), (sl v5)]) ((hs.box (i := 15) rfl).part 0 rfl) rfl rfl rfl rfl guard_pos (fun _ hJ => (Run_loadA (vs := [(.int .i64 r3.1.op), (.int .i64 r3.1.n), (.int .i64 r3.1.at_), (sl v5)]) Tryd.underlying24 rfl ti24 (Opd.t rfl) (fun _ => hJ) rfl)) rfl rfl rfl <| ?_
    refine WD_loud (pend' := [(24, fun w => b70 = true → CellsAt w ((elA (sl v5) 1 4).add 0) [(.int .i64 e72.op)]), (21, fun w => CellsAt w ⟨b8, 3, none⟩ [(sl v5)]), (16, fun w => b60 = true → CellsAt w ((elA (sl v5) 0 4).add 0) [(.int .i64 e62.op)]), (13, fun w => CellsAt w ⟨b8, 3, none⟩ [(sl v5)]), (8, fun w => CellsAt w ⟨b8, 0, none⟩ [(.int .i64 r3.1.op)])]) rfl (by kernel_rfl) ?_
    obtain ⟨r161, hr162, -, hm⟩ := callG_some hm
    refine WL_callG rfl rfl rfl guard_pos (f := 16) (first := []) (cap := []) (xs := [(.tmp 155)]) (vs := [(.agg #[(.int .i64 r3.1.op), (.int .i64 r3.1.n), (.int .i64 r3.1.at_), (sl v5)])]) (args := [(.agg #[(.int .i64 r3.1.op), (.int .i64 r3.1.n), (.int .i64 r3.1.at_), (sl v5)])]) Tryd.call16 Opd.f (.cons (Opd.g rfl id) .nil) rfl rfl (fun hg => expr_Size_ok (hs.re 20 [16, 0, 1, 2, 3, 4, 5, 6, 7, 8, 9, 10, 11, 12, 13, 14, 15, 16, 17, 18, 19] rfl) (hr162 hg)) ?_
    intro v164 w163 hv165 hz166
    replace hs := Sat.ofG (fun hg => (hv165 hg).2.re 20 [0, 1, 2, 3, 4, 5, 6, 7, 8, 9, 10, 11, 12, 13, 14, 15, 16, 17, 18, 19] rfl) hz166 hs
    refine WL_sub1 (v := (.int .i64 r161)) (fun hg => (hv165 hg).1) ?_
    replace hs := Sat.n20 (Γ := Φ) hs rfl
    refine WL_nil ?_
    refine At_QK (allJ_cons (fun hg => (((hs.elem (i := 3) rfl) hg).sub (us := [(.int .i64 e72.op)]) 0 rfl).sub 0 rfl) (allJ_cons ((hs.box (i := 15) rfl).part 3 rfl) (allJ_cons (fun hg => (((hs.elem (i := 5) rfl) hg).sub (us := [(.int .i64 e62.op)]) 0 rfl).sub 0 rfl) (allJ_cons ((hs.box (i := 15) rfl).part 3 rfl) (allJ_cons ((hs.box (i := 15) rfl).part 0 rfl) allJ_nil))))) ?_
    obtain ⟨b167, e168, hm⟩ := letv_some hm
    refine WD_pureG rfl rfl rfl rfl guard_pos (fun _ => (Run.eqB (Run_eqI (Opd.g rfl id) Opd.c) e168)) rfl rfl rfl <| ?_
    obtain ⟨b169, e170, hm⟩ := letv_some hm
    refine WD_pure (fun _ => (Run.eqB (Run_and (Opd.t rfl) (Opd.g rfl id)) e170)) rfl rfl rfl rfl <| WD_pure (fun _ => (Run_move (Opd.t rfl))) rfl rfl rfl rfl <| WD_opG (fun w => CellsAt w ⟨b8, 0, none⟩ [(.int .i64 r3.1.op), (.int .i64 r3.1.n), (.int .i64 r3.1.at_), (sl v5)]) ((hs.box (i := 15) rfl).part 0 rfl) rfl rfl rfl rfl guard_pos (fun _ hJ => (Run_loadA (vs := [(.int .i64 r3.1.op), (.int .i64 r3.1.n), (.int .i64 r3.1.at_), (sl v5)]) Tryd.underlying24 rfl ti24 (Opd.t rfl) (fun _ => hJ) rfl)) rfl rfl rfl <| WD_opG (fun w => CellsAt w ⟨b8, 0, none⟩ [(.int .i64 r3.1.op), (.int .i64 r3.1.n), (.int .i64 r3.1.at_), (sl v5)]) ((hs.box (i := 15) rfl).part 0 rfl) rfl rfl rfl rfl guard_pos (fun _ hJ => (Run_loadA (vs := [(.int .i64 r3.1.op), (.int .i64 r3.1.n), (.int .i64 r3.1.at_), (sl v5)]) Tryd.underlying24 rfl ti24 (Opd.t rfl) (fun _ => hJ) rfl)) rfl rfl rfl <| ?_
    refine WD_loud (pend' := [(24, fun w => b70 = true → CellsAt w ((elA (sl v5) 1 4).add 0) [(.int .i64 e72.op)]), (21, fun w => CellsAt w ⟨b8, 3, none⟩ [(sl v5)]), (16, fun w => b60 = true → CellsAt w ((elA (sl v5) 0 4).add 0) [(.int .i64 e62.op)]), (13, fun w => CellsAt w ⟨b8, 3, none⟩ [(sl v5)]), (8, fun w => CellsAt w ⟨b8, 0, none⟩ [(.int .i64 r3.1.op)])]) rfl (by kernel_rfl) ?_
    obtain ⟨r171, hr172, -, hm⟩ := callG_some hm
    refine WL_callG rfl rfl rfl guard_pos (f := 14) (first := []) (cap := []) (xs := [(.tmp 160), (.tmp 161)]) (vs := [(.agg #[(.int .i64 r3.1.op), (.int .i64 r3.1.n), (.int .i64 r3.1.at_), (sl v5)]), (.agg #[(.int .i64 r3.1.op), (.int .i64 r3.1.n), (.int .i64 r3.1.at_), (sl v5)])]) (args := [(.agg #[(.int .i64 r3.1.op), (.int .i64 r3.1.n), (.int .i64 r3.1.at_), (sl v5)]), (.agg #[(.int .i64 r3.1.op), (.int .i64 r3.1.n), (.int .i64 r3.1.at_), (sl v5)])]) Tryd.call14 Opd.f (.cons (Opd.g rfl id) (.cons (Opd.g rfl id) .nil)) rfl rfl (fun hg => expr_Same_ok (hs.re 20 [16, 16, 0, 1, 2, 3, 4, 5, 6, 7, 8, 9, 10, 11, 12, 13, 14, 15, 16, 17, 18, 19] rfl) (hr172 hg)) ?_
    intro v174 w173 hv175 hz176
    replace hs := Sat.ofG (fun hg => (hv175 hg).2.re 20 [0, 1, 2, 3, 4, 5, 6, 7, 8, 9, 10, 11, 12, 13, 14, 15, 16, 17, 18, 19] rfl) hz176 hs
    refine WL_sub1 (v := (.bool r171)) (fun hg => (hv175 hg).1) ?_
    replace hs := Sat.n20 (Γ := Φ) hs rfl
    refine WL_nil ?_
    refine At_QK (allJ_cons (fun hg => (((hs.elem (i := 3) rfl) hg).sub (us := [(.int .i64 e72.op)]) 0 rfl).sub 0 rfl) (allJ_cons ((hs.box (i := 15) rfl).part 3 rfl) (allJ_cons (fun hg => (((hs.elem (i := 5) rfl) hg).sub (us := [(.int .i64 e62.op)]) 0 rfl).sub 0 rfl) (allJ_cons ((hs.box (i := 15) rfl).part 3 rfl) (allJ_cons ((hs.box (i := 15) rfl).part 0 rfl) allJ_nil))))) ?_
    obtain ⟨b177, e178, hm⟩ := letv_some hm
    refine WD_pure (fun _ => (Run.eqB (Run_and (Opd.t rfl) (Opd.g rfl id)) e178)) rfl rfl rfl rfl <| WD_pure (fun _ => (Run_move (Opd.t rfl))) rfl rfl rfl rfl <| WD_opG (fun w => CellsAt w ⟨b8, 0, none⟩ [(.int .i64 r3.1.op), (.int .i64 r3.1.n), (.int .i64 r3.1.at_), (sl v5)]) ((hs.box (i := 15) rfl).part 0 rfl) rfl rfl rfl rfl guard_pos (fun _ hJ => (Run_loadA (vs := [(.int .i64 r3.1.op), (.int .i64 r3.1.n), (.int .i64 r3.1.at_), (sl v5)]) Tryd.underlying24 rfl ti24 (Opd.t rfl) (fun _ => hJ) rfl)) rfl rfl rfl <| WD_opG (fun w => CellsAt w ⟨b19, 0, none⟩ [(.int .i64 r14.1.op), (.int .i64 r14.1.n), (.int .i64 r14.1.at_), (sl v16)]) ((hs.box (i := 13) rfl).part 0 rfl) rfl rfl rfl rfl guard_pos (fun _ hJ => (Run_loadA (vs := [(.int .i64 r14.1.op), (.int .i64 r14.1.n), (.int .i64 r14.1.at_), (sl v16)]) Tryd.underlying24 rfl ti24 (Opd.t rfl) (fun _ => hJ) rfl)) rfl rfl rfl <| ?_
    refine WD_loud (pend' := [(24, fun w => b70 = true → CellsAt w ((elA (sl v5) 1 4).add 0) [(.int .i64 e72.op)]), (21, fun w => CellsAt w ⟨b8, 3, none⟩ [(sl v5)]), (16, fun w => b60 = true → CellsAt w ((elA (sl v5) 0 4).add 0) [(.int .i64 e62.op)]), (13, fun w => CellsAt w ⟨b8, 3, none⟩ [(sl v5)]), (8, fun w => CellsAt w ⟨b8, 0, none⟩ [(.int .i64 r3.1.op)])]) rfl (by kernel_rfl) ?_
    obtain ⟨r179, hr180, -, hm⟩ := callG_some hm
    refine WL_callG rfl rfl rfl guard_pos (f := 14) (first := []) (cap := []) (xs := [(.tmp 165), (.tmp 166)]) (vs := [(.agg #[(.int .i64 r3.1.op), (.int .i64 r3.1.n), (.int .i64 r3.1.at_), (sl v5)]), (.agg #[(.int .i64 r14.1.op), (.int .i64 r14.1.n), (.int .i64 r14.1.at_), (sl v16)])]) (args := [(.agg #[(.int .i64 r3.1.op), (.int .i64 r3.1.n), (.int .i64 r3.1.at_), (sl v5)]), (.agg #[(.int .i64 r14.1.op), (.int .i64 r14.1.n), (.int .i64 r14.1.at_), (sl v16)])]) Tryd.call14 Opd.f (.cons (Opd.g rfl id) (.cons (Opd.g rfl id) .nil)) rfl rfl (fun hg => expr_Same_ok (hs.re 20 [16, 14, 0, 1, 2, 3, 4, 5, 6, 7, 8, 9, 10, 11, 12, 13, 14, 15, 16, 17, 18, 19] rfl) (hr180 hg)) ?_
    intro v182 w181 hv183 hz184
    replace hs := Sat.ofG (fun hg => (hv183 hg).2.re 20 [0, 1, 2, 3, 4, 5, 6, 7, 8, 9, 10, 11, 12, 13, 14, 15, 16, 17, 18, 19] rfl) hz184 hs
    refine WL_sub1 (v := (.bool r179)) (fun hg => (hv183 hg).1) ?_
    replace hs := Sat.n20 (Γ := Φ) hs rfl
    refine WL_nil ?_
    refine At_QK (allJ_cons (fun hg => (((hs.elem (i := 3) rfl) hg).sub (us := [(.int .i64 e72.op)]) 0 rfl).sub 0 rfl) (allJ_cons ((hs.box (i := 15) rfl).part 3 rfl) (allJ_cons (fun hg => (((hs.elem (i := 5) rfl) hg).sub (us := [(.int .i64 e62.op)]) 0 rfl).sub 0 rfl) (allJ_cons ((hs.box (i := 15) rfl).part 3 rfl) (allJ_cons ((hs.box (i := 15) rfl).part 0 rfl) allJ_nil))))) ?_
    obtain ⟨b185, e186, hm⟩ := letv_some hm
    refine WD_pureG rfl rfl rfl rfl guard_pos (fun _ => (Run.eqB (Run_notB (Opd.g rfl id)) e186)) rfl rfl rfl <| ?_
    obtain ⟨b187, e188, hm⟩ := letv_some hm
    refine WD_pure (fun _ => (Run.eqB (Run_and (Opd.t rfl) (Opd.g rfl id)) e188)) rfl rfl rfl rfl <| WD_pure (fun _ => (Run_move (Opd.t rfl))) rfl rfl rfl rfl <| ?_
    refine WD_loud (pend' := [(24, fun w => b70 = true → CellsAt w ((elA (sl v5) 1 4).add 0) [(.int .i64 e72.op)]), (21, fun w => CellsAt w ⟨b8, 3, none⟩ [(sl v5)]), (16, fun w => b60 = true → CellsAt w ((elA (sl v5) 0 4).add 0) [(.int .i64 e62.op)]), (13, fun w => CellsAt w ⟨b8, 3, none⟩ [(sl v5)]), (8, fun w => CellsAt w ⟨b8, 0, none⟩ [(.int .i64 r3.1.op)])]) rfl (by kernel_rfl) ?_
    obtain ⟨r189, hr190, -, hm⟩ := callG_some hm
    refine WL_callG rfl rfl rfl guard_pos (f := 12) (first := []) (cap := []) (xs := [(.const (.string ⟨#[85]⟩))]) (vs := [(S [85])]) (args := [(S [85])]) Tryd.call12 Opd.f (.cons Opd.c .nil) rfl rfl (fun hg => expr_Key_ok (hs.re 20 [17, 0, 1, 2, 3, 4, 5, 6, 7, 8, 9, 10, 11, 12, 13, 14, 15, 16, 17, 18, 19] rfl) (hr190 hg)) ?_
    intro v192 w191 hv193 hz194
    replace hs := Sat.ofG (fun hg => (hv193 hg).2.re 20 [0, 1, 2, 3, 4, 5, 6, 7, 8, 9, 10, 11, 12, 13, 14, 15, 16, 17, 18, 19] rfl) hz194 hs
    refine WL_sub1 (v := (.bool r189)) (fun hg => (hv193 hg).1) ?_
    replace hs := Sat.n20 (Γ := Φ) hs rfl
    refine WL_nil ?_
    refine At_QK (allJ_cons (fun hg => (((hs.elem (i := 3) rfl) hg).sub (us := [(.int .i64 e72.op)]) 0 rfl).sub 0 rfl) (allJ_cons ((hs.box (i := 15) rfl).part 3 rfl) (allJ_cons (fun hg => (((hs.elem (i := 5) rfl) hg).sub (us := [(.int .i64 e62.op)]) 0 rfl).sub 0 rfl) (allJ_cons ((hs.box (i := 15) rfl).part 3 rfl) (allJ_cons ((hs.box (i := 15) rfl).part 0 rfl) allJ_nil))))) ?_
    obtain ⟨b195, e196, hm⟩ := letv_some hm
    refine WD_pure (fun _ => (Run.eqB (Run_and (Opd.t rfl) (Opd.g rfl id)) e196)) rfl rfl rfl rfl <| WD_pure (fun _ => (Run_move (Opd.t rfl))) rfl rfl rfl rfl <| ?_
    refine WD_loud (pend' := [(24, fun w => b70 = true → CellsAt w ((elA (sl v5) 1 4).add 0) [(.int .i64 e72.op)]), (21, fun w => CellsAt w ⟨b8, 3, none⟩ [(sl v5)]), (16, fun w => b60 = true → CellsAt w ((elA (sl v5) 0 4).add 0) [(.int .i64 e62.op)]), (13, fun w => CellsAt w ⟨b8, 3, none⟩ [(sl v5)]), (8, fun w => CellsAt w ⟨b8, 0, none⟩ [(.int .i64 r3.1.op)])]) rfl (by kernel_rfl) ?_
    obtain ⟨r197, hr198, -, hm⟩ := callG_some hm
    refine WL_callG rfl rfl rfl guard_pos (f := 12) (first := []) (cap := []) (xs := [(.const (.string ⟨#[117]⟩))]) (vs := [(S [117])]) (args := [(S [117])]) Tryd.call12 Opd.f (.cons Opd.c .nil) rfl rfl (fun hg => expr_Key_ok (hs.re 20 [17, 0, 1, 2, 3, 4, 5, 6, 7, 8, 9, 10, 11, 12, 13, 14, 15, 16, 17, 18, 19] rfl) (hr198 hg)) ?_
    intro v200 w199 hv201 hz202
    replace hs := Sat.ofG (fun hg => (hv201 hg).2.re 20 [0, 1, 2, 3, 4, 5, 6, 7, 8, 9, 10, 11, 12, 13, 14, 15, 16, 17, 18, 19] rfl) hz202 hs
    refine WL_sub1 (v := (.bool r197)) (fun hg => (hv201 hg).1) ?_
    replace hs := Sat.n20 (Γ := Φ) hs rfl
    refine WL_nil ?_
    refine At_QK (allJ_cons (fun hg => (((hs.elem (i := 3) rfl) hg).sub (us := [(.int .i64 e72.op)]) 0 rfl).sub 0 rfl) (allJ_cons ((hs.box (i := 15) rfl).part 3 rfl) (allJ_cons (fun hg => (((hs.elem (i := 5) rfl) hg).sub (us := [(.int .i64 e62.op)]) 0 rfl).sub 0 rfl) (allJ_cons ((hs.box (i := 15) rfl).part 3 rfl) (allJ_cons ((hs.box (i := 15) rfl).part 0 rfl) allJ_nil))))) ?_
    obtain ⟨b203, e204, hm⟩ := letv_some hm
    refine WD_pureG rfl rfl rfl rfl guard_pos (fun _ => (Run.eqB (Run_notB (Opd.g rfl id)) e204)) rfl rfl rfl <| ?_
    obtain ⟨b205, e206, hm⟩ := letv_some hm
    refine WD_pure (fun _ => (Run.eqB (Run_and (Opd.t rfl) (Opd.g rfl id)) e206)) rfl rfl rfl rfl <| WD_pure (fun _ => (Run_assign (Opd.t rfl))) rfl rfl rfl rfl <| ?_
    refine WD_nil ?_
    refine At_then ?_
    refine WC_ret ?_
    refine At_r1 rfl (ResIs.t rfl) ?_
    cases hm
    exact ⟨rfl, (hs.re 20 [] rfl)⟩

end Go.Proofs.YtmeombbmhpcacaaDoor
