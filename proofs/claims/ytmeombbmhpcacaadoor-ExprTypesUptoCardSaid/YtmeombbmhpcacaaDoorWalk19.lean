/- Printed by a program: the walks. -/
import Derived.Test.YtmeombbmhpcacaaDoorWalk18
namespace Go.Proofs.YtmeombbmhpcacaaDoor
open Go.Proofs

set_option maxRecDepth 100000 in
set_option maxHeartbeats 4000000 in
theorem scrutinylaw13_ExprBinds_ok {Φ : Ctx} {w : World} {i : Int} {j : Int} {r : Bool} (hs : Sat (gl 0 (keysL.map S) :: gl 1 (textsL.map S) :: gl 2 (pow10L.map (Value.int .u64)) :: Φ) w) (hm : scrutinylaw13_ExprBinds i j = some r) :
    CallsR Tryd.prog 6 [(.int .u8 i), (.int .u8 j)] w (fun v w' => v = (.bool r) ∧ Sat (Φ) w') := by
  refine CallsX_enter Tryd.func6 rfl Tryd.ntmps6 rfl ?_
  unfold scrutinylaw13_ExprBinds at hm
  refine WC_seq ?_
  refine WC_region ?_
  refine WL_op (Run_assign Opd.c) rfl rfl rfl rfl <| ?_
  refine WL_nil ?_
  refine At_then ?_
  refine WC_seq ?_
  refine WC_region ?_
  obtain ⟨r3, hr4, hm⟩ := bind_some' hm
  refine WL_call (f := 10) (first := []) (cap := []) (xs := []) (vs := []) (args := []) Tryd.call10 Opd.f .nil rfl rfl (scrutinylaw13_shown_ok (hs.re 3 [0, 1, 2, 0, 1, 2] rfl) hr4) ?_
  rintro _ w5 ⟨rfl, hs⟩
  replace hs := Sat.n3 (Γ := Φ) hs rfl
  refine WL_op (Run_assign (Opd.t rfl)) rfl rfl rfl rfl <| ?_
  refine WL_nil ?_
  refine At_then ?_
  refine WC_seq ?_
  refine WC_region ?_
  refine WS_lit (A := RS) (xs := [[60, 45, 62], [45, 62], [124], [38], [85], [82]]) (zs := [(S [])]) (cells := [(S [60, 45, 62]), (S [45, 62]), (S [124]), (S [38]), (S [85]), (S [82])]) (parts := [(0, (.const (.string ⟨#[60, 45, 62]⟩))), (1, (.const (.string ⟨#[45, 62]⟩))), (2, (.const (.string ⟨#[124]⟩))), (3, (.const (.string ⟨#[38]⟩))), (4, (.const (.string ⟨#[85]⟩))), (5, (.const (.string ⟨#[82]⟩)))]) hs Tryd.underlying40 ti9 rfl rfl rfl (.cons Opd.c (.cons Opd.c (.cons Opd.c (.cons Opd.c (.cons Opd.c (.cons Opd.c .nil)))))) (by kernel_rfl) rfl (ARd.cons (A := RS) (c := [(S [60, 45, 62])]) (x := [60, 45, 62]) rfl (ARd.cons (A := RS) (c := [(S [45, 62])]) (x := [45, 62]) rfl (ARd.cons (A := RS) (c := [(S [124])]) (x := [124]) rfl (ARd.cons (A := RS) (c := [(S [38])]) (x := [38]) rfl (ARd.cons (A := RS) (c := [(S [85])]) (x := [85]) rfl (ARd.cons (A := RS) (c := [(S [82])]) (x := [82]) rfl ARd.nil)))))) rfl ?_
  intro b6 w7 hs
  replace hs := Sat.n4 (Γ := Φ) hs rfl
  refine WL_op (Run_assign (Opd.t rfl)) rfl rfl rfl rfl <| ?_
  refine WL_nil ?_
  refine At_then ?_
  refine WC_seq ?_
  refine WC_region ?_
  refine WS_lit (A := (RI .i64)) (xs := [1, 2, 3, 4, 5, 5]) (zs := [(.int .i64 0)]) (cells := [(.int .i64 1), (.int .i64 2), (.int .i64 3), (.int .i64 4), (.int .i64 5), (.int .i64 5)]) (parts := [(0, (.const (.int .i64 1))), (1, (.const (.int .i64 2))), (2, (.const (.int .i64 3))), (3, (.const (.int .i64 4))), (4, (.const (.int .i64 5))), (5, (.const (.int .i64 5)))]) hs Tryd.underlying25 ti3 rfl rfl rfl (.cons Opd.c (.cons Opd.c (.cons Opd.c (.cons Opd.c (.cons Opd.c (.cons Opd.c .nil)))))) (by kernel_rfl) rfl (ARd.cons (A := (RI .i64)) (c := [(.int .i64 1)]) (x := 1) rfl (ARd.cons (A := (RI .i64)) (c := [(.int .i64 2)]) (x := 2) rfl (ARd.cons (A := (RI .i64)) (c := [(.int .i64 3)]) (x := 3) rfl (ARd.cons (A := (RI .i64)) (c := [(.int .i64 4)]) (x := 4) rfl (ARd.cons (A := (RI .i64)) (c := [(.int .i64 5)]) (x := 5) rfl (ARd.cons (A := (RI .i64)) (c := [(.int .i64 5)]) (x := 5) rfl ARd.nil)))))) rfl ?_
  intro b8 w9 hs
  replace hs := Sat.n5 (Γ := Φ) hs rfl
  refine WL_op (Run_assign (Opd.t rfl)) rfl rfl rfl rfl <| ?_
  refine WL_nil ?_
  refine At_then ?_
  refine WC_seq ?_
  refine WC_region ?_
  refine WS_lit (A := RB) (xs := [true, true, false, false, true, true]) (zs := [(.bool false)]) (cells := [(.bool true), (.bool true), (.bool false), (.bool false), (.bool true), (.bool true)]) (parts := [(0, (.const (.bool true))), (1, (.const (.bool true))), (2, (.const (.bool false))), (3, (.const (.bool false))), (4, (.const (.bool true))), (5, (.const (.bool true)))]) hs Tryd.underlying53 ti4 rfl rfl rfl (.cons Opd.c (.cons Opd.c (.cons Opd.c (.cons Opd.c (.cons Opd.c (.cons Opd.c .nil)))))) (by kernel_rfl) rfl (ARd.cons (A := RB) (c := [(.bool true)]) (x := true) rfl (ARd.cons (A := RB) (c := [(.bool true)]) (x := true) rfl (ARd.cons (A := RB) (c := [(.bool false)]) (x := false) rfl (ARd.cons (A := RB) (c := [(.bool false)]) (x := false) rfl (ARd.cons (A := RB) (c := [(.bool true)]) (x := true) rfl (ARd.cons (A := RB) (c := [(.bool true)]) (x := true) rfl ARd.nil)))))) rfl ?_
  intro b10 w11 hs
  replace hs := Sat.n6 (Γ := Φ) hs rfl
  refine WL_op (Run_assign (Opd.t rfl)) rfl rfl rfl rfl <| ?_
  refine WL_nil ?_
  refine At_then ?_
  refine WC_seq ?_
  refine WC_region ?_
  refine WL_op (Run_move (Opd.t rfl)) rfl rfl rfl rfl <| WL_op (Run_conv Tryd.underlying5 Tryd.underlying3 (Opd.t rfl)) rfl rfl rfl rfl <| WL_op (Run_rem (Opd.t rfl) Opd.c (by rfl)) rfl rfl rfl rfl <| WL_op (Run_assign (Opd.t rfl)) rfl rfl rfl rfl <| ?_
  refine WL_nil ?_
  refine At_then ?_
  refine WC_seq ?_
  refine WC_region ?_
  refine WL_op (Run_move (Opd.t rfl)) rfl rfl rfl rfl <| WL_op (Run_conv Tryd.underlying5 Tryd.underlying3 (Opd.t rfl)) rfl rfl rfl rfl <| WL_op (Run_rem (Opd.t rfl) Opd.c (by rfl)) rfl rfl rfl rfl <| WL_op (Run_assign (Opd.t rfl)) rfl rfl rfl rfl <| ?_
  refine WL_nil ?_
  refine At_then ?_
  refine WC_seq ?_
  refine WC_region_mixed [0, 0, 3, 4, 8, 16, 0, 0, 192, 256, 544, 1024, 2048, 4096, 8192, 8192, 8192, 32767, 196607, 524287] (.q 0 0 (.q 1 1 (.q 2 3 (.q 3 7 (.q 4 15 (.q 5 31 (.q 6 63 (.q 7 127 (.q 8 255 (.q 9 511 (.q 10 1023 (.q 11 2047 (.l 12 4095 (.q 13 8191 (.q 14 16383 (.q 15 32767 (.q 16 65535 (.q 17 131071 (.q 18 262143 (.q 19 524287 .nil)))))))))))))))))))) (by kernel_rfl) (by kernel_rfl) ?_
  intro w12 hx13
  replace hs := hs.ext hx13
  refine WD_pure (fun _ => (Run_move (Opd.t rfl))) rfl rfl rfl rfl <| WD_pure (fun _ => (Run_move (Opd.t rfl))) rfl rfl rfl rfl <| ?_
  obtain ⟨e14, he15, hm⟩ := bind_some' hm
  refine WD_pure (fun _ => (Run_idxAddr (p := (elA (sl (some ⟨b6, 0, none⟩, 6, 6)) (Int.tmod (IntKind.i64.wrap i) 6) 1)) Tryd.underlying40 ti9 (Opd.t rfl) (Opd.t rfl) (fun hg => (Own.atA (A := RS) (v := (sl (some ⟨b6, 0, none⟩, 6, 6))) (hs.own (i := 2) rfl) he15).1))) rfl rfl rfl rfl <| WD_op (fun w => true = true → CellsAt w (elA (sl (some ⟨b6, 0, none⟩, 6, 6)) (Int.tmod (IntKind.i64.wrap i) 6) 1) [(S e14)]) (fun hg => (Own.cellsF (A := RS) (v := (sl (some ⟨b6, 0, none⟩, 6, 6))) (hs.own (i := 2) rfl) he15 (fun _ h => openT9 h)).sub 0 rfl) (fun _ hJ => (Run_load1 (v := (S e14)) Tryd.underlying9 rfl (Opd.t rfl) hJ)) rfl rfl rfl rfl <| ?_
  obtain ⟨k16, hm⟩ := chk_some hm
  refine WD_pure (fun _ => (Run_cat Opd.c (Opd.t rfl) (fun _ => k16))) rfl rfl rfl rfl <| ?_
  obtain ⟨k17, hm⟩ := chk_some hm
  refine WD_pure (fun _ => (Run_cat (Opd.t rfl) Opd.c (fun _ => k17))) rfl rfl rfl rfl <| WD_pure (fun _ => (Run_move (Opd.t rfl))) rfl rfl rfl rfl <| WD_pure (fun _ => (Run_move (Opd.t rfl))) rfl rfl rfl rfl <| ?_
  obtain ⟨e18, he19, hm⟩ := bind_some' hm
  refine WD_pure (fun _ => (Run_idxAddr (p := (elA (sl (some ⟨b6, 0, none⟩, 6, 6)) (Int.tmod (IntKind.i64.wrap j) 6) 1)) Tryd.underlying40 ti9 (Opd.t rfl) (Opd.t rfl) (fun hg => (Own.atA (A := RS) (v := (sl (some ⟨b6, 0, none⟩, 6, 6))) (hs.own (i := 2) rfl) he19).1))) rfl rfl rfl rfl <| WD_op (fun w => true = true → CellsAt w (elA (sl (some ⟨b6, 0, none⟩, 6, 6)) (Int.tmod (IntKind.i64.wrap j) 6) 1) [(S e18)]) (fun hg => (Own.cellsF (A := RS) (v := (sl (some ⟨b6, 0, none⟩, 6, 6))) (hs.own (i := 2) rfl) he19 (fun _ h => openT9 h)).sub 0 rfl) (fun _ hJ => (Run_load1 (v := (S e18)) Tryd.underlying9 rfl (Opd.t rfl) hJ)) rfl rfl rfl rfl <| ?_
  obtain ⟨k20, hm⟩ := chk_some hm
  refine WD_pure (fun _ => (Run_cat (Opd.t rfl) (Opd.t rfl) (fun _ => k20))) rfl rfl rfl rfl <| ?_
  obtain ⟨k21, hm⟩ := chk_some hm
  refine WD_pure (fun _ => (Run_cat (Opd.t rfl) Opd.c (fun _ => k21))) rfl rfl rfl rfl <| ?_
  refine WD_loud (pend' := [(9, fun w => true = true → CellsAt w (elA (sl (some ⟨b6, 0, none⟩, 6, 6)) (Int.tmod (IntKind.i64.wrap j) 6) 1) [(S e18)]), (3, fun w => true = true → CellsAt w (elA (sl (some ⟨b6, 0, none⟩, 6, 6)) (Int.tmod (IntKind.i64.wrap i) 6) 1) [(S e14)])]) rfl (by kernel_rfl) ?_
  obtain ⟨r22, hr23, hm⟩ := bind_some' hm
  refine WL_call (f := 26) (first := []) (cap := []) (xs := [(.tmp 42)]) (vs := [(S (((([116, 114, 117, 101, 32] ++ e14) ++ [32, 102, 97, 108, 115, 101, 32]) ++ e18) ++ [32, 116, 114, 117, 101]))]) (args := [(S (((([116, 114, 117, 101, 32] ++ e14) ++ [32, 102, 97, 108, 115, 101, 32]) ++ e18) ++ [32, 116, 114, 117, 101]))]) Tryd.call26 Opd.f (.cons (Opd.t rfl) .nil) rfl rfl (scrutinyref12_Tokens_ok (hs.re 6 [0, 1, 2, 3, 4, 5] rfl) hr23) ?_
  rintro _ w26 ⟨v24, R25, rfl, hs⟩
  replace hs := Sat.n7 (Γ := Φ) hs rfl
  refine WL_nil ?_
  refine At_QK (allJ_cons (fun hg => (Own.cellsF (A := RS) (v := (sl (some ⟨b6, 0, none⟩, 6, 6))) (hs.own (i := 3) rfl) he19 (fun _ h => openT9 h)).sub 0 rfl) (allJ_cons (fun hg => (Own.cellsF (A := RS) (v := (sl (some ⟨b6, 0, none⟩, 6, 6))) (hs.own (i := 3) rfl) he15 (fun _ h => openT9 h)).sub 0 rfl) allJ_nil)) ?_
  refine WD_pure (fun _ => (Run_move (Opd.t rfl))) rfl rfl rfl rfl <| WD_pure (fun _ => (Run_extract (vs := [(sl v24), (.int .i64 r22.2.1), (.int .i64 r22.2.2)]) (Opd.t rfl) rfl)) rfl rfl rfl rfl <| WD_pure (fun _ => (Run_extract (vs := [(sl v24), (.int .i64 r22.2.1), (.int .i64 r22.2.2)]) (Opd.t rfl) rfl)) rfl rfl rfl rfl <| WD_pure (fun _ => (Run_extract (vs := [(sl v24), (.int .i64 r22.2.1), (.int .i64 r22.2.2)]) (Opd.t rfl) rfl)) rfl rfl rfl rfl <| WD_pure (fun _ => (Run_assign (Opd.t rfl))) rfl rfl rfl rfl <| WD_pure (fun _ => (Run_assign (Opd.t rfl))) rfl rfl rfl rfl <| WD_pure (fun _ => (Run_assign (Opd.t rfl))) rfl rfl rfl rfl <| ?_
  refine WD_nil ?_
  refine At_then ?_
  refine WC_seq ?_
  refine WC_seq ?_
  refine WC_region ?_
  refine WL_op (Run_move (Opd.t rfl)) rfl rfl rfl rfl <| WL_op (Run_lenSlG Tryd.underlying44 (Opd.t rfl) (fun _ => (hs.own (i := 0) rfl).len)) rfl rfl rfl rfl <| WL_op (Run_eqI (Opd.t rfl) Opd.c) rfl rfl rfl rfl <| ?_
  refine WL_nil ?_
  refine At_then ?_
  refine WC_cond (Opd.t rfl) (fun hc27 => ?_) (fun hc27 => ?_)
  ·
    replace hm := bif_t hc27 hm
    refine WC_seq ?_
    refine WC_region ?_
    refine WL_op (Run_assign Opd.c) rfl rfl rfl rfl <| ?_
    refine WL_nil ?_
    refine At_then ?_
    refine WC_ret ?_
    refine At_then_ret <| ?_
    refine At_r1 rfl (ResIs.t rfl) ?_
    cases hm
    exact ⟨rfl, (hs.re 7 [] rfl)⟩
  ·
    replace hm := bif_f hc27 hm
    refine WC_skip ?_
    refine At_then ?_
    refine WC_seq ?_
    refine WC_region ?_
    refine WL_op (Run_move (Opd.t rfl)) rfl rfl rfl rfl <| ?_
    replace hs := hs.freeze (i := 0) rfl
    replace hs := hs.addNilI RS
    obtain ⟨r28, hr29, hm⟩ := bind_some' hm
    refine WL_call (f := 27) (first := []) (cap := []) (xs := [(.tmp 51), (.const (.int .i64 0)), (.const (sl (none, 0, 0)))]) (vs := [(sl v24), (.int .i64 0), (sl (none, 0, 0))]) (args := [(sl v24), (.int .i64 0), (sl (none, 0, 0))]) Tryd.call27 Opd.f (.cons (Opd.t rfl) (.cons Opd.c (.cons Opd.c .nil))) rfl rfl (expr_Parse_ok (hs.re 8 [1, 0, 5, 6, 0, 1, 2, 3, 4, 5, 6, 7] rfl) hr29) ?_
    rintro _ w32 ⟨v30, R31, rfl, hs⟩
    replace hs := Sat.n9 (Γ := Φ) hs rfl
    refine WL_op (Run_move (Opd.t rfl)) rfl rfl rfl rfl <| WL_op (Run_extract (vs := [(.agg #[(.int .i64 r28.1.op), (.int .i64 r28.1.n), (.int .i64 r28.1.at_), (sl v30)]), (.int .i64 r28.2.1), (.int .i64 r28.2.2.1), (.int .i64 r28.2.2.2)]) (Opd.t rfl) rfl) rfl rfl rfl rfl <| WL_op (Run_extract (vs := [(.agg #[(.int .i64 r28.1.op), (.int .i64 r28.1.n), (.int .i64 r28.1.at_), (sl v30)]), (.int .i64 r28.2.1), (.int .i64 r28.2.2.1), (.int .i64 r28.2.2.2)]) (Opd.t rfl) rfl) rfl rfl rfl rfl <| WL_op (Run_extract (vs := [(.agg #[(.int .i64 r28.1.op), (.int .i64 r28.1.n), (.int .i64 r28.1.at_), (sl v30)]), (.int .i64 r28.2.1), (.int .i64 r28.2.2.1), (.int .i64 r28.2.2.2)]) (Opd.t rfl) rfl) rfl rfl rfl rfl <| WL_op (Run_extract (vs := [(.agg #[(.int .i64 r28.1.op), (.int .i64 r28.1.n), (.int .i64 r28.1.at_), (sl v30)]), (.int .i64 r28.2.1), (.int .i64 r28.2.2.1), (.int .i64 r28.2.2.2)]) (Opd.t rfl) rfl) rfl rfl rfl rfl <| ?_
    refine WS_alloc (zs := [(.int .i64 0), (.int .i64 0), (.int .i64 0), (sl (none, 0, 0))]) hs ti24 rfl rfl ?_
    intro b33 w34 hs
    replace hs := Sat.n10 (Γ := Φ) hs rfl
    refine WS_store (us := [(.int .i64 r28.1.op), (.int .i64 r28.1.n), (.int .i64 r28.1.at_), (sl v30)]) (vs' := [(.int .i64 r28.1.op), (.int .i64 r28.1.n), (.int .i64 r28.1.at_), (sl v30)]) hs 0 rfl ti24 (Opd.t rfl) (Opd.t rfl) rfl rfl rfl rfl rfl ?_
    intro w35 hs
    replace hs := Sat.n10 (Γ := Φ) hs rfl
    refine WL_op (Run_assign (Opd.t rfl)) rfl rfl rfl rfl <| WL_op (Run_assign (Opd.t rfl)) rfl rfl rfl rfl <| WL_op (Run_assign (Opd.t rfl)) rfl rfl rfl rfl <| ?_
    refine WL_nil ?_
    refine At_then ?_
    refine WC_seq ?_
    refine WC_region ?_
    refine WL_op (Run_loadA (vs := [(.int .i64 r28.1.op), (.int .i64 r28.1.n), (.int .i64 r28.1.at_), (sl v30)]) Tryd.underlying24 rfl ti24 (Opd.t rfl) (fun _ => (hs.box (i := 0) rfl).part 0 rfl) rfl) rfl rfl rfl rfl <| ?_
    replace hs := hs.freeze (i := 1) rfl
    replace hs := hs.addNilI RS
    obtain ⟨r36, hr37, hm⟩ := bind_some' hm
    refine WL_call (f := 21) (first := []) (cap := []) (xs := [(.tmp 57), (.const (sl (none, 0, 0)))]) (vs := [(.agg #[(.int .i64 r28.1.op), (.int .i64 r28.1.n), (.int .i64 r28.1.at_), (sl v30)]), (sl (none, 0, 0))]) (args := [(.agg #[(.int .i64 r28.1.op), (.int .i64 r28.1.n), (.int .i64 r28.1.at_), (sl v30)]), (sl (none, 0, 0))]) Tryd.call21 Opd.f (.cons (Opd.t rfl) (.cons Opd.c .nil)) rfl rfl (expr_Show_ok (hs.re 11 [2, 0, 9, 10, 0, 1, 2, 3, 4, 5, 6, 7, 8, 9, 10] rfl) hr37) ?_
    rintro _ w38 ⟨rfl, hs⟩
    replace hs := Sat.n11 (Γ := Φ) hs rfl
    refine WL_op (Run_assign (Opd.t rfl)) rfl rfl rfl rfl <| ?_
    refine WL_nil ?_
    refine At_then ?_
    refine WC_seq ?_
    refine WC_region_mixed [0, 0, 3, 4, 0, 0, 48, 64, 136, 256, 512, 512, 3584, 4608, 512, 512, 49664, 66048, 139776, 262656, 524288, 524288, 3670016, 4718592, 8913408, 16777728, 67108863] (.q 0 0 (.q 1 1 (.q 2 3 (.q 3 7 (.q 4 15 (.q 5 31 (.q 6 63 (.q 7 127 (.q 8 255 (.q 9 511 (.q 10 1023 (.q 11 2047 (.q 12 4095 (.q 13 8191 (.q 14 16383 (.q 15 32767 (.q 16 65535 (.q 17 131071 (.q 18 262143 (.q 19 524287 (.q 20 1048575 (.q 21 2097151 (.q 22 4194303 (.q 23 8388607 (.q 24 16777215 (.q 25 33554431 (.q 26 67108863 .nil))))))))))))))))))))))))))) (by kernel_rfl) (by kernel_rfl) ?_
    intro w39 hx40
    replace hs := hs.ext hx40
    refine WD_pure (fun _ => (Run_move (Opd.t rfl))) rfl rfl rfl rfl <| WD_pure (fun _ => (Run_move (Opd.t rfl))) rfl rfl rfl rfl <| ?_
    obtain ⟨e41, he42, hm⟩ := bind_some' hm
    refine WD_pure (fun _ => (Run_idxAddr (p := (elA (sl (some ⟨b8, 0, none⟩, 6, 6)) (Int.tmod (IntKind.i64.wrap i) 6) 1)) Tryd.underlying25 ti3 (Opd.t rfl) (Opd.t rfl) (fun hg => (Own.atA (A := (RI .i64)) (v := (sl (some ⟨b8, 0, none⟩, 6, 6))) (hs.own (i := 6) rfl) he42).1))) rfl rfl rfl rfl <| WD_op (fun w => true = true → CellsAt w (elA (sl (some ⟨b8, 0, none⟩, 6, 6)) (Int.tmod (IntKind.i64.wrap i) 6) 1) [(.int .i64 e41)]) (fun hg => (Own.cellsF (A := (RI .i64)) (v := (sl (some ⟨b8, 0, none⟩, 6, 6))) (hs.own (i := 6) rfl) he42 (fun _ h => openT3 h)).sub 0 rfl) (fun _ hJ => (Run_load1 (v := (.int .i64 e41)) Tryd.underlying3 rfl (Opd.t rfl) hJ)) rfl rfl rfl rfl <| WD_pure (fun _ => (Run_move (Opd.t rfl))) rfl rfl rfl rfl <| WD_pure (fun _ => (Run_move (Opd.t rfl))) rfl rfl rfl rfl <| ?_
    obtain ⟨e43, he44, hm⟩ := bind_some' hm
    refine WD_pure (fun _ => (Run_idxAddr (p := (elA (sl (some ⟨b8, 0, none⟩, 6, 6)) (Int.tmod (IntKind.i64.wrap j) 6) 1)) Tryd.underlying25 ti3 (Opd.t rfl) (Opd.t rfl) (fun hg => (Own.atA (A := (RI .i64)) (v := (sl (some ⟨b8, 0, none⟩, 6, 6))) (hs.own (i := 6) rfl) he44).1))) rfl rfl rfl rfl <| WD_op (fun w => true = true → CellsAt w (elA (sl (some ⟨b8, 0, none⟩, 6, 6)) (Int.tmod (IntKind.i64.wrap j) 6) 1) [(.int .i64 e43)]) (fun hg => (Own.cellsF (A := (RI .i64)) (v := (sl (some ⟨b8, 0, none⟩, 6, 6))) (hs.own (i := 6) rfl) he44 (fun _ h => openT3 h)).sub 0 rfl) (fun _ hJ => (Run_load1 (v := (.int .i64 e43)) Tryd.underlying3 rfl (Opd.t rfl) hJ)) rfl rfl rfl rfl <| ?_
    obtain ⟨b45, e46, hm⟩ := letv_some hm
    refine WD_pure (fun _ => (Run.eqB (Run_ltI (Opd.t rfl) (Opd.t rfl)) e46)) rfl rfl rfl rfl <| WD_pure (fun _ => (Run_move (Opd.t rfl))) rfl rfl rfl rfl <| WD_pureG rfl rfl rfl rfl guard_neg (fun _ => (Run_move (Opd.t rfl))) rfl rfl rfl <| WD_pureG rfl rfl rfl rfl guard_neg (fun _ => (Run_move (Opd.t rfl))) rfl rfl rfl <| ?_
    obtain ⟨e47, he48, -, hm⟩ := callG_some hm
    refine WD_pureG rfl rfl rfl rfl guard_neg (fun _ => (Run_idxAddr (p := (elA (sl (some ⟨b8, 0, none⟩, 6, 6)) (Int.tmod (IntKind.i64.wrap i) 6) 1)) Tryd.underlying25 ti3 (Opd.g rfl id) (Opd.g rfl id) (fun hg => (Own.atA (A := (RI .i64)) (v := (sl (some ⟨b8, 0, none⟩, 6, 6))) (hs.own (i := 6) rfl) (he48 hg)).1))) rfl rfl rfl <| WD_opG (fun w => (!b45) = true → CellsAt w (elA (sl (some ⟨b8, 0, none⟩, 6, 6)) (Int.tmod (IntKind.i64.wrap i) 6) 1) [(.int .i64 e47)]) (fun hg => (Own.cellsF (A := (RI .i64)) (v := (sl (some ⟨b8, 0, none⟩, 6, 6))) (hs.own (i := 6) rfl) (he48 hg) (fun _ h => openT3 h)).sub 0 rfl) rfl rfl rfl rfl guard_neg (fun _ hJ => (Run_load1 (v := (.int .i64 e47)) Tryd.underlying3 rfl (Opd.g rfl id) hJ)) rfl rfl rfl <| WD_pureG rfl rfl rfl rfl guard_neg (fun _ => (Run_move (Opd.t rfl))) rfl rfl rfl <| WD_pureG rfl rfl rfl rfl guard_neg (fun _ => (Run_move (Opd.t rfl))) rfl rfl rfl <| ?_
    obtain ⟨e49, he50, -, hm⟩ := callG_some hm
    refine WD_pureG rfl rfl rfl rfl guard_neg (fun _ => (Run_idxAddr (p := (elA (sl (some ⟨b8, 0, none⟩, 6, 6)) (Int.tmod (IntKind.i64.wrap j) 6) 1)) Tryd.underlying25 ti3 (Opd.g rfl id) (Opd.g rfl id) (fun hg => (Own.atA (A := (RI .i64)) (v := (sl (some ⟨b8, 0, none⟩, 6, 6))) (hs.own (i := 6) rfl) (he50 hg)).1))) rfl rfl rfl <| WD_opG (fun w => (!b45) = true → CellsAt w (elA (sl (some ⟨b8, 0, none⟩, 6, 6)) (Int.tmod (IntKind.i64.wrap j) 6) 1) [(.int .i64 e49)]) (fun hg => (Own.cellsF (A := (RI .i64)) (v := (sl (some ⟨b8, 0, none⟩, 6, 6))) (hs.own (i := 6) rfl) (he50 hg) (fun _ h => openT3 h)).sub 0 rfl) rfl rfl rfl rfl guard_neg (fun _ hJ => (Run_load1 (v := (.int .i64 e49)) Tryd.underlying3 rfl (Opd.g rfl id) hJ)) rfl rfl rfl <| ?_
    obtain ⟨b51, e52, hm⟩ := letv_some hm
    refine WD_pureG rfl rfl rfl rfl guard_neg (fun _ => (Run.eqB (Run_eqI (Opd.g rfl id) (Opd.g rfl id)) e52)) rfl rfl rfl <| WD_pureG rfl rfl rfl rfl guard_neg (fun _ => (Run_move (Opd.g rfl id))) rfl rfl rfl <| WD_pureG rfl rfl rfl rfl guard_pos' (fun _ => (Run_move (Opd.t rfl))) rfl rfl rfl <| WD_pureG rfl rfl rfl rfl guard_pos' (fun _ => (Run_move (Opd.t rfl))) rfl rfl rfl <| ?_
    obtain ⟨e53, he54, -, hm⟩ := callG_some hm
    refine WD_pureG rfl rfl rfl rfl guard_pos' (fun _ => (Run_idxAddr (p := (elA (sl (some ⟨b10, 0, none⟩, 6, 6)) (Int.tmod (IntKind.i64.wrap i) 6) 1)) Tryd.underlying53 ti4 (Opd.g rfl id) (Opd.g rfl id) (fun hg => (Own.atA (A := RB) (v := (sl (some ⟨b10, 0, none⟩, 6, 6))) (hs.own (i := 5) rfl) (he54 hg)).1))) rfl rfl rfl <| WD_opG (fun w => ((!b45) && b51) = true → CellsAt w (elA (sl (some ⟨b10, 0, none⟩, 6, 6)) (Int.tmod (IntKind.i64.wrap i) 6) 1) [(.bool e53)]) (fun hg => (Own.cellsF (A := RB) (v := (sl (some ⟨b10, 0, none⟩, 6, 6))) (hs.own (i := 5) rfl) (he54 hg) (fun _ h => openT4 h)).sub 0 rfl) rfl rfl rfl rfl guard_pos' (fun _ hJ => (Run_load1 (v := (.bool e53)) Tryd.underlying4 rfl (Opd.g rfl id) hJ)) rfl rfl rfl <| ?_
    obtain ⟨b55, e56, hm⟩ := letv_some hm
    refine WD_pureG rfl rfl rfl rfl guard_neg (fun _ => (Run.eqB (Run_and (Opd.g rfl id) (Opd.g rfl id)) e56)) rfl rfl rfl <| ?_
    obtain ⟨b57, e58, hm⟩ := letv_some hm
    refine WD_pure (fun _ => (Run.eqB (Run_or (Opd.t rfl) (Opd.g rfl id)) e58)) rfl rfl rfl rfl <| WD_pure (fun _ => (Run_assign (Opd.t rfl))) rfl rfl rfl rfl <| ?_
    refine WD_nil ?_
    refine At_then ?_
    refine WC_seq ?_
    refine WC_seq ?_
    refine WC_region ?_
    refine WL_op (Run_move (Opd.t rfl)) rfl rfl rfl rfl <| ?_
    refine WL_nil ?_
    refine At_then ?_
    refine WC_cond (Opd.t rfl) (fun hc59 => ?_) (fun hc59 => ?_)
    ·
      replace hm := bif_t hc59 hm
      refine WC_seq ?_
      refine WC_region_mixed [0, 1, 2, 6, 10, 18, 32, 32, 32, 416, 544, 1056, 2080, 32, 32, 24608, 32800, 69664, 131104, 262240, 524320, 2097151] (.q 0 0 (.q 1 1 (.q 2 3 (.q 3 7 (.q 4 15 (.q 5 31 (.q 6 63 (.q 7 127 (.q 8 255 (.q 9 511 (.q 10 1023 (.q 11 2047 (.q 12 4095 (.q 13 8191 (.q 14 16383 (.q 15 32767 (.q 16 65535 (.q 17 131071 (.q 18 262143 (.q 19 524287 (.q 20 1048575 (.q 21 2097151 .nil)))))))))))))))))))))) (by kernel_rfl) (by kernel_rfl) ?_
      intro w60 hx61
      replace hs := hs.ext hx61
      refine WD_pure (fun _ => (Run_move (Opd.t rfl))) rfl rfl rfl rfl <| WD_pure (fun _ => (Run_move (Opd.t rfl))) rfl rfl rfl rfl <| WD_pureG rfl rfl rfl rfl guard_pos (fun _ => (Run_move (Opd.t rfl))) rfl rfl rfl <| ?_
      obtain ⟨b62, e63, hm⟩ := letv_some hm
      refine WD_pureG rfl rfl rfl rfl guard_pos (fun _ => (Run.eqB (Run_eqI (Opd.g rfl id) Opd.c) e63)) rfl rfl rfl <| ?_
      obtain ⟨b64, e65, hm⟩ := letv_some hm
      refine WD_pure (fun _ => (Run.eqB (Run_and (Opd.t rfl) (Opd.g rfl id)) e65)) rfl rfl rfl rfl <| WD_pure (fun _ => (Run_move (Opd.t rfl))) rfl rfl rfl rfl <| WD_pureG rfl rfl rfl rfl guard_pos (fun _ => (Run_move (Opd.t rfl))) rfl rfl rfl <| WD_pureG rfl rfl rfl rfl guard_pos (fun _ => (Run_move (Opd.t rfl))) rfl rfl rfl <| WD_pureG rfl rfl rfl rfl guard_pos (fun _ => (Run_move (Opd.t rfl))) rfl rfl rfl <| ?_
      obtain ⟨e66, he67, -, hm⟩ := callG_some hm
      refine WD_pureG rfl rfl rfl rfl guard_pos (fun _ => (Run_idxAddr (p := (elA (sl (some ⟨b6, 0, none⟩, 6, 6)) (Int.tmod (IntKind.i64.wrap i) 6) 1)) Tryd.underlying40 ti9 (Opd.g rfl id) (Opd.g rfl id) (fun hg => (Own.atA (A := RS) (v := (sl (some ⟨b6, 0, none⟩, 6, 6))) (hs.own (i := 7) rfl) (he67 hg)).1))) rfl rfl rfl <| WD_opG (fun w => b64 = true → CellsAt w (elA (sl (some ⟨b6, 0, none⟩, 6, 6)) (Int.tmod (IntKind.i64.wrap i) 6) 1) [(S e66)]) (fun hg => (Own.cellsF (A := RS) (v := (sl (some ⟨b6, 0, none⟩, 6, 6))) (hs.own (i := 7) rfl) (he67 hg) (fun _ h => openT9 h)).sub 0 rfl) rfl rfl rfl rfl guard_pos (fun _ hJ => (Run_load1 (v := (S e66)) Tryd.underlying9 rfl (Opd.g rfl id) hJ)) rfl rfl rfl <| ?_
      obtain ⟨k68, hm⟩ := chkG_some hm
      refine WD_pureG rfl rfl rfl rfl guard_pos (fun _ => (Run_cat Opd.c (Opd.g rfl id) k68)) rfl rfl rfl <| ?_
      obtain ⟨k69, hm⟩ := chkG_some hm
      refine WD_pureG rfl rfl rfl rfl guard_pos (fun _ => (Run_cat (Opd.g rfl id) Opd.c k69)) rfl rfl rfl <| WD_pureG rfl rfl rfl rfl guard_pos (fun _ => (Run_move (Opd.t rfl))) rfl rfl rfl <| WD_pureG rfl rfl rfl rfl guard_pos (fun _ => (Run_move (Opd.t rfl))) rfl rfl rfl <| ?_
      obtain ⟨e70, he71, -, hm⟩ := callG_some hm
      refine WD_pureG rfl rfl rfl rfl guard_pos (fun _ => (Run_idxAddr (p := (elA (sl (some ⟨b6, 0, none⟩, 6, 6)) (Int.tmod (IntKind.i64.wrap j) 6) 1)) Tryd.underlying40 ti9 (Opd.g rfl id) (Opd.g rfl id) (fun hg => (Own.atA (A := RS) (v := (sl (some ⟨b6, 0, none⟩, 6, 6))) (hs.own (i := 7) rfl) (he71 hg)).1))) rfl rfl rfl <| WD_opG (fun w => b64 = true → CellsAt w (elA (sl (some ⟨b6, 0, none⟩, 6, 6)) (Int.tmod (IntKind.i64.wrap j) 6) 1) [(S e70)]) (fun hg => (Own.cellsF (A := RS) (v := (sl (some ⟨b6, 0, none⟩, 6, 6))) (hs.own (i := 7) rfl) (he71 hg) (fun _ h => openT9 h)).sub 0 rfl) rfl rfl rfl rfl guard_pos (fun _ hJ => (Run_load1 (v := (S e70)) Tryd.underlying9 rfl (Opd.g rfl id) hJ)) rfl rfl rfl <| ?_
      obtain ⟨k72, hm⟩ := chkG_some hm
      refine WD_pureG rfl rfl rfl rfl guard_pos (fun _ => (Run_cat (Opd.g rfl id) (Opd.g rfl id) k72)) rfl rfl rfl <| ?_
      obtain ⟨k73, hm⟩ := chkG_some hm
      refine WD_pureG rfl rfl rfl rfl guard_pos (fun _ => (Run_cat (Opd.g rfl id) Opd.c k73)) rfl rfl rfl <| ?_
      obtain ⟨b74, e75, hm⟩ := letv_some hm
      refine WD_pureG rfl rfl rfl rfl guard_pos (fun _ => (Run.eqB (Run_eqS (Opd.g rfl id) (Opd.g rfl id)) e75)) rfl rfl rfl <| ?_
      obtain ⟨b76, e77, hm⟩ := letv_some hm
      refine WD_pure (fun _ => (Run.eqB (Run_and (Opd.t rfl) (Opd.g rfl id)) e77)) rfl rfl rfl rfl <| WD_pure (fun _ => (Run_assign (Opd.t rfl))) rfl rfl rfl rfl <| ?_
      refine WD_nil ?_
      refine At_then ?_
      refine WC_ret ?_
      refine At_then_ret <| ?_
      refine At_r1 rfl (ResIs.t rfl) ?_
      cases hm
      exact ⟨rfl, (hs.re 11 [] rfl)⟩
    ·
      replace hm := bif_f hc59 hm
      refine WC_skip ?_
      refine At_then ?_
      refine WC_seq ?_
      refine WC_region_mixed [0, 1, 2, 6, 10, 18, 32, 32, 32, 416, 544, 1056, 2080, 32, 32, 24608, 32800, 69664, 131104, 262240, 524320, 2097151] (.q 0 0 (.q 1 1 (.q 2 3 (.q 3 7 (.q 4 15 (.q 5 31 (.q 6 63 (.q 7 127 (.q 8 255 (.q 9 511 (.q 10 1023 (.q 11 2047 (.q 12 4095 (.q 13 8191 (.q 14 16383 (.q 15 32767 (.q 16 65535 (.q 17 131071 (.q 18 262143 (.q 19 524287 (.q 20 1048575 (.q 21 2097151 .nil)))))))))))))))))))))) (by kernel_rfl) (by kernel_rfl) ?_
      intro w78 hx79
      replace hs := hs.ext hx79
      refine WD_pure (fun _ => (Run_move (Opd.t rfl))) rfl rfl rfl rfl <| WD_pure (fun _ => (Run_move (Opd.t rfl))) rfl rfl rfl rfl <| WD_pureG rfl rfl rfl rfl guard_pos (fun _ => (Run_move (Opd.t rfl))) rfl rfl rfl <| ?_
      obtain ⟨b80, e81, hm⟩ := letv_some hm
      refine WD_pureG rfl rfl rfl rfl guard_pos (fun _ => (Run.eqB (Run_eqI (Opd.g rfl id) Opd.c) e81)) rfl rfl rfl <| ?_
      obtain ⟨b82, e83, hm⟩ := letv_some hm
      refine WD_pure (fun _ => (Run.eqB (Run_and (Opd.t rfl) (Opd.g rfl id)) e83)) rfl rfl rfl rfl <| WD_pure (fun _ => (Run_move (Opd.t rfl))) rfl rfl rfl rfl <| WD_pureG rfl rfl rfl rfl guard_pos (fun _ => (Run_move (Opd.t rfl))) rfl rfl rfl <| WD_pureG rfl rfl rfl rfl guard_pos (fun _ => (Run_move (Opd.t rfl))) rfl rfl rfl <| WD_pureG rfl rfl rfl rfl guard_pos (fun _ => (Run_move (Opd.t rfl))) rfl rfl rfl <| ?_
      obtain ⟨e84, he85, -, hm⟩ := callG_some hm
      refine WD_pureG rfl rfl rfl rfl guard_pos (fun _ => (Run_idxAddr (p := (elA (sl (some ⟨b6, 0, none⟩, 6, 6)) (Int.tmod (IntKind.i64.wrap i) 6) 1)) Tryd.underlying40 ti9 (Opd.g rfl id) (Opd.g rfl id) (fun hg => (Own.atA (A := RS) (v := (sl (some ⟨b6, 0, none⟩, 6, 6))) (hs.own (i := 7) rfl) (he85 hg)).1))) rfl rfl rfl <| WD_opG (fun w => b82 = true → CellsAt w (elA (sl (some ⟨b6, 0, none⟩, 6, 6)) (Int.tmod (IntKind.i64.wrap i) 6) 1) [(S e84)]) (fun hg => (Own.cellsF (A := RS) (v := (sl (some ⟨b6, 0, none⟩, 6, 6))) (hs.own (i := 7) rfl) (he85 hg) (fun _ h => openT9 h)).sub 0 rfl) rfl rfl rfl rfl guard_pos (fun _ hJ => (Run_load1 (v := (S e84)) Tryd.underlying9 rfl (Opd.g rfl id) hJ)) rfl rfl rfl <| ?_
      obtain ⟨k86, hm⟩ := chkG_some hm
      refine WD_pureG rfl rfl rfl rfl guard_pos (fun _ => (Run_cat Opd.c (Opd.g rfl id) k86)) rfl rfl rfl <| ?_
      obtain ⟨k87, hm⟩ := chkG_some hm
      refine WD_pureG rfl rfl rfl rfl guard_pos (fun _ => (Run_cat (Opd.g rfl id) Opd.c k87)) rfl rfl rfl <| WD_pureG rfl rfl rfl rfl guard_pos (fun _ => (Run_move (Opd.t rfl))) rfl rfl rfl <| WD_pureG rfl rfl rfl rfl guard_pos (fun _ => (Run_move (Opd.t rfl))) rfl rfl rfl <| ?_
      obtain ⟨e88, he89, -, hm⟩ := callG_some hm
      refine WD_pureG rfl rfl rfl rfl guard_pos (fun _ => (Run_idxAddr (p := (elA (sl (some ⟨b6, 0, none⟩, 6, 6)) (Int.tmod (IntKind.i64.wrap j) 6) 1)) Tryd.underlying40 ti9 (Opd.g rfl id) (Opd.g rfl id) (fun hg => (Own.atA (A := RS) (v := (sl (some ⟨b6, 0, none⟩, 6, 6))) (hs.own (i := 7) rfl) (he89 hg)).1))) rfl rfl rfl <| WD_opG (fun w => b82 = true → CellsAt w (elA (sl (some ⟨b6, 0, none⟩, 6, 6)) (Int.tmod (IntKind.i64.wrap j) 6) 1) [(S e88)]) (fun hg => (Own.cellsF (A := RS) (v := (sl (some ⟨b6, 0, none⟩, 6, 6))) (hs.own (i := 7) rfl) (he89 hg) (fun _ h => openT9 h)).sub 0 rfl) rfl rfl rfl rfl guard_pos (fun _ hJ => (Run_load1 (v := (S e88)) Tryd.underlying9 rfl (Opd.g rfl id) hJ)) rfl rfl rfl <| ?_
      obtain ⟨k90, hm⟩ := chkG_some hm
      refine WD_pureG rfl rfl rfl rfl guard_pos (fun _ => (Run_cat (Opd.g rfl id) (Opd.g rfl id) k90)) rfl rfl rfl <| ?_
      obtain ⟨k91, hm⟩ := chkG_some hm
      refine WD_pureG rfl rfl rfl rfl guard_pos (fun _ => (Run_cat (Opd.g rfl id) Opd.c k91)) rfl rfl rfl <| ?_
      obtain ⟨b92, e93, hm⟩ := letv_some hm
      refine WD_pureG rfl rfl rfl rfl guard_pos (fun _ => (Run.eqB (Run_eqS (Opd.g rfl id) (Opd.g rfl id)) e93)) rfl rfl rfl <| ?_
      obtain ⟨b94, e95, hm⟩ := letv_some hm
      refine WD_pure (fun _ => (Run.eqB (Run_and (Opd.t rfl) (Opd.g rfl id)) e95)) rfl rfl rfl rfl <| WD_pure (fun _ => (Run_assign (Opd.t rfl))) rfl rfl rfl rfl <| ?_
      refine WD_nil ?_
      refine At_then ?_
      refine WC_ret ?_
      refine At_r1 rfl (ResIs.t rfl) ?_
      cases hm
      exact ⟨rfl, (hs.re 11 [] rfl)⟩

end Go.Proofs.YtmeombbmhpcacaaDoor
