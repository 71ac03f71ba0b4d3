/- Printed by a program: the walks. -/
import Derived.Test.YtmeombbmhpcacaaDoorWalk3
namespace Go.Proofs.YtmeombbmhpcacaaDoor
open Go.Proofs

set_option maxRecDepth 100000 in
set_option maxHeartbeats 4000000 in
theorem expr_read_left_s4_ok {k_expr_read_lower : ((List (Int × Str × Int × Int)) × Int × (List Str) × Int × Int × Int) → Option (Ex × Int × Int × Int × Int)} (ih_expr_read_lower : ∀ {Φ : Ctx} {w : World} {l : (List (Int × Str × Int × Int))} {at_ : Int} {names : (List Str)} {deep : Int} {bad : Int} {place : Int} {b : Nat} {v2 : SLV} {v4 : SLV} {r : (Ex × Int × Int × Int × Int)}, Sat (box b 71 [(sl v2), (.int .i64 at_), (sl v4), (.int .i64 deep), (.int .i64 bad), (.int .i64 place)] :: imm (RSl (RP (RI .i64) (RP RS (RP (RI .i64) (RI .i64))))) [sl v2] l :: imm (RSl RS) [sl v4] names :: gl 0 (keysL.map S) :: gl 1 (textsL.map S) :: Φ) w → k_expr_read_lower (l, at_, names, deep, bad, place) = some r → CallsR Tryd.prog 42 [(.pointer (some ⟨b, 0, none⟩)), (.func (.func 43) #[] #[])] w (fun v w' => ∃ v3 : SLV, ∃ R4 : List Nat, v = (.agg #[(.int .i64 r.1.op), (.int .i64 r.1.n), (.int .i64 r.1.at_), (sl v3)]) ∧ Sat (osl RExpr 24 (sl v3) r.1.l R4 :: box b 71 [(sl v2), (.int .i64 r.2.1), (sl v4), (.int .i64 r.2.2.1), (.int .i64 r.2.2.2.1), (.int .i64 r.2.2.2.2)] :: imm (RSl (RP (RI .i64) (RP RS (RP (RI .i64) (RI .i64))))) [sl v2] l :: imm (RSl RS) [sl v4] names :: Φ) w')) {Φ : Ctx} {w : World} {ops : (List Int)} {l : (List (Int × Str × Int × Int))} {at_ : Int} {names : (List Str)} {deep : Int} {bad : Int} {place : Int} {b : Nat} {v2 : SLV} {v4 : SLV} {v6 : SLV} {r : (Ex × Int × Int × Int × Int)} (hs : Sat (box b 71 [(sl v4), (.int .i64 at_), (sl v6), (.int .i64 deep), (.int .i64 bad), (.int .i64 place)] :: imm (RSl (RI .i64)) [sl v2] ops :: imm (RSl (RP (RI .i64) (RP RS (RP (RI .i64) (RI .i64))))) [sl v4] l :: imm (RSl RS) [sl v6] names :: gl 0 (keysL.map S) :: gl 1 (textsL.map S) :: Φ) w) (hm : expr_read_left_s4 k_expr_read_lower ops l at_ names deep bad place = some r) :
    CallsR Tryd.prog 63 [(.pointer (some ⟨b, 0, none⟩)), (.func (.func 75) #[] #[]), (sl v2)] w (fun v w' => ∃ v3 : SLV, ∃ R4 : List Nat, v = (.agg #[(.int .i64 r.1.op), (.int .i64 r.1.n), (.int .i64 r.1.at_), (sl v3)]) ∧ Sat (osl RExpr 24 (sl v3) r.1.l R4 :: box b 71 [(sl v4), (.int .i64 r.2.1), (sl v6), (.int .i64 r.2.2.1), (.int .i64 r.2.2.2.1), (.int .i64 r.2.2.2.2)] :: imm (RSl (RP (RI .i64) (RP RS (RP (RI .i64) (RI .i64))))) [sl v4] l :: imm (RSl RS) [sl v6] names :: Φ) w') := by
  refine CallsX_enter Tryd.func63 rfl Tryd.ntmps63 rfl ?_
  unfold expr_read_left_s4 at hm
  refine WC_seq ?_
  refine WC_region ?_
  refine WS_alloc (zs := [(.int .i64 0), (.int .i64 0), (.int .i64 0), (sl (none, 0, 0))]) hs ti24 rfl rfl ?_
  intro b9 w10 hs
  replace hs := Sat.n7 (Γ := Φ) hs rfl
  refine WL_nil ?_
  refine At_then ?_
  refine WC_seq ?_
  refine WC_region ?_
  refine WL_op (Run_move (Opd.t rfl)) rfl rfl rfl rfl <| WL_op (Run_move (Opd.t rfl)) rfl rfl rfl rfl <| ?_
  obtain ⟨r11, hr12, hm⟩ := bind_some' hm
  refine WL_call (f := 75) (first := []) (cap := []) (xs := [(.tmp 13)]) (vs := [(.pointer (some ⟨b, 0, none⟩))]) (args := [(.pointer (some ⟨b, 0, none⟩))]) Tryd.call75 (Opd.t rfl) (.cons (Opd.t rfl) .nil) rfl rfl (expr_read_deepNeg_ok (@ih_expr_read_lower) (hs.re 7 [1, 3, 4, 5, 6, 0, 2, 3, 4, 5, 6] rfl) hr12) ?_
  rintro _ w15 ⟨v13, R14, rfl, hs⟩
  replace hs := Sat.n10 (Γ := Φ) hs rfl
  refine WS_alloc (zs := [(.int .i64 0), (.int .i64 0), (.int .i64 0), (sl (none, 0, 0))]) hs ti24 rfl rfl ?_
  intro b16 w17 hs
  replace hs := Sat.n11 (Γ := Φ) hs rfl
  refine WS_store (us := [(.int .i64 r11.1.op), (.int .i64 r11.1.n), (.int .i64 r11.1.at_), (sl v13)]) (vs' := [(.int .i64 r11.1.op), (.int .i64 r11.1.n), (.int .i64 r11.1.at_), (sl v13)]) hs 0 rfl ti24 (Opd.t rfl) (Opd.t rfl) rfl rfl rfl rfl rfl ?_
  intro w18 hs
  replace hs := Sat.n11 (Γ := Φ) hs rfl
  refine WL_nil ?_
  refine At_then ?_
  refine WC_seq ?_
  refine WC_block ?_
  refine WC_loop (σ := Int × Int × Int × Int × Int × Int × Int × (List Ex)) (γ := SLV × List Nat) (F := (expr_read_left_s4_L1 k_expr_read_lower ops l names)) (N := FUEL) (s0 := (r11.2.1, r11.2.2.1, r11.2.2.2.1, r11.2.2.2.2, r11.1.op, r11.1.n, r11.1.at_, r11.1.l)) (r := r) (fun ⟨c20, c21, c22, c23, c24, c25, c26, c27⟩ ⟨v28, R29⟩ w19 => Sat (box b 71 [(sl v4), (.int .i64 c20), (sl v6), (.int .i64 c21), (.int .i64 c22), (.int .i64 c23)] :: imm (RSl (RP (RI .i64) (RP RS (RP (RI .i64) (RI .i64))))) [sl v4] l :: imm (RSl RS) [sl v6] names :: imm (RSl (RI .i64)) [sl v2] ops :: box b9 24 [(.int .i64 0), (.int .i64 0), (.int .i64 0), (sl (none, 0, 0))] :: box b16 24 [(.int .i64 c24), (.int .i64 c25), (.int .i64 c26), (sl v28)] :: osl RExpr 24 (sl v28) c27 R29 :: gl 0 (keysL.map S) :: gl 1 (textsL.map S) :: Φ) w19) (fun ⟨c20, c21, c22, c23, c24, c25, c26, c27⟩ ⟨v28, R29⟩ => [(0, true, (.pointer (some ⟨b, 0, none⟩))), (1, true, (.func (.func 75) #[] #[])), (2, true, (sl v2)), (6, true, (.pointer (some ⟨b9, 0, none⟩))), (7, true, (.pointer (some ⟨b16, 0, none⟩)))]) hm (v13, R14) (hs.re 11 [2, 3, 4, 6, 5, 0, 1, 9, 10] rfl) rfl ?_
  rintro again30 ⟨c20, c21, c22, c23, c24, c25, c26, c27⟩ ⟨v28, R29⟩ w19 hm hs
  unfold expr_read_left_s4_L1 at hm
  dsimp only at hm
  refine WC_seq ?_
  refine WC_seq ?_
  refine WC_region ?_
  refine WL_op (Run_move (Opd.t rfl)) rfl rfl rfl rfl <| WL_op (Run_nilP (Opd.t rfl)) rfl rfl rfl rfl <| WL_op (Run_fieldAddr fo71_4 (Opd.t rfl)) rfl rfl rfl rfl <| WL_op (Run_load1 (v := (.int .i64 c22)) Tryd.underlying34 rfl (Opd.t rfl) (fun _ => (hs.box (i := 0) rfl).part 4 rfl)) rfl rfl rfl rfl <| WL_op (Run_eqI (Opd.t rfl) Opd.c) rfl rfl rfl rfl <| ?_
  refine WL_nil ?_
  refine At_then ?_
  refine WC_cond (Opd.t rfl) (fun hc31 => ?_) (fun hc31 => ?_)
  ·
    replace hm := bif_t hc31 hm
    refine WC_skip ?_
    refine At_then ?_
    refine WC_block ?_
    refine WC_seq ?_
    refine WC_region ?_
    refine WL_op (Run_move (Opd.t rfl)) rfl rfl rfl rfl <| WL_op (Run_move (Opd.t rfl)) rfl rfl rfl rfl <| ?_
    obtain ⟨r32, hr33, hm⟩ := bind_some' hm
    refine WL_call (f := 50) (first := []) (cap := []) (xs := [(.tmp 21), (.tmp 22)]) (vs := [(.pointer (some ⟨b, 0, none⟩)), (sl v2)]) (args := [(.pointer (some ⟨b, 0, none⟩)), (sl v2)]) Tryd.call50 Opd.f (.cons (Opd.t rfl) (.cons (Opd.t rfl) .nil)) rfl rfl (expr_read_is_ok (hs.re 9 [0, 3, 1, 2, 7, 8, 1, 2, 3, 4, 5, 6, 7, 8] rfl) hr33) ?_
    rintro _ w34 ⟨rfl, hs⟩
    replace hs := Sat.n11 (Γ := Φ) hs rfl
    refine WL_op (Run_move (Opd.t rfl)) rfl rfl rfl rfl <| WL_op (Run_extract (vs := [(.int .i64 r32.1), (.bool r32.2)]) (Opd.t rfl) rfl) rfl rfl rfl rfl <| WL_op (Run_extract (vs := [(.int .i64 r32.1), (.bool r32.2)]) (Opd.t rfl) rfl) rfl rfl rfl rfl <| WL_op (Run_assign (Opd.t rfl)) rfl rfl rfl rfl <| WL_op (Run_assign (Opd.t rfl)) rfl rfl rfl rfl <| ?_
    refine WL_nil ?_
    refine At_then ?_
    refine WC_seq ?_
    refine WC_seq ?_
    refine WC_region ?_
    refine WL_op (Run_move (Opd.t rfl)) rfl rfl rfl rfl <| WL_op (Run_notB (Opd.t rfl)) rfl rfl rfl rfl <| ?_
    refine WL_nil ?_
    refine At_then ?_
    refine WC_cond (Opd.t rfl) (fun hc35 => ?_) (fun hc35 => ?_)
    ·
      replace hm := bif_t hc35 hm
      refine WC_exit ?_
      refine At_then_exit <| At_blk_other rfl <| At_then_exit <| At_blk_here <| ?_
      refine At_then ?_
      refine WC_seq ?_
      refine WC_region ?_
      refine WL_op (Run_loadA (vs := [(.int .i64 c24), (.int .i64 c25), (.int .i64 c26), (sl v28)]) Tryd.underlying24 rfl ti24 (Opd.t rfl) (fun _ => (hs.box (i := 7) rfl).part 0 rfl) rfl) rfl rfl rfl rfl <| ?_
      refine WS_store (us := [(.int .i64 c24), (.int .i64 c25), (.int .i64 c26), (sl v28)]) (vs' := [(.int .i64 c24), (.int .i64 c25), (.int .i64 c26), (sl v28)]) hs 6 rfl ti24 (Opd.t rfl) (Opd.t rfl) rfl rfl rfl rfl rfl ?_
      intro w36 hs
      replace hs := Sat.n11 (Γ := Φ) hs rfl
      refine WL_nil ?_
      refine At_then ?_
      refine WC_ret ?_
      refine At_r1 rfl (ResIs.cA (vs := [(.int .i64 c24), (.int .i64 c25), (.int .i64 c26), (sl v28)]) rfl Tryd.underlying24 rfl ti24 ((hs.box (i := 6) rfl).part 0 rfl) rfl) ?_
      cases hm
      exact ⟨v28, R29, rfl, (hs.re 11 [8, 0, 1, 2] rfl)⟩
    ·
      replace hm := bif_f hc35 hm
      refine WC_skip ?_
      refine At_then ?_
      refine WC_seq ?_
      refine WC_region ?_
      refine WL_op (Run_move (Opd.t rfl)) rfl rfl rfl rfl <| ?_
      obtain ⟨r37, hr38, hm⟩ := bind_some' hm
      refine WL_call (f := 51) (first := []) (cap := []) (xs := [(.tmp 28)]) (vs := [(.pointer (some ⟨b, 0, none⟩))]) (args := [(.pointer (some ⟨b, 0, none⟩))]) Tryd.call51 Opd.f (.cons (Opd.t rfl) .nil) rfl rfl (expr_read_next_ok (hs.re 11 [0, 1, 2, 1, 2, 3, 4, 5, 6, 7, 8, 9, 10] rfl) hr38) ?_
      rintro _ w39 ⟨rfl, hs⟩
      replace hs := Sat.n13 (Γ := Φ) hs rfl
      refine WS_alloc (zs := [(.int .i64 0), (S []), (.int .i64 0), (.int .i64 0)]) hs ti60 rfl rfl ?_
      intro b40 w41 hs
      replace hs := Sat.n14 (Γ := Φ) hs rfl
      refine WS_store (us := [(.int .i64 r37.1), (S r37.2.1), (.int .i64 r37.2.2.1), (.int .i64 r37.2.2.2)]) (vs' := [(.int .i64 r37.1), (S r37.2.1), (.int .i64 r37.2.2.1), (.int .i64 r37.2.2.2)]) hs 0 rfl ti60 (Opd.t rfl) (Opd.t rfl) rfl rfl rfl rfl rfl ?_
      intro w42 hs
      replace hs := Sat.n14 (Γ := Φ) hs rfl
      refine WL_nil ?_
      refine At_then ?_
      refine WC_seq ?_
      refine WC_region ?_
      refine WL_op (Run_move (Opd.t rfl)) rfl rfl rfl rfl <| WL_op (Run_nilP (Opd.t rfl)) rfl rfl rfl rfl <| WL_op (Run_fieldAddr fo71_1 (Opd.t rfl)) rfl rfl rfl rfl <| WL_op (Run_load1 (v := (.int .i64 c20)) Tryd.underlying3 rfl (Opd.t rfl) (fun _ => (hs.box (i := 1) rfl).part 1 rfl)) rfl rfl rfl rfl <| WL_op (Run_add (Opd.t rfl) Opd.c) rfl rfl rfl rfl <| WL_op (Run_nilP (Opd.t rfl)) rfl rfl rfl rfl <| WL_op (Run_fieldAddr fo71_1 (Opd.t rfl)) rfl rfl rfl rfl <| ?_
      refine WS_store (us := [(.int .i64 (IntKind.i64.wrap (c20 + 1)))]) (vs' := [(sl v4), (.int .i64 (IntKind.i64.wrap (c20 + 1))), (sl v6), (.int .i64 c21), (.int .i64 c22), (.int .i64 c23)]) hs 1 rfl ti3 (Opd.t rfl) (Opd.t rfl) rfl rfl rfl rfl rfl ?_
      intro w43 hs
      replace hs := Sat.n14 (Γ := Φ) hs rfl
      refine WL_nil ?_
      refine At_then ?_
      refine WC_seq ?_
      refine WC_region ?_
      refine WL_op (Run_move (Opd.t rfl)) rfl rfl rfl rfl <| WL_op (Run_move (Opd.t rfl)) rfl rfl rfl rfl <| ?_
      obtain ⟨r44, hr45, hm⟩ := bind_some' hm
      refine WL_call (f := 75) (first := []) (cap := []) (xs := [(.tmp 38)]) (vs := [(.pointer (some ⟨b, 0, none⟩))]) (args := [(.pointer (some ⟨b, 0, none⟩))]) Tryd.call75 (Opd.t rfl) (.cons (Opd.t rfl) .nil) rfl rfl (expr_read_deepNeg_ok (@ih_expr_read_lower) (hs.re 14 [1, 2, 3, 12, 13, 0, 2, 3, 4, 5, 6, 7, 8, 9, 10, 11, 12, 13] rfl) hr45) ?_
      rintro _ w48 ⟨v46, R47, rfl, hs⟩
      replace hs := Sat.n17 (Γ := Φ) hs rfl
      refine WS_alloc (zs := [(.int .i64 0), (.int .i64 0), (.int .i64 0), (sl (none, 0, 0))]) hs ti24 rfl rfl ?_
      intro b49 w50 hs
      replace hs := Sat.n18 (Γ := Φ) hs rfl
      refine WS_store (us := [(.int .i64 r44.1.op), (.int .i64 r44.1.n), (.int .i64 r44.1.at_), (sl v46)]) (vs' := [(.int .i64 r44.1.op), (.int .i64 r44.1.n), (.int .i64 r44.1.at_), (sl v46)]) hs 0 rfl ti24 (Opd.t rfl) (Opd.t rfl) rfl rfl rfl rfl rfl ?_
      intro w51 hs
      replace hs := Sat.n18 (Γ := Φ) hs rfl
      refine WL_nil ?_
      refine At_then ?_
      refine WC_region ?_
      refine WL_op (Run_move (Opd.t rfl)) rfl rfl rfl rfl <| WL_op (Run_fieldAddr fo60_3 (Opd.t rfl)) rfl rfl rfl rfl <| WL_op (Run_load1 (v := (.int .i64 r37.2.2.2)) Tryd.underlying3 rfl (Opd.t rfl) (fun _ => (hs.box (i := 5) rfl).part 3 rfl)) rfl rfl rfl rfl <| WL_op (Run_loadA (vs := [(.int .i64 c24), (.int .i64 c25), (.int .i64 c26), (sl v28)]) Tryd.underlying24 rfl ti24 (Opd.t rfl) (fun _ => (hs.box (i := 14) rfl).part 0 rfl) rfl) rfl rfl rfl rfl <| WL_op (Run_loadA (vs := [(.int .i64 r44.1.op), (.int .i64 r44.1.n), (.int .i64 r44.1.at_), (sl v46)]) Tryd.underlying24 rfl ti24 (Opd.t rfl) (fun _ => (hs.box (i := 0) rfl).part 0 rfl) rfl) rfl rfl rfl rfl <| ?_
      replace hs := hs.freeze (i := 15) rfl
      replace hs := hs.freeze (i := 1) rfl
      refine WS_lit (A := RExpr) (xs := [(Ex.mk c24 c25 c26 c27), r44.1]) (zs := [(.int .i64 0), (.int .i64 0), (.int .i64 0), (sl (none, 0, 0))]) (cells := [(.int .i64 c24), (.int .i64 c25), (.int .i64 c26), (sl v28), (.int .i64 r44.1.op), (.int .i64 r44.1.n), (.int .i64 r44.1.at_), (sl v46)]) (parts := [(0, (.tmp 43)), (1, (.tmp 44))]) hs Tryd.underlying22 ti24 rfl rfl rfl (.cons (Opd.t rfl) (.cons (Opd.t rfl) .nil)) (by kernel_rfl) rfl (ARd.cons (A := RExpr) (c := [(.int .i64 c24), (.int .i64 c25), (.int .i64 c26), (sl v28)]) (x := (Ex.mk c24 c25 c26 c27)) (RExpr_close (⟨_, rfl, (hs.sl (i := 15) rfl)⟩)) (ARd.cons (A := RExpr) (c := [(.int .i64 r44.1.op), (.int .i64 r44.1.n), (.int .i64 r44.1.at_), (sl v46)]) (x := r44.1) (RExpr_closeE (⟨_, rfl, (hs.sl (i := 1) rfl)⟩)) ARd.nil)) rfl ?_
      intro b52 w53 hs
      replace hs := Sat.n19 (Γ := Φ) hs rfl
      refine WL_op (Run_build (parts := [(0, (.tmp 40)), (2, (.tmp 42)), (3, (.tmp 45))]) (v := (.agg #[(.int .i64 r32.1), (.int .i64 0), (.int .i64 r37.2.2.2), (sl (some ⟨b52, 0, none⟩, 2, 2))])) (.cons (Opd.t rfl) (.cons (Opd.t rfl) (.cons (Opd.t rfl) .nil))) (fun _ => by kernel_rfl)) rfl rfl rfl rfl <| ?_
      refine WS_store (us := [(.int .i64 r32.1), (.int .i64 0), (.int .i64 r37.2.2.2), (sl (some ⟨b52, 0, none⟩, 2, 2))]) (vs' := [(.int .i64 r32.1), (.int .i64 0), (.int .i64 r37.2.2.2), (sl (some ⟨b52, 0, none⟩, 2, 2))]) hs 15 rfl ti24 (Opd.t rfl) (Opd.t rfl) rfl rfl rfl rfl rfl ?_
      intro w54 hs
      replace hs := Sat.n19 (Γ := Φ) hs rfl
      refine WL_nil ?_
      refine At_blk_normal ?_
      exact At_again (r44.2.1, r44.2.2.1, r44.2.2.2.1, r44.2.2.2.2, r32.1, 0, r37.2.2.2, ([(Ex.mk c24 c25 c26 c27), r44.1] : List Ex)) ((some ⟨b52, 0, none⟩, 2, 2), [b52]) hm (hs.re 19 [3, 4, 5, 13, 14, 15, 0, 17, 18] rfl) rfl
  ·
    replace hm := bif_f hc31 hm
    refine WC_exit ?_
    refine At_then_exit <| At_then_exit <| At_blk_here <| ?_
    refine At_then ?_
    refine WC_seq ?_
    refine WC_region ?_
    refine WL_op (Run_loadA (vs := [(.int .i64 c24), (.int .i64 c25), (.int .i64 c26), (sl v28)]) Tryd.underlying24 rfl ti24 (Opd.t rfl) (fun _ => (hs.box (i := 5) rfl).part 0 rfl) rfl) rfl rfl rfl rfl <| ?_
    refine WS_store (us := [(.int .i64 c24), (.int .i64 c25), (.int .i64 c26), (sl v28)]) (vs' := [(.int .i64 c24), (.int .i64 c25), (.int .i64 c26), (sl v28)]) hs 4 rfl ti24 (Opd.t rfl) (Opd.t rfl) rfl rfl rfl rfl rfl ?_
    intro w55 hs
    replace hs := Sat.n9 (Γ := Φ) hs rfl
    refine WL_nil ?_
    refine At_then ?_
    refine WC_ret ?_
    refine At_r1 rfl (ResIs.cA (vs := [(.int .i64 c24), (.int .i64 c25), (.int .i64 c26), (sl v28)]) rfl Tryd.underlying24 rfl ti24 ((hs.box (i := 4) rfl).part 0 rfl) rfl) ?_
    cases hm
    exact ⟨v28, R29, rfl, (hs.re 9 [6, 0, 1, 2] rfl)⟩

set_option maxRecDepth 100000 in
set_option maxHeartbeats 4000000 in
theorem expr_read_prod_ok {k_expr_read_lower : ((List (Int × Str × Int × Int)) × Int × (List Str) × Int × Int × Int) → Option (Ex × Int × Int × Int × Int)} (ih_expr_read_lower : ∀ {Φ : Ctx} {w : World} {l : (List (Int × Str × Int × Int))} {at_ : Int} {names : (List Str)} {deep : Int} {bad : Int} {place : Int} {b : Nat} {v2 : SLV} {v4 : SLV} {r : (Ex × Int × Int × Int × Int)}, Sat (box b 71 [(sl v2), (.int .i64 at_), (sl v4), (.int .i64 deep), (.int .i64 bad), (.int .i64 place)] :: imm (RSl (RP (RI .i64) (RP RS (RP (RI .i64) (RI .i64))))) [sl v2] l :: imm (RSl RS) [sl v4] names :: gl 0 (keysL.map S) :: gl 1 (textsL.map S) :: Φ) w → k_expr_read_lower (l, at_, names, deep, bad, place) = some r → CallsR Tryd.prog 42 [(.pointer (some ⟨b, 0, none⟩)), (.func (.func 43) #[] #[])] w (fun v w' => ∃ v3 : SLV, ∃ R4 : List Nat, v = (.agg #[(.int .i64 r.1.op), (.int .i64 r.1.n), (.int .i64 r.1.at_), (sl v3)]) ∧ Sat (osl RExpr 24 (sl v3) r.1.l R4 :: box b 71 [(sl v2), (.int .i64 r.2.1), (sl v4), (.int .i64 r.2.2.1), (.int .i64 r.2.2.2.1), (.int .i64 r.2.2.2.2)] :: imm (RSl (RP (RI .i64) (RP RS (RP (RI .i64) (RI .i64))))) [sl v2] l :: imm (RSl RS) [sl v4] names :: Φ) w')) {Φ : Ctx} {w : World} {l : (List (Int × Str × Int × Int))} {at_ : Int} {names : (List Str)} {deep : Int} {bad : Int} {place : Int} {b : Nat} {v2 : SLV} {v4 : SLV} {r : (Ex × Int × Int × Int × Int)} (hs : Sat (box b 71 [(sl v2), (.int .i64 at_), (sl v4), (.int .i64 deep), (.int .i64 bad), (.int .i64 place)] :: imm (RSl (RP (RI .i64) (RP RS (RP (RI .i64) (RI .i64))))) [sl v2] l :: imm (RSl RS) [sl v4] names :: gl 0 (keysL.map S) :: gl 1 (textsL.map S) :: Φ) w) (hm : expr_read_prod k_expr_read_lower l at_ names deep bad place = some r) :
    CallsR Tryd.prog 74 [(.pointer (some ⟨b, 0, none⟩))] w (fun v w' => ∃ v3 : SLV, ∃ R4 : List Nat, v = (.agg #[(.int .i64 r.1.op), (.int .i64 r.1.n), (.int .i64 r.1.at_), (sl v3)]) ∧ Sat (osl RExpr 24 (sl v3) r.1.l R4 :: box b 71 [(sl v2), (.int .i64 r.2.1), (sl v4), (.int .i64 r.2.2.1), (.int .i64 r.2.2.2.1), (.int .i64 r.2.2.2.2)] :: imm (RSl (RP (RI .i64) (RP RS (RP (RI .i64) (RI .i64))))) [sl v2] l :: imm (RSl RS) [sl v4] names :: Φ) w') := by
  refine CallsX_enter Tryd.func74 rfl Tryd.ntmps74 rfl ?_
  unfold expr_read_prod at hm
  refine WC_seq ?_
  refine WC_region ?_
  refine WS_alloc (zs := [(.int .i64 0), (.int .i64 0), (.int .i64 0), (sl (none, 0, 0))]) hs ti24 rfl rfl ?_
  intro b9 w10 hs
  replace hs := Sat.n6 (Γ := Φ) hs rfl
  refine WL_nil ?_
  refine At_then ?_
  refine WC_seq ?_
  refine WC_region ?_
  refine WL_op (Run_move (Opd.t rfl)) rfl rfl rfl rfl <| ?_
  refine WS_lit (A := (RI .i64)) (xs := [5]) (zs := [(.int .i64 0)]) (cells := [(.int .i64 5)]) (parts := [(0, (.const (.int .i64 5)))]) hs Tryd.underlying25 ti3 rfl rfl rfl (.cons Opd.c .nil) (by kernel_rfl) rfl (ARd.cons (A := (RI .i64)) (c := [(.int .i64 5)]) (x := 5) rfl ARd.nil) rfl ?_
  intro b11 w12 hs
  replace hs := Sat.n7 (Γ := Φ) hs rfl
  replace hs := hs.freeze (i := 0) rfl
  obtain ⟨r13, hr14, hm⟩ := bind_some' hm
  refine WL_call (f := 63) (first := []) (cap := []) (xs := [(.tmp 3), (.func 75), (.tmp 4)]) (vs := [(.pointer (some ⟨b, 0, none⟩)), (.func (.func 75) #[] #[]), (sl (some ⟨b11, 0, none⟩, 1, 1))]) (args := [(.pointer (some ⟨b, 0, none⟩)), (.func (.func 75) #[] #[]), (sl (some ⟨b11, 0, none⟩, 1, 1))]) Tryd.call63 Opd.f (.cons (Opd.t rfl) (.cons Opd.f (.cons (Opd.t rfl) .nil))) rfl rfl (expr_read_left_s4_ok (@ih_expr_read_lower) (hs.re 7 [2, 0, 3, 4, 5, 6, 0, 1, 3, 4, 5, 6] rfl) hr14) ?_
  rintro _ w17 ⟨v15, R16, rfl, hs⟩
  replace hs := Sat.n10 (Γ := Φ) hs rfl
  refine WS_store (us := [(.int .i64 r13.1.op), (.int .i64 r13.1.n), (.int .i64 r13.1.at_), (sl v15)]) (vs' := [(.int .i64 r13.1.op), (.int .i64 r13.1.n), (.int .i64 r13.1.at_), (sl v15)]) hs 5 rfl ti24 (Opd.t rfl) (Opd.t rfl) rfl rfl rfl rfl rfl ?_
  intro w18 hs
  replace hs := Sat.n10 (Γ := Φ) hs rfl
  refine WL_nil ?_
  refine At_then ?_
  refine WC_ret ?_
  refine At_r1 rfl (ResIs.cA (vs := [(.int .i64 r13.1.op), (.int .i64 r13.1.n), (.int .i64 r13.1.at_), (sl v15)]) rfl Tryd.underlying24 rfl ti24 ((hs.box (i := 5) rfl).part 0 rfl) rfl) ?_
  cases hm
  exact ⟨v15, R16, rfl, (hs.re 10 [0, 1, 2, 3] rfl)⟩

set_option maxRecDepth 100000 in
set_option maxHeartbeats 4000000 in
theorem expr_read_left_s3_ok {k_expr_read_lower : ((List (Int × Str × Int × Int)) × Int × (List Str) × Int × Int × Int) → Option (Ex × Int × Int × Int × Int)} (ih_expr_read_lower : ∀ {Φ : Ctx} {w : World} {l : (List (Int × Str × Int × Int))} {at_ : Int} {names : (List Str)} {deep : Int} {bad : Int} {place : Int} {b : Nat} {v2 : SLV} {v4 : SLV} {r : (Ex × Int × Int × Int × Int)}, Sat (box b 71 [(sl v2), (.int .i64 at_), (sl v4), (.int .i64 deep), (.int .i64 bad), (.int .i64 place)] :: imm (RSl (RP (RI .i64) (RP RS (RP (RI .i64) (RI .i64))))) [sl v2] l :: imm (RSl RS) [sl v4] names :: gl 0 (keysL.map S) :: gl 1 (textsL.map S) :: Φ) w → k_expr_read_lower (l, at_, names, deep, bad, place) = some r → CallsR Tryd.prog 42 [(.pointer (some ⟨b, 0, none⟩)), (.func (.func 43) #[] #[])] w (fun v w' => ∃ v3 : SLV, ∃ R4 : List Nat, v = (.agg #[(.int .i64 r.1.op), (.int .i64 r.1.n), (.int .i64 r.1.at_), (sl v3)]) ∧ Sat (osl RExpr 24 (sl v3) r.1.l R4 :: box b 71 [(sl v2), (.int .i64 r.2.1), (sl v4), (.int .i64 r.2.2.1), (.int .i64 r.2.2.2.1), (.int .i64 r.2.2.2.2)] :: imm (RSl (RP (RI .i64) (RP RS (RP (RI .i64) (RI .i64))))) [sl v2] l :: imm (RSl RS) [sl v4] names :: Φ) w')) {Φ : Ctx} {w : World} {ops : (List Int)} {l : (List (Int × Str × Int × Int))} {at_ : Int} {names : (List Str)} {deep : Int} {bad : Int} {place : Int} {b : Nat} {v2 : SLV} {v4 : SLV} {v6 : SLV} {r : (Ex × Int × Int × Int × Int)} (hs : Sat (box b 71 [(sl v4), (.int .i64 at_), (sl v6), (.int .i64 deep), (.int .i64 bad), (.int .i64 place)] :: imm (RSl (RI .i64)) [sl v2] ops :: imm (RSl (RP (RI .i64) (RP RS (RP (RI .i64) (RI .i64))))) [sl v4] l :: imm (RSl RS) [sl v6] names :: gl 0 (keysL.map S) :: gl 1 (textsL.map S) :: Φ) w) (hm : expr_read_left_s3 k_expr_read_lower ops l at_ names deep bad place = some r) :
    CallsR Tryd.prog 63 [(.pointer (some ⟨b, 0, none⟩)), (.func (.func 74) #[] #[]), (sl v2)] w (fun v w' => ∃ v3 : SLV, ∃ R4 : List Nat, v = (.agg #[(.int .i64 r.1.op), (.int .i64 r.1.n), (.int .i64 r.1.at_), (sl v3)]) ∧ Sat (osl RExpr 24 (sl v3) r.1.l R4 :: box b 71 [(sl v4), (.int .i64 r.2.1), (sl v6), (.int .i64 r.2.2.1), (.int .i64 r.2.2.2.1), (.int .i64 r.2.2.2.2)] :: imm (RSl (RP (RI .i64) (RP RS (RP (RI .i64) (RI .i64))))) [sl v4] l :: imm (RSl RS) [sl v6] names :: Φ) w') := by
  refine CallsX_enter Tryd.func63 rfl Tryd.ntmps63 rfl ?_
  unfold expr_read_left_s3 at hm
  refine WC_seq ?_
  refine WC_region ?_
  refine WS_alloc (zs := [(.int .i64 0), (.int .i64 0), (.int .i64 0), (sl (none, 0, 0))]) hs ti24 rfl rfl ?_
  intro b9 w10 hs
  replace hs := Sat.n7 (Γ := Φ) hs rfl
  refine WL_nil ?_
  refine At_then ?_
  refine WC_seq ?_
  refine WC_region ?_
  refine WL_op (Run_move (Opd.t rfl)) rfl rfl rfl rfl <| WL_op (Run_move (Opd.t rfl)) rfl rfl rfl rfl <| ?_
  obtain ⟨r11, hr12, hm⟩ := bind_some' hm
  refine WL_call (f := 74) (first := []) (cap := []) (xs := [(.tmp 13)]) (vs := [(.pointer (some ⟨b, 0, none⟩))]) (args := [(.pointer (some ⟨b, 0, none⟩))]) Tryd.call74 (Opd.t rfl) (.cons (Opd.t rfl) .nil) rfl rfl (expr_read_prod_ok (@ih_expr_read_lower) (hs.re 7 [1, 3, 4, 5, 6, 0, 2, 3, 4, 5, 6] rfl) hr12) ?_
  rintro _ w15 ⟨v13, R14, rfl, hs⟩
  replace hs := Sat.n10 (Γ := Φ) hs rfl
  refine WS_alloc (zs := [(.int .i64 0), (.int .i64 0), (.int .i64 0), (sl (none, 0, 0))]) hs ti24 rfl rfl ?_
  intro b16 w17 hs
  replace hs := Sat.n11 (Γ := Φ) hs rfl
  refine WS_store (us := [(.int .i64 r11.1.op), (.int .i64 r11.1.n), (.int .i64 r11.1.at_), (sl v13)]) (vs' := [(.int .i64 r11.1.op), (.int .i64 r11.1.n), (.int .i64 r11.1.at_), (sl v13)]) hs 0 rfl ti24 (Opd.t rfl) (Opd.t rfl) rfl rfl rfl rfl rfl ?_
  intro w18 hs
  replace hs := Sat.n11 (Γ := Φ) hs rfl
  refine WL_nil ?_
  refine At_then ?_
  refine WC_seq ?_
  refine WC_block ?_
  refine WC_loop (σ := Int × Int × Int × Int × Int × Int × Int × (List Ex)) (γ := SLV × List Nat) (F := (expr_read_left_s3_L1 k_expr_read_lower ops l names)) (N := FUEL) (s0 := (r11.2.1, r11.2.2.1, r11.2.2.2.1, r11.2.2.2.2, r11.1.op, r11.1.n, r11.1.at_, r11.1.l)) (r := r) (fun ⟨c20, c21, c22, c23, c24, c25, c26, c27⟩ ⟨v28, R29⟩ w19 => Sat (box b 71 [(sl v4), (.int .i64 c20), (sl v6), (.int .i64 c21), (.int .i64 c22), (.int .i64 c23)] :: imm (RSl (RP (RI .i64) (RP RS (RP (RI .i64) (RI .i64))))) [sl v4] l :: imm (RSl RS) [sl v6] names :: imm (RSl (RI .i64)) [sl v2] ops :: box b9 24 [(.int .i64 0), (.int .i64 0), (.int .i64 0), (sl (none, 0, 0))] :: box b16 24 [(.int .i64 c24), (.int .i64 c25), (.int .i64 c26), (sl v28)] :: osl RExpr 24 (sl v28) c27 R29 :: gl 0 (keysL.map S) :: gl 1 (textsL.map S) :: Φ) w19) (fun ⟨c20, c21, c22, c23, c24, c25, c26, c27⟩ ⟨v28, R29⟩ => [(0, true, (.pointer (some ⟨b, 0, none⟩))), (1, true, (.func (.func 74) #[] #[])), (2, true, (sl v2)), (6, true, (.pointer (some ⟨b9, 0, none⟩))), (7, true, (.pointer (some ⟨b16, 0, none⟩)))]) hm (v13, R14) (hs.re 11 [2, 3, 4, 6, 5, 0, 1, 9, 10] rfl) rfl ?_
  rintro again30 ⟨c20, c21, c22, c23, c24, c25, c26, c27⟩ ⟨v28, R29⟩ w19 hm hs
  unfold expr_read_left_s3_L1 at hm
  dsimp only at hm
  refine WC_seq ?_
  refine WC_seq ?_
  refine WC_region ?_
  refine WL_op (Run_move (Opd.t rfl)) rfl rfl rfl rfl <| WL_op (Run_nilP (Opd.t rfl)) rfl rfl rfl rfl <| WL_op (Run_fieldAddr fo71_4 (Opd.t rfl)) rfl rfl rfl rfl <| WL_op (Run_load1 (v := (.int .i64 c22)) Tryd.underlying34 rfl (Opd.t rfl) (fun _ => (hs.box (i := 0) rfl).part 4 rfl)) rfl rfl rfl rfl <| WL_op (Run_eqI (Opd.t rfl) Opd.c) rfl rfl rfl rfl <| ?_
  refine WL_nil ?_
  refine At_then ?_
  refine WC_cond (Opd.t rfl) (fun hc31 => ?_) (fun hc31 => ?_)
  ·
    replace hm := bif_t hc31 hm
    refine WC_skip ?_
    refine At_then ?_
    refine WC_block ?_
    refine WC_seq ?_
    refine WC_region ?_
    refine WL_op (Run_move (Opd.t rfl)) rfl rfl rfl rfl <| WL_op (Run_move (Opd.t rfl)) rfl rfl rfl rfl <| ?_
    obtain ⟨r32, hr33, hm⟩ := bind_some' hm
    refine WL_call (f := 50) (first := []) (cap := []) (xs := [(.tmp 21), (.tmp 22)]) (vs := [(.pointer (some ⟨b, 0, none⟩)), (sl v2)]) (args := [(.pointer (some ⟨b, 0, none⟩)), (sl v2)]) Tryd.call50 Opd.f (.cons (Opd.t rfl) (.cons (Opd.t rfl) .nil)) rfl rfl (expr_read_is_ok (hs.re 9 [0, 3, 1, 2, 7, 8, 1, 2, 3, 4, 5, 6, 7, 8] rfl) hr33) ?_
    rintro _ w34 ⟨rfl, hs⟩
    replace hs := Sat.n11 (Γ := Φ) hs rfl
    refine WL_op (Run_move (Opd.t rfl)) rfl rfl rfl rfl <| WL_op (Run_extract (vs := [(.int .i64 r32.1), (.bool r32.2)]) (Opd.t rfl) rfl) rfl rfl rfl rfl <| WL_op (Run_extract (vs := [(.int .i64 r32.1), (.bool r32.2)]) (Opd.t rfl) rfl) rfl rfl rfl rfl <| WL_op (Run_assign (Opd.t rfl)) rfl rfl rfl rfl <| WL_op (Run_assign (Opd.t rfl)) rfl rfl rfl rfl <| ?_
    refine WL_nil ?_
    refine At_then ?_
    refine WC_seq ?_
    refine WC_seq ?_
    refine WC_region ?_
    refine WL_op (Run_move (Opd.t rfl)) rfl rfl rfl rfl <| WL_op (Run_notB (Opd.t rfl)) rfl rfl rfl rfl <| ?_
    refine WL_nil ?_
    refine At_then ?_
    refine WC_cond (Opd.t rfl) (fun hc35 => ?_) (fun hc35 => ?_)
    ·
      replace hm := bif_t hc35 hm
      refine WC_exit ?_
      refine At_then_exit <| At_blk_other rfl <| At_then_exit <| At_blk_here <| ?_
      refine At_then ?_
      refine WC_seq ?_
      refine WC_region ?_
      refine WL_op (Run_loadA (vs := [(.int .i64 c24), (.int .i64 c25), (.int .i64 c26), (sl v28)]) Tryd.underlying24 rfl ti24 (Opd.t rfl) (fun _ => (hs.box (i := 7) rfl).part 0 rfl) rfl) rfl rfl rfl rfl <| ?_
      refine WS_store (us := [(.int .i64 c24), (.int .i64 c25), (.int .i64 c26), (sl v28)]) (vs' := [(.int .i64 c24), (.int .i64 c25), (.int .i64 c26), (sl v28)]) hs 6 rfl ti24 (Opd.t rfl) (Opd.t rfl) rfl rfl rfl rfl rfl ?_
      intro w36 hs
      replace hs := Sat.n11 (Γ := Φ) hs rfl
      refine WL_nil ?_
      refine At_then ?_
      refine WC_ret ?_
      refine At_r1 rfl (ResIs.cA (vs := [(.int .i64 c24), (.int .i64 c25), (.int .i64 c26), (sl v28)]) rfl Tryd.underlying24 rfl ti24 ((hs.box (i := 6) rfl).part 0 rfl) rfl) ?_
      cases hm
      exact ⟨v28, R29, rfl, (hs.re 11 [8, 0, 1, 2] rfl)⟩
    ·
      replace hm := bif_f hc35 hm
      refine WC_skip ?_
      refine At_then ?_
      refine WC_seq ?_
      refine WC_region ?_
      refine WL_op (Run_move (Opd.t rfl)) rfl rfl rfl rfl <| ?_
      obtain ⟨r37, hr38, hm⟩ := bind_some' hm
      refine WL_call (f := 51) (first := []) (cap := []) (xs := [(.tmp 28)]) (vs := [(.pointer (some ⟨b, 0, none⟩))]) (args := [(.pointer (some ⟨b, 0, none⟩))]) Tryd.call51 Opd.f (.cons (Opd.t rfl) .nil) rfl rfl (expr_read_next_ok (hs.re 11 [0, 1, 2, 1, 2, 3, 4, 5, 6, 7, 8, 9, 10] rfl) hr38) ?_
      rintro _ w39 ⟨rfl, hs⟩
      replace hs := Sat.n13 (Γ := Φ) hs rfl
      refine WS_alloc (zs := [(.int .i64 0), (S []), (.int .i64 0), (.int .i64 0)]) hs ti60 rfl rfl ?_
      intro b40 w41 hs
      replace hs := Sat.n14 (Γ := Φ) hs rfl
      refine WS_store (us := [(.int .i64 r37.1), (S r37.2.1), (.int .i64 r37.2.2.1), (.int .i64 r37.2.2.2)]) (vs' := [(.int .i64 r37.1), (S r37.2.1), (.int .i64 r37.2.2.1), (.int .i64 r37.2.2.2)]) hs 0 rfl ti60 (Opd.t rfl) (Opd.t rfl) rfl rfl rfl rfl rfl ?_
      intro w42 hs
      replace hs := Sat.n14 (Γ := Φ) hs rfl
      refine WL_nil ?_
      refine At_then ?_
      refine WC_seq ?_
      refine WC_region ?_
      refine WL_op (Run_move (Opd.t rfl)) rfl rfl rfl rfl <| WL_op (Run_nilP (Opd.t rfl)) rfl rfl rfl rfl <| WL_op (Run_fieldAddr fo71_1 (Opd.t rfl)) rfl rfl rfl rfl <| WL_op (Run_load1 (v := (.int .i64 c20)) Tryd.underlying3 rfl (Opd.t rfl) (fun _ => (hs.box (i := 1) rfl).part 1 rfl)) rfl rfl rfl rfl <| WL_op (Run_add (Opd.t rfl) Opd.c) rfl rfl rfl rfl <| WL_op (Run_nilP (Opd.t rfl)) rfl rfl rfl rfl <| WL_op (Run_fieldAddr fo71_1 (Opd.t rfl)) rfl rfl rfl rfl <| ?_
      refine WS_store (us := [(.int .i64 (IntKind.i64.wrap (c20 + 1)))]) (vs' := [(sl v4), (.int .i64 (IntKind.i64.wrap (c20 + 1))), (sl v6), (.int .i64 c21), (.int .i64 c22), (.int .i64 c23)]) hs 1 rfl ti3 (Opd.t rfl) (Opd.t rfl) rfl rfl rfl rfl rfl ?_
      intro w43 hs
      replace hs := Sat.n14 (Γ := Φ) hs rfl
      refine WL_nil ?_
      refine At_then ?_
      refine WC_seq ?_
      refine WC_region ?_
      refine WL_op (Run_move (Opd.t rfl)) rfl rfl rfl rfl <| WL_op (Run_move (Opd.t rfl)) rfl rfl rfl rfl <| ?_
      obtain ⟨r44, hr45, hm⟩ := bind_some' hm
      refine WL_call (f := 74) (first := []) (cap := []) (xs := [(.tmp 38)]) (vs := [(.pointer (some ⟨b, 0, none⟩))]) (args := [(.pointer (some ⟨b, 0, none⟩))]) Tryd.call74 (Opd.t rfl) (.cons (Opd.t rfl) .nil) rfl rfl (expr_read_prod_ok (@ih_expr_read_lower) (hs.re 14 [1, 2, 3, 12, 13, 0, 2, 3, 4, 5, 6, 7, 8, 9, 10, 11, 12, 13] rfl) hr45) ?_
      rintro _ w48 ⟨v46, R47, rfl, hs⟩
      replace hs := Sat.n17 (Γ := Φ) hs rfl
      refine WS_alloc (zs := [(.int .i64 0), (.int .i64 0), (.int .i64 0), (sl (none, 0, 0))]) hs ti24 rfl rfl ?_
      intro b49 w50 hs
      replace hs := Sat.n18 (Γ := Φ) hs rfl
      refine WS_store (us := [(.int .i64 r44.1.op), (.int .i64 r44.1.n), (.int .i64 r44.1.at_), (sl v46)]) (vs' := [(.int .i64 r44.1.op), (.int .i64 r44.1.n), (.int .i64 r44.1.at_), (sl v46)]) hs 0 rfl ti24 (Opd.t rfl) (Opd.t rfl) rfl rfl rfl rfl rfl ?_
      intro w51 hs
      replace hs := Sat.n18 (Γ := Φ) hs rfl
      refine WL_nil ?_
      refine At_then ?_
      refine WC_region ?_
      refine WL_op (Run_move (Opd.t rfl)) rfl rfl rfl rfl <| WL_op (Run_fieldAddr fo60_3 (Opd.t rfl)) rfl rfl rfl rfl <| WL_op (Run_load1 (v := (.int .i64 r37.2.2.2)) Tryd.underlying3 rfl (Opd.t rfl) (fun _ => (hs.box (i := 5) rfl).part 3 rfl)) rfl rfl rfl rfl <| WL_op (Run_loadA (vs := [(.int .i64 c24), (.int .i64 c25), (.int .i64 c26), (sl v28)]) Tryd.underlying24 rfl ti24 (Opd.t rfl) (fun _ => (hs.box (i := 14) rfl).part 0 rfl) rfl) rfl rfl rfl rfl <| WL_op (Run_loadA (vs := [(.int .i64 r44.1.op), (.int .i64 r44.1.n), (.int .i64 r44.1.at_), (sl v46)]) Tryd.underlying24 rfl ti24 (Opd.t rfl) (fun _ => (hs.box (i := 0) rfl).part 0 rfl) rfl) rfl rfl rfl rfl <| ?_
      replace hs := hs.freeze (i := 15) rfl
      replace hs := hs.freeze (i := 1) rfl
      refine WS_lit (A := RExpr) (xs := [(Ex.mk c24 c25 c26 c27), r44.1]) (zs := [(.int .i64 0), (.int .i64 0), (.int .i64 0), (sl (none, 0, 0))]) (cells := [(.int .i64 c24), (.int .i64 c25), (.int .i64 c26), (sl v28), (.int .i64 r44.1.op), (.int .i64 r44.1.n), (.int .i64 r44.1.at_), (sl v46)]) (parts := [(0, (.tmp 43)), (1, (.tmp 44))]) hs Tryd.underlying22 ti24 rfl rfl rfl (.cons (Opd.t rfl) (.cons (Opd.t rfl) .nil)) (by kernel_rfl) rfl (ARd.cons (A := RExpr) (c := [(.int .i64 c24), (.int .i64 c25), (.int .i64 c26), (sl v28)]) (x := (Ex.mk c24 c25 c26 c27)) (RExpr_close (⟨_, rfl, (hs.sl (i := 15) rfl)⟩)) (ARd.cons (A := RExpr) (c := [(.int .i64 r44.1.op), (.int .i64 r44.1.n), (.int .i64 r44.1.at_), (sl v46)]) (x := r44.1) (RExpr_closeE (⟨_, rfl, (hs.sl (i := 1) rfl)⟩)) ARd.nil)) rfl ?_
      intro b52 w53 hs
      replace hs := Sat.n19 (Γ := Φ) hs rfl
      refine WL_op (Run_build (parts := [(0, (.tmp 40)), (2, (.tmp 42)), (3, (.tmp 45))]) (v := (.agg #[(.int .i64 r32.1), (.int .i64 0), (.int .i64 r37.2.2.2), (sl (some ⟨b52, 0, none⟩, 2, 2))])) (.cons (Opd.t rfl) (.cons (Opd.t rfl) (.cons (Opd.t rfl) .nil))) (fun _ => by kernel_rfl)) rfl rfl rfl rfl <| ?_
      refine WS_store (us := [(.int .i64 r32.1), (.int .i64 0), (.int .i64 r37.2.2.2), (sl (some ⟨b52, 0, none⟩, 2, 2))]) (vs' := [(.int .i64 r32.1), (.int .i64 0), (.int .i64 r37.2.2.2), (sl (some ⟨b52, 0, none⟩, 2, 2))]) hs 15 rfl ti24 (Opd.t rfl) (Opd.t rfl) rfl rfl rfl rfl rfl ?_
      intro w54 hs
      replace hs := Sat.n19 (Γ := Φ) hs rfl
      refine WL_nil ?_
      refine At_blk_normal ?_
      exact At_again (r44.2.1, r44.2.2.1, r44.2.2.2.1, r44.2.2.2.2, r32.1, 0, r37.2.2.2, ([(Ex.mk c24 c25 c26 c27), r44.1] : List Ex)) ((some ⟨b52, 0, none⟩, 2, 2), [b52]) hm (hs.re 19 [3, 4, 5, 13, 14, 15, 0, 17, 18] rfl) rfl
  ·
    replace hm := bif_f hc31 hm
    refine WC_exit ?_
    refine At_then_exit <| At_then_exit <| At_blk_here <| ?_
    refine At_then ?_
    refine WC_seq ?_
    refine WC_region ?_
    refine WL_op (Run_loadA (vs := [(.int .i64 c24), (.int .i64 c25), (.int .i64 c26), (sl v28)]) Tryd.underlying24 rfl ti24 (Opd.t rfl) (fun _ => (hs.box (i := 5) rfl).part 0 rfl) rfl) rfl rfl rfl rfl <| ?_
    refine WS_store (us := [(.int .i64 c24), (.int .i64 c25), (.int .i64 c26), (sl v28)]) (vs' := [(.int .i64 c24), (.int .i64 c25), (.int .i64 c26), (sl v28)]) hs 4 rfl ti24 (Opd.t rfl) (Opd.t rfl) rfl rfl rfl rfl rfl ?_
    intro w55 hs
    replace hs := Sat.n9 (Γ := Φ) hs rfl
    refine WL_nil ?_
    refine At_then ?_
    refine WC_ret ?_
    refine At_r1 rfl (ResIs.cA (vs := [(.int .i64 c24), (.int .i64 c25), (.int .i64 c26), (sl v28)]) rfl Tryd.underlying24 rfl ti24 ((hs.box (i := 4) rfl).part 0 rfl) rfl) ?_
    cases hm
    exact ⟨v28, R29, rfl, (hs.re 9 [6, 0, 1, 2] rfl)⟩

set_option maxRecDepth 100000 in
set_option maxHeartbeats 4000000 in
theorem expr_read_sum_ok {k_expr_read_lower : ((List (Int × Str × Int × Int)) × Int × (List Str) × Int × Int × Int) → Option (Ex × Int × Int × Int × Int)} (ih_expr_read_lower : ∀ {Φ : Ctx} {w : World} {l : (List (Int × Str × Int × Int))} {at_ : Int} {names : (List Str)} {deep : Int} {bad : Int} {place : Int} {b : Nat} {v2 : SLV} {v4 : SLV} {r : (Ex × Int × Int × Int × Int)}, Sat (box b 71 [(sl v2), (.int .i64 at_), (sl v4), (.int .i64 deep), (.int .i64 bad), (.int .i64 place)] :: imm (RSl (RP (RI .i64) (RP RS (RP (RI .i64) (RI .i64))))) [sl v2] l :: imm (RSl RS) [sl v4] names :: gl 0 (keysL.map S) :: gl 1 (textsL.map S) :: Φ) w → k_expr_read_lower (l, at_, names, deep, bad, place) = some r → CallsR Tryd.prog 42 [(.pointer (some ⟨b, 0, none⟩)), (.func (.func 43) #[] #[])] w (fun v w' => ∃ v3 : SLV, ∃ R4 : List Nat, v = (.agg #[(.int .i64 r.1.op), (.int .i64 r.1.n), (.int .i64 r.1.at_), (sl v3)]) ∧ Sat (osl RExpr 24 (sl v3) r.1.l R4 :: box b 71 [(sl v2), (.int .i64 r.2.1), (sl v4), (.int .i64 r.2.2.1), (.int .i64 r.2.2.2.1), (.int .i64 r.2.2.2.2)] :: imm (RSl (RP (RI .i64) (RP RS (RP (RI .i64) (RI .i64))))) [sl v2] l :: imm (RSl RS) [sl v4] names :: Φ) w')) {Φ : Ctx} {w : World} {l : (List (Int × Str × Int × Int))} {at_ : Int} {names : (List Str)} {deep : Int} {bad : Int} {place : Int} {b : Nat} {v2 : SLV} {v4 : SLV} {r : (Ex × Int × Int × Int × Int)} (hs : Sat (box b 71 [(sl v2), (.int .i64 at_), (sl v4), (.int .i64 deep), (.int .i64 bad), (.int .i64 place)] :: imm (RSl (RP (RI .i64) (RP RS (RP (RI .i64) (RI .i64))))) [sl v2] l :: imm (RSl RS) [sl v4] names :: gl 0 (keysL.map S) :: gl 1 (textsL.map S) :: Φ) w) (hm : expr_read_sum k_expr_read_lower l at_ names deep bad place = some r) :
    CallsR Tryd.prog 73 [(.pointer (some ⟨b, 0, none⟩))] w (fun v w' => ∃ v3 : SLV, ∃ R4 : List Nat, v = (.agg #[(.int .i64 r.1.op), (.int .i64 r.1.n), (.int .i64 r.1.at_), (sl v3)]) ∧ Sat (osl RExpr 24 (sl v3) r.1.l R4 :: box b 71 [(sl v2), (.int .i64 r.2.1), (sl v4), (.int .i64 r.2.2.1), (.int .i64 r.2.2.2.1), (.int .i64 r.2.2.2.2)] :: imm (RSl (RP (RI .i64) (RP RS (RP (RI .i64) (RI .i64))))) [sl v2] l :: imm (RSl RS) [sl v4] names :: Φ) w') := by
  refine CallsX_enter Tryd.func73 rfl Tryd.ntmps73 rfl ?_
  unfold expr_read_sum at hm
  refine WC_seq ?_
  refine WC_region ?_
  refine WS_alloc (zs := [(.int .i64 0), (.int .i64 0), (.int .i64 0), (sl (none, 0, 0))]) hs ti24 rfl rfl ?_
  intro b9 w10 hs
  replace hs := Sat.n6 (Γ := Φ) hs rfl
  refine WL_nil ?_
  refine At_then ?_
  refine WC_seq ?_
  refine WC_region ?_
  refine WL_op (Run_move (Opd.t rfl)) rfl rfl rfl rfl <| ?_
  refine WS_lit (A := (RI .i64)) (xs := [3, 4]) (zs := [(.int .i64 0)]) (cells := [(.int .i64 3), (.int .i64 4)]) (parts := [(0, (.const (.int .i64 3))), (1, (.const (.int .i64 4)))]) hs Tryd.underlying25 ti3 rfl rfl rfl (.cons Opd.c (.cons Opd.c .nil)) (by kernel_rfl) rfl (ARd.cons (A := (RI .i64)) (c := [(.int .i64 3)]) (x := 3) rfl (ARd.cons (A := (RI .i64)) (c := [(.int .i64 4)]) (x := 4) rfl ARd.nil)) rfl ?_
  intro b11 w12 hs
  replace hs := Sat.n7 (Γ := Φ) hs rfl
  replace hs := hs.freeze (i := 0) rfl
  obtain ⟨r13, hr14, hm⟩ := bind_some' hm
  refine WL_call (f := 63) (first := []) (cap := []) (xs := [(.tmp 3), (.func 74), (.tmp 4)]) (vs := [(.pointer (some ⟨b, 0, none⟩)), (.func (.func 74) #[] #[]), (sl (some ⟨b11, 0, none⟩, 2, 2))]) (args := [(.pointer (some ⟨b, 0, none⟩)), (.func (.func 74) #[] #[]), (sl (some ⟨b11, 0, none⟩, 2, 2))]) Tryd.call63 Opd.f (.cons (Opd.t rfl) (.cons Opd.f (.cons (Opd.t rfl) .nil))) rfl rfl (expr_read_left_s3_ok (@ih_expr_read_lower) (hs.re 7 [2, 0, 3, 4, 5, 6, 0, 1, 3, 4, 5, 6] rfl) hr14) ?_
  rintro _ w17 ⟨v15, R16, rfl, hs⟩
  replace hs := Sat.n10 (Γ := Φ) hs rfl
  refine WS_store (us := [(.int .i64 r13.1.op), (.int .i64 r13.1.n), (.int .i64 r13.1.at_), (sl v15)]) (vs' := [(.int .i64 r13.1.op), (.int .i64 r13.1.n), (.int .i64 r13.1.at_), (sl v15)]) hs 5 rfl ti24 (Opd.t rfl) (Opd.t rfl) rfl rfl rfl rfl rfl ?_
  intro w18 hs
  replace hs := Sat.n10 (Γ := Φ) hs rfl
  refine WL_nil ?_
  refine At_then ?_
  refine WC_ret ?_
  refine At_r1 rfl (ResIs.cA (vs := [(.int .i64 r13.1.op), (.int .i64 r13.1.n), (.int .i64 r13.1.at_), (sl v15)]) rfl Tryd.underlying24 rfl ti24 ((hs.box (i := 5) rfl).part 0 rfl) rfl) ?_
  cases hm
  exact ⟨v15, R16, rfl, (hs.re 10 [0, 1, 2, 3] rfl)⟩

set_option maxRecDepth 100000 in
set_option maxHeartbeats 4000000 in
theorem expr_read_cmp_ok {k_expr_read_lower : ((List (Int × Str × Int × Int)) × Int × (List Str) × Int × Int × Int) → Option (Ex × Int × Int × Int × Int)} (ih_expr_read_lower : ∀ {Φ : Ctx} {w : World} {l : (List (Int × Str × Int × Int))} {at_ : Int} {names : (List Str)} {deep : Int} {bad : Int} {place : Int} {b : Nat} {v2 : SLV} {v4 : SLV} {r : (Ex × Int × Int × Int × Int)}, Sat (box b 71 [(sl v2), (.int .i64 at_), (sl v4), (.int .i64 deep), (.int .i64 bad), (.int .i64 place)] :: imm (RSl (RP (RI .i64) (RP RS (RP (RI .i64) (RI .i64))))) [sl v2] l :: imm (RSl RS) [sl v4] names :: gl 0 (keysL.map S) :: gl 1 (textsL.map S) :: Φ) w → k_expr_read_lower (l, at_, names, deep, bad, place) = some r → CallsR Tryd.prog 42 [(.pointer (some ⟨b, 0, none⟩)), (.func (.func 43) #[] #[])] w (fun v w' => ∃ v3 : SLV, ∃ R4 : List Nat, v = (.agg #[(.int .i64 r.1.op), (.int .i64 r.1.n), (.int .i64 r.1.at_), (sl v3)]) ∧ Sat (osl RExpr 24 (sl v3) r.1.l R4 :: box b 71 [(sl v2), (.int .i64 r.2.1), (sl v4), (.int .i64 r.2.2.1), (.int .i64 r.2.2.2.1), (.int .i64 r.2.2.2.2)] :: imm (RSl (RP (RI .i64) (RP RS (RP (RI .i64) (RI .i64))))) [sl v2] l :: imm (RSl RS) [sl v4] names :: Φ) w')) {Φ : Ctx} {w : World} {l : (List (Int × Str × Int × Int))} {at_ : Int} {names : (List Str)} {deep : Int} {bad : Int} {place : Int} {b : Nat} {v2 : SLV} {v4 : SLV} {r : (Ex × Int × Int × Int × Int)} (hs : Sat (box b 71 [(sl v2), (.int .i64 at_), (sl v4), (.int .i64 deep), (.int .i64 bad), (.int .i64 place)] :: imm (RSl (RP (RI .i64) (RP RS (RP (RI .i64) (RI .i64))))) [sl v2] l :: imm (RSl RS) [sl v4] names :: gl 0 (keysL.map S) :: gl 1 (textsL.map S) :: Φ) w) (hm : expr_read_cmp k_expr_read_lower l at_ names deep bad place = some r) :
    CallsR Tryd.prog 72 [(.pointer (some ⟨b, 0, none⟩))] w (fun v w' => ∃ v3 : SLV, ∃ R4 : List Nat, v = (.agg #[(.int .i64 r.1.op), (.int .i64 r.1.n), (.int .i64 r.1.at_), (sl v3)]) ∧ Sat (osl RExpr 24 (sl v3) r.1.l R4 :: box b 71 [(sl v2), (.int .i64 r.2.1), (sl v4), (.int .i64 r.2.2.1), (.int .i64 r.2.2.2.1), (.int .i64 r.2.2.2.2)] :: imm (RSl (RP (RI .i64) (RP RS (RP (RI .i64) (RI .i64))))) [sl v2] l :: imm (RSl RS) [sl v4] names :: Φ) w') := by
  refine CallsX_enter Tryd.func72 rfl Tryd.ntmps72 rfl ?_
  unfold expr_read_cmp at hm
  refine WC_seq ?_
  refine WC_region ?_
  refine WS_alloc (zs := [(.int .i64 0), (.int .i64 0), (.int .i64 0), (sl (none, 0, 0))]) hs ti24 rfl rfl ?_
  intro b9 w10 hs
  replace hs := Sat.n6 (Γ := Φ) hs rfl
  refine WL_nil ?_
  refine At_then ?_
  refine WC_seq ?_
  refine WC_region ?_
  refine WL_op (Run_move (Opd.t rfl)) rfl rfl rfl rfl <| ?_
  obtain ⟨r11, hr12, hm⟩ := bind_some' hm
  refine WL_call (f := 73) (first := []) (cap := []) (xs := [(.tmp 8)]) (vs := [(.pointer (some ⟨b, 0, none⟩))]) (args := [(.pointer (some ⟨b, 0, none⟩))]) Tryd.call73 Opd.f (.cons (Opd.t rfl) .nil) rfl rfl (expr_read_sum_ok (@ih_expr_read_lower) (hs.re 6 [1, 2, 3, 4, 5, 0, 2, 3, 4, 5] rfl) hr12) ?_
  rintro _ w15 ⟨v13, R14, rfl, hs⟩
  replace hs := Sat.n9 (Γ := Φ) hs rfl
  refine WS_alloc (zs := [(.int .i64 0), (.int .i64 0), (.int .i64 0), (sl (none, 0, 0))]) hs ti24 rfl rfl ?_
  intro b16 w17 hs
  replace hs := Sat.n10 (Γ := Φ) hs rfl
  refine WS_store (us := [(.int .i64 r11.1.op), (.int .i64 r11.1.n), (.int .i64 r11.1.at_), (sl v13)]) (vs' := [(.int .i64 r11.1.op), (.int .i64 r11.1.n), (.int .i64 r11.1.at_), (sl v13)]) hs 0 rfl ti24 (Opd.t rfl) (Opd.t rfl) rfl rfl rfl rfl rfl ?_
  intro w18 hs
  replace hs := Sat.n10 (Γ := Φ) hs rfl
  refine WL_nil ?_
  refine At_then ?_
  refine WC_seq ?_
  refine WC_region ?_
  refine WL_op (Run_move (Opd.t rfl)) rfl rfl rfl rfl <| ?_
  refine WS_lit (A := (RI .i64)) (xs := [7, 8, 9, 10, 11, 12]) (zs := [(.int .i64 0)]) (cells := [(.int .i64 7), (.int .i64 8), (.int .i64 9), (.int .i64 10), (.int .i64 11), (.int .i64 12)]) (parts := [(0, (.const (.int .i64 7))), (1, (.const (.int .i64 8))), (2, (.const (.int .i64 9))), (3, (.const (.int .i64 10))), (4, (.const (.int .i64 11))), (5, (.const (.int .i64 12)))]) hs Tryd.underlying25 ti3 rfl rfl rfl (.cons Opd.c (.cons Opd.c (.cons Opd.c (.cons Opd.c (.cons Opd.c (.cons Opd.c .nil)))))) (by kernel_rfl) rfl (ARd.cons (A := (RI .i64)) (c := [(.int .i64 7)]) (x := 7) rfl (ARd.cons (A := (RI .i64)) (c := [(.int .i64 8)]) (x := 8) rfl (ARd.cons (A := (RI .i64)) (c := [(.int .i64 9)]) (x := 9) rfl (ARd.cons (A := (RI .i64)) (c := [(.int .i64 10)]) (x := 10) rfl (ARd.cons (A := (RI .i64)) (c := [(.int .i64 11)]) (x := 11) rfl (ARd.cons (A := (RI .i64)) (c := [(.int .i64 12)]) (x := 12) rfl ARd.nil)))))) rfl ?_
  intro b19 w20 hs
  replace hs := Sat.n11 (Γ := Φ) hs rfl
  replace hs := hs.freeze (i := 0) rfl
  obtain ⟨r21, hr22, hm⟩ := bind_some' hm
  refine WL_call (f := 50) (first := []) (cap := []) (xs := [(.tmp 11), (.tmp 12)]) (vs := [(.pointer (some ⟨b, 0, none⟩)), (sl (some ⟨b19, 0, none⟩, 6, 6))]) (args := [(.pointer (some ⟨b, 0, none⟩)), (sl (some ⟨b19, 0, none⟩, 6, 6))]) Tryd.call50 Opd.f (.cons (Opd.t rfl) (.cons (Opd.t rfl) .nil)) rfl rfl (expr_read_is_ok (hs.re 11 [3, 0, 4, 5, 9, 10, 0, 1, 2, 4, 5, 6, 7, 8, 9, 10] rfl) hr22) ?_
  rintro _ w23 ⟨rfl, hs⟩
  replace hs := Sat.n13 (Γ := Φ) hs rfl
  refine WL_op (Run_move (Opd.t rfl)) rfl rfl rfl rfl <| WL_op (Run_extract (vs := [(.int .i64 r21.1), (.bool r21.2)]) (Opd.t rfl) rfl) rfl rfl rfl rfl <| WL_op (Run_extract (vs := [(.int .i64 r21.1), (.bool r21.2)]) (Opd.t rfl) rfl) rfl rfl rfl rfl <| WL_op (Run_assign (Opd.t rfl)) rfl rfl rfl rfl <| WL_op (Run_assign (Opd.t rfl)) rfl rfl rfl rfl <| ?_
  refine WL_nil ?_
  refine At_then ?_
  refine WC_seq ?_
  refine WC_seq ?_
  refine WC_region ?_
  refine WL_op (Run_move (Opd.t rfl)) rfl rfl rfl rfl <| WL_op (Run_nilP (Opd.t rfl)) rfl rfl rfl rfl <| WL_op (Run_fieldAddr fo71_4 (Opd.t rfl)) rfl rfl rfl rfl <| WL_op (Run_load1 (v := (.int .i64 r11.2.2.2.1)) Tryd.underlying34 rfl (Opd.t rfl) (fun _ => (hs.box (i := 0) rfl).part 4 rfl)) rfl rfl rfl rfl <| ?_
  obtain ⟨b24, e25, hm⟩ := letv_some hm
  refine WL_op (Run.eqB (Run_neI (Opd.t rfl) Opd.c) e25) rfl rfl rfl rfl <| WL_op (Run_move (Opd.t rfl)) rfl rfl rfl rfl <| WL_opG rfl rfl rfl rfl guard_neg (Run_move (Opd.t rfl)) rfl rfl rfl <| ?_
  obtain ⟨b26, e27, hm⟩ := letv_some hm
  refine WL_opG rfl rfl rfl rfl guard_neg (Run.eqB (Run_notB (Opd.g rfl id)) e27) rfl rfl rfl <| ?_
  obtain ⟨b28, e29, hm⟩ := letv_some hm
  refine WL_op (Run.eqB (Run_or (Opd.t rfl) (Opd.g rfl id)) e29) rfl rfl rfl rfl <| ?_
  refine WL_nil ?_
  refine At_then ?_
  refine WC_cond (Opd.t rfl) (fun hc30 => ?_) (fun hc30 => ?_)
  ·
    replace hm := bif_t hc30 hm
    refine WC_seq ?_
    refine WC_region ?_
    refine WL_op (Run_loadA (vs := [(.int .i64 r11.1.op), (.int .i64 r11.1.n), (.int .i64 r11.1.at_), (sl v13)]) Tryd.underlying24 rfl ti24 (Opd.t rfl) (fun _ => (hs.box (i := 4) rfl).part 0 rfl) rfl) rfl rfl rfl rfl <| ?_
    refine WS_store (us := [(.int .i64 r11.1.op), (.int .i64 r11.1.n), (.int .i64 r11.1.at_), (sl v13)]) (vs' := [(.int .i64 r11.1.op), (.int .i64 r11.1.n), (.int .i64 r11.1.at_), (sl v13)]) hs 8 rfl ti24 (Opd.t rfl) (Opd.t rfl) rfl rfl rfl rfl rfl ?_
    intro w31 hs
    replace hs := Sat.n13 (Γ := Φ) hs rfl
    refine WL_nil ?_
    refine At_then ?_
    refine WC_ret ?_
    refine At_then_ret <| ?_
    refine At_r1 rfl (ResIs.cA (vs := [(.int .i64 r11.1.op), (.int .i64 r11.1.n), (.int .i64 r11.1.at_), (sl v13)]) rfl Tryd.underlying24 rfl ti24 ((hs.box (i := 8) rfl).part 0 rfl) rfl) ?_
    cases hm
    exact ⟨v13, R14, rfl, (hs.re 13 [5, 0, 1, 2] rfl)⟩
  ·
    replace hm := bif_f hc30 hm
    refine WC_skip ?_
    refine At_then ?_
    refine WC_seq ?_
    refine WC_region ?_
    refine WL_op (Run_move (Opd.t rfl)) rfl rfl rfl rfl <| ?_
    obtain ⟨r32, hr33, hm⟩ := bind_some' hm
    refine WL_call (f := 51) (first := []) (cap := []) (xs := [(.tmp 26)]) (vs := [(.pointer (some ⟨b, 0, none⟩))]) (args := [(.pointer (some ⟨b, 0, none⟩))]) Tryd.call51 Opd.f (.cons (Opd.t rfl) .nil) rfl rfl (expr_read_next_ok (hs.re 13 [0, 1, 2, 1, 2, 3, 4, 5, 6, 7, 8, 9, 10, 11, 12] rfl) hr33) ?_
    rintro _ w34 ⟨rfl, hs⟩
    replace hs := Sat.n15 (Γ := Φ) hs rfl
    refine WS_alloc (zs := [(.int .i64 0), (S []), (.int .i64 0), (.int .i64 0)]) hs ti60 rfl rfl ?_
    intro b35 w36 hs
    replace hs := Sat.n16 (Γ := Φ) hs rfl
    refine WS_store (us := [(.int .i64 r32.1), (S r32.2.1), (.int .i64 r32.2.2.1), (.int .i64 r32.2.2.2)]) (vs' := [(.int .i64 r32.1), (S r32.2.1), (.int .i64 r32.2.2.1), (.int .i64 r32.2.2.2)]) hs 0 rfl ti60 (Opd.t rfl) (Opd.t rfl) rfl rfl rfl rfl rfl ?_
    intro w37 hs
    replace hs := Sat.n16 (Γ := Φ) hs rfl
    refine WL_nil ?_
    refine At_then ?_
    refine WC_seq ?_
    refine WC_region ?_
    refine WL_op (Run_move (Opd.t rfl)) rfl rfl rfl rfl <| WL_op (Run_nilP (Opd.t rfl)) rfl rfl rfl rfl <| WL_op (Run_fieldAddr fo71_1 (Opd.t rfl)) rfl rfl rfl rfl <| WL_op (Run_load1 (v := (.int .i64 r11.2.1)) Tryd.underlying3 rfl (Opd.t rfl) (fun _ => (hs.box (i := 1) rfl).part 1 rfl)) rfl rfl rfl rfl <| WL_op (Run_add (Opd.t rfl) Opd.c) rfl rfl rfl rfl <| WL_op (Run_nilP (Opd.t rfl)) rfl rfl rfl rfl <| WL_op (Run_fieldAddr fo71_1 (Opd.t rfl)) rfl rfl rfl rfl <| ?_
    refine WS_store (us := [(.int .i64 (IntKind.i64.wrap (r11.2.1 + 1)))]) (vs' := [(sl v2), (.int .i64 (IntKind.i64.wrap (r11.2.1 + 1))), (sl v4), (.int .i64 r11.2.2.1), (.int .i64 r11.2.2.2.1), (.int .i64 r11.2.2.2.2)]) hs 1 rfl ti3 (Opd.t rfl) (Opd.t rfl) rfl rfl rfl rfl rfl ?_
    intro w38 hs
    replace hs := Sat.n16 (Γ := Φ) hs rfl
    refine WL_nil ?_
    refine At_then ?_
    refine WC_seq ?_
    refine WC_region ?_
    refine WL_op (Run_move (Opd.t rfl)) rfl rfl rfl rfl <| ?_
    obtain ⟨r39, hr40, hm⟩ := bind_some' hm
    refine WL_call (f := 73) (first := []) (cap := []) (xs := [(.tmp 35)]) (vs := [(.pointer (some ⟨b, 0, none⟩))]) (args := [(.pointer (some ⟨b, 0, none⟩))]) Tryd.call73 Opd.f (.cons (Opd.t rfl) .nil) rfl rfl (expr_read_sum_ok (@ih_expr_read_lower) (hs.re 16 [1, 2, 3, 14, 15, 0, 2, 3, 4, 5, 6, 7, 8, 9, 10, 11, 12, 13, 14, 15] rfl) hr40) ?_
    rintro _ w43 ⟨v41, R42, rfl, hs⟩
    replace hs := Sat.n19 (Γ := Φ) hs rfl
    refine WS_alloc (zs := [(.int .i64 0), (.int .i64 0), (.int .i64 0), (sl (none, 0, 0))]) hs ti24 rfl rfl ?_
    intro b44 w45 hs
    replace hs := Sat.n20 (Γ := Φ) hs rfl
    refine WS_store (us := [(.int .i64 r39.1.op), (.int .i64 r39.1.n), (.int .i64 r39.1.at_), (sl v41)]) (vs' := [(.int .i64 r39.1.op), (.int .i64 r39.1.n), (.int .i64 r39.1.at_), (sl v41)]) hs 0 rfl ti24 (Opd.t rfl) (Opd.t rfl) rfl rfl rfl rfl rfl ?_
    intro w46 hs
    replace hs := Sat.n20 (Γ := Φ) hs rfl
    refine WL_nil ?_
    refine At_then ?_
    refine WC_seq ?_
    refine WC_region ?_
    refine WL_op (Run_move (Opd.t rfl)) rfl rfl rfl rfl <| WL_op (Run_fieldAddr fo60_3 (Opd.t rfl)) rfl rfl rfl rfl <| WL_op (Run_load1 (v := (.int .i64 r32.2.2.2)) Tryd.underlying3 rfl (Opd.t rfl) (fun _ => (hs.box (i := 5) rfl).part 3 rfl)) rfl rfl rfl rfl <| WL_op (Run_loadA (vs := [(.int .i64 r11.1.op), (.int .i64 r11.1.n), (.int .i64 r11.1.at_), (sl v13)]) Tryd.underlying24 rfl ti24 (Opd.t rfl) (fun _ => (hs.box (i := 11) rfl).part 0 rfl) rfl) rfl rfl rfl rfl <| WL_op (Run_loadA (vs := [(.int .i64 r39.1.op), (.int .i64 r39.1.n), (.int .i64 r39.1.at_), (sl v41)]) Tryd.underlying24 rfl ti24 (Opd.t rfl) (fun _ => (hs.box (i := 0) rfl).part 0 rfl) rfl) rfl rfl rfl rfl <| ?_
    replace hs := hs.freeze (i := 12) rfl
    replace hs := hs.freeze (i := 1) rfl
    refine WS_lit (A := RExpr) (xs := [r11.1, r39.1]) (zs := [(.int .i64 0), (.int .i64 0), (.int .i64 0), (sl (none, 0, 0))]) (cells := [(.int .i64 r11.1.op), (.int .i64 r11.1.n), (.int .i64 r11.1.at_), (sl v13), (.int .i64 r39.1.op), (.int .i64 r39.1.n), (.int .i64 r39.1.at_), (sl v41)]) (parts := [(0, (.tmp 40)), (1, (.tmp 41))]) hs Tryd.underlying22 ti24 rfl rfl rfl (.cons (Opd.t rfl) (.cons (Opd.t rfl) .nil)) (by kernel_rfl) rfl (ARd.cons (A := RExpr) (c := [(.int .i64 r11.1.op), (.int .i64 r11.1.n), (.int .i64 r11.1.at_), (sl v13)]) (x := r11.1) (RExpr_closeE (⟨_, rfl, (hs.sl (i := 12) rfl)⟩)) (ARd.cons (A := RExpr) (c := [(.int .i64 r39.1.op), (.int .i64 r39.1.n), (.int .i64 r39.1.at_), (sl v41)]) (x := r39.1) (RExpr_closeE (⟨_, rfl, (hs.sl (i := 1) rfl)⟩)) ARd.nil)) rfl ?_
    intro b47 w48 hs
    replace hs := hs.re 21 [0, 3, 4, 5, 16, 19, 20] rfl
    replace hs := Sat.n7 (Γ := Φ) hs rfl
    refine WL_op (Run_build (parts := [(0, (.tmp 37)), (2, (.tmp 39)), (3, (.tmp 42))]) (v := (.agg #[(.int .i64 r21.1), (.int .i64 0), (.int .i64 r32.2.2.2), (sl (some ⟨b47, 0, none⟩, 2, 2))])) (.cons (Opd.t rfl) (.cons (Opd.t rfl) (.cons (Opd.t rfl) .nil))) (fun _ => by kernel_rfl)) rfl rfl rfl rfl <| ?_
    refine WS_store (us := [(.int .i64 r21.1), (.int .i64 0), (.int .i64 r32.2.2.2), (sl (some ⟨b47, 0, none⟩, 2, 2))]) (vs' := [(.int .i64 r21.1), (.int .i64 0), (.int .i64 r32.2.2.2), (sl (some ⟨b47, 0, none⟩, 2, 2))]) hs 4 rfl ti24 (Opd.t rfl) (Opd.t rfl) rfl rfl rfl rfl rfl ?_
    intro w49 hs
    replace hs := Sat.n7 (Γ := Φ) hs rfl
    refine WL_nil ?_
    refine At_then ?_
    refine WC_ret ?_
    refine At_r1 rfl (ResIs.cA (vs := [(.int .i64 r21.1), (.int .i64 0), (.int .i64 r32.2.2.2), (sl (some ⟨b47, 0, none⟩, 2, 2))]) rfl Tryd.underlying24 rfl ti24 ((hs.box (i := 4) rfl).part 0 rfl) rfl) ?_
    cases hm
    exact ⟨(some ⟨b47, 0, none⟩, 2, 2), [b47], rfl, (hs.re 7 [0, 1, 2, 3] rfl)⟩

set_option maxRecDepth 100000 in
set_option maxHeartbeats 4000000 in
theorem expr_read_before_ok {k_expr_read_lower : ((List (Int × Str × Int × Int)) × Int × (List Str) × Int × Int × Int) → Option (Ex × Int × Int × Int × Int)} {k_expr_read_lower_s4 : ((List (Int × Str × Int × Int)) × Int × (List Str) × Int × Int × Int) → Option (Ex × Int × Int × Int × Int)} (ih_expr_read_lower : ∀ {Φ : Ctx} {w : World} {l : (List (Int × Str × Int × Int))} {at_ : Int} {names : (List Str)} {deep : Int} {bad : Int} {place : Int} {b : Nat} {v2 : SLV} {v4 : SLV} {r : (Ex × Int × Int × Int × Int)}, Sat (box b 71 [(sl v2), (.int .i64 at_), (sl v4), (.int .i64 deep), (.int .i64 bad), (.int .i64 place)] :: imm (RSl (RP (RI .i64) (RP RS (RP (RI .i64) (RI .i64))))) [sl v2] l :: imm (RSl RS) [sl v4] names :: gl 0 (keysL.map S) :: gl 1 (textsL.map S) :: Φ) w → k_expr_read_lower (l, at_, names, deep, bad, place) = some r → CallsR Tryd.prog 42 [(.pointer (some ⟨b, 0, none⟩)), (.func (.func 43) #[] #[])] w (fun v w' => ∃ v3 : SLV, ∃ R4 : List Nat, v = (.agg #[(.int .i64 r.1.op), (.int .i64 r.1.n), (.int .i64 r.1.at_), (sl v3)]) ∧ Sat (osl RExpr 24 (sl v3) r.1.l R4 :: box b 71 [(sl v2), (.int .i64 r.2.1), (sl v4), (.int .i64 r.2.2.1), (.int .i64 r.2.2.2.1), (.int .i64 r.2.2.2.2)] :: imm (RSl (RP (RI .i64) (RP RS (RP (RI .i64) (RI .i64))))) [sl v2] l :: imm (RSl RS) [sl v4] names :: Φ) w')) (ih_expr_read_lower_s4 : ∀ {Φ : Ctx} {w : World} {l : (List (Int × Str × Int × Int))} {at_ : Int} {names : (List Str)} {deep : Int} {bad : Int} {place : Int} {b : Nat} {v2 : SLV} {v4 : SLV} {r : (Ex × Int × Int × Int × Int)}, Sat (box b 71 [(sl v2), (.int .i64 at_), (sl v4), (.int .i64 deep), (.int .i64 bad), (.int .i64 place)] :: imm (RSl (RP (RI .i64) (RP RS (RP (RI .i64) (RI .i64))))) [sl v2] l :: imm (RSl RS) [sl v4] names :: gl 0 (keysL.map S) :: gl 1 (textsL.map S) :: Φ) w → k_expr_read_lower_s4 (l, at_, names, deep, bad, place) = some r → CallsR Tryd.prog 42 [(.pointer (some ⟨b, 0, none⟩)), (.func (.func 70) #[] #[])] w (fun v w' => ∃ v3 : SLV, ∃ R4 : List Nat, v = (.agg #[(.int .i64 r.1.op), (.int .i64 r.1.n), (.int .i64 r.1.at_), (sl v3)]) ∧ Sat (osl RExpr 24 (sl v3) r.1.l R4 :: box b 71 [(sl v2), (.int .i64 r.2.1), (sl v4), (.int .i64 r.2.2.1), (.int .i64 r.2.2.2.1), (.int .i64 r.2.2.2.2)] :: imm (RSl (RP (RI .i64) (RP RS (RP (RI .i64) (RI .i64))))) [sl v2] l :: imm (RSl RS) [sl v4] names :: Φ) w')) {Φ : Ctx} {w : World} {ops : (List Int)} {l : (List (Int × Str × Int × Int))} {at_ : Int} {names : (List Str)} {deep : Int} {bad : Int} {place : Int} {b : Nat} {v2 : SLV} {v4 : SLV} {v6 : SLV} {r : (Ex × Int × Int × Int × Int)} (hs : Sat (box b 71 [(sl v4), (.int .i64 at_), (sl v6), (.int .i64 deep), (.int .i64 bad), (.int .i64 place)] :: imm (RSl (RI .i64)) [sl v2] ops :: imm (RSl (RP (RI .i64) (RP RS (RP (RI .i64) (RI .i64))))) [sl v4] l :: imm (RSl RS) [sl v6] names :: gl 0 (keysL.map S) :: gl 1 (textsL.map S) :: Φ) w) (hm : expr_read_before k_expr_read_lower k_expr_read_lower_s4 ops l at_ names deep bad place = some r) :
    CallsR Tryd.prog 71 [(.pointer (some ⟨b, 0, none⟩)), (.func (.func 70) #[] #[]), (.func (.func 72) #[] #[]), (sl v2)] w (fun v w' => ∃ v3 : SLV, ∃ R4 : List Nat, v = (.agg #[(.int .i64 r.1.op), (.int .i64 r.1.n), (.int .i64 r.1.at_), (sl v3)]) ∧ Sat (osl RExpr 24 (sl v3) r.1.l R4 :: box b 71 [(sl v4), (.int .i64 r.2.1), (sl v6), (.int .i64 r.2.2.1), (.int .i64 r.2.2.2.1), (.int .i64 r.2.2.2.2)] :: imm (RSl (RP (RI .i64) (RP RS (RP (RI .i64) (RI .i64))))) [sl v4] l :: imm (RSl RS) [sl v6] names :: Φ) w') := by
  refine CallsX_enter Tryd.func71 rfl Tryd.ntmps71 rfl ?_
  unfold expr_read_before at hm
  refine WC_seq ?_
  refine WC_region ?_
  refine WS_alloc (zs := [(.int .i64 0), (.int .i64 0), (.int .i64 0), (sl (none, 0, 0))]) hs ti24 rfl rfl ?_
  intro b9 w10 hs
  replace hs := Sat.n7 (Γ := Φ) hs rfl
  refine WL_nil ?_
  refine At_then ?_
  refine WC_seq ?_
  refine WC_region ?_
  refine WL_op (Run_move (Opd.t rfl)) rfl rfl rfl rfl <| WL_op (Run_move (Opd.t rfl)) rfl rfl rfl rfl <| ?_
  obtain ⟨r11, hr12, hm⟩ := bind_some' hm
  refine WL_call (f := 50) (first := []) (cap := []) (xs := [(.tmp 13), (.tmp 14)]) (vs := [(.pointer (some ⟨b, 0, none⟩)), (sl v2)]) (args := [(.pointer (some ⟨b, 0, none⟩)), (sl v2)]) Tryd.call50 Opd.f (.cons (Opd.t rfl) (.cons (Opd.t rfl) .nil)) rfl rfl (expr_read_is_ok (hs.re 7 [1, 2, 3, 4, 5, 6, 0, 2, 3, 4, 5, 6] rfl) hr12) ?_
  rintro _ w13 ⟨rfl, hs⟩
  replace hs := Sat.n9 (Γ := Φ) hs rfl
  refine WL_op (Run_move (Opd.t rfl)) rfl rfl rfl rfl <| WL_op (Run_extract (vs := [(.int .i64 r11.1), (.bool r11.2)]) (Opd.t rfl) rfl) rfl rfl rfl rfl <| WL_op (Run_extract (vs := [(.int .i64 r11.1), (.bool r11.2)]) (Opd.t rfl) rfl) rfl rfl rfl rfl <| WL_op (Run_assign (Opd.t rfl)) rfl rfl rfl rfl <| WL_op (Run_assign (Opd.t rfl)) rfl rfl rfl rfl <| ?_
  refine WL_nil ?_
  refine At_then ?_
  refine WC_seq ?_
  refine WC_seq ?_
  refine WC_region ?_
  refine WL_op (Run_move (Opd.t rfl)) rfl rfl rfl rfl <| WL_op (Run_notB (Opd.t rfl)) rfl rfl rfl rfl <| ?_
  refine WL_nil ?_
  refine At_then ?_
  refine WC_cond (Opd.t rfl) (fun hc14 => ?_) (fun hc14 => ?_)
  ·
    replace hm := bif_t hc14 hm
    refine WC_seq ?_
    refine WC_region ?_
    refine WL_op (Run_move (Opd.t rfl)) rfl rfl rfl rfl <| WL_op (Run_move (Opd.t rfl)) rfl rfl rfl rfl <| ?_
    obtain ⟨r15, hr16, hm⟩ := bind_some' hm
    refine WL_call (f := 72) (first := []) (cap := []) (xs := [(.tmp 21)]) (vs := [(.pointer (some ⟨b, 0, none⟩))]) (args := [(.pointer (some ⟨b, 0, none⟩))]) Tryd.call72 (Opd.t rfl) (.cons (Opd.t rfl) .nil) rfl rfl (expr_read_cmp_ok (@ih_expr_read_lower) (hs.re 9 [0, 1, 2, 7, 8, 1, 2, 3, 4, 5, 6, 7, 8] rfl) hr16) ?_
    rintro _ w19 ⟨v17, R18, rfl, hs⟩
    replace hs := Sat.n12 (Γ := Φ) hs rfl
    refine WS_store (us := [(.int .i64 r15.1.op), (.int .i64 r15.1.n), (.int .i64 r15.1.at_), (sl v17)]) (vs' := [(.int .i64 r15.1.op), (.int .i64 r15.1.n), (.int .i64 r15.1.at_), (sl v17)]) hs 6 rfl ti24 (Opd.t rfl) (Opd.t rfl) rfl rfl rfl rfl rfl ?_
    intro w20 hs
    replace hs := Sat.n12 (Γ := Φ) hs rfl
    refine WL_nil ?_
    refine At_then ?_
    refine WC_ret ?_
    refine At_then_ret <| ?_
    refine At_r1 rfl (ResIs.cA (vs := [(.int .i64 r15.1.op), (.int .i64 r15.1.n), (.int .i64 r15.1.at_), (sl v17)]) rfl Tryd.underlying24 rfl ti24 ((hs.box (i := 6) rfl).part 0 rfl) rfl) ?_
    cases hm
    exact ⟨v17, R18, rfl, (hs.re 12 [0, 1, 2, 3] rfl)⟩
  ·
    replace hm := bif_f hc14 hm
    refine WC_skip ?_
    refine At_then ?_
    refine WC_seq ?_
    refine WC_region ?_
    refine WL_op (Run_move (Opd.t rfl)) rfl rfl rfl rfl <| ?_
    obtain ⟨r21, hr22, hm⟩ := bind_some' hm
    refine WL_call (f := 51) (first := []) (cap := []) (xs := [(.tmp 23)]) (vs := [(.pointer (some ⟨b, 0, none⟩))]) (args := [(.pointer (some ⟨b, 0, none⟩))]) Tryd.call51 Opd.f (.cons (Opd.t rfl) .nil) rfl rfl (expr_read_next_ok (hs.re 9 [0, 1, 2, 1, 2, 3, 4, 5, 6, 7, 8] rfl) hr22) ?_
    rintro _ w23 ⟨rfl, hs⟩
    replace hs := Sat.n11 (Γ := Φ) hs rfl
    refine WS_alloc (zs := [(.int .i64 0), (S []), (.int .i64 0), (.int .i64 0)]) hs ti60 rfl rfl ?_
    intro b24 w25 hs
    replace hs := Sat.n12 (Γ := Φ) hs rfl
    refine WS_store (us := [(.int .i64 r21.1), (S r21.2.1), (.int .i64 r21.2.2.1), (.int .i64 r21.2.2.2)]) (vs' := [(.int .i64 r21.1), (S r21.2.1), (.int .i64 r21.2.2.1), (.int .i64 r21.2.2.2)]) hs 0 rfl ti60 (Opd.t rfl) (Opd.t rfl) rfl rfl rfl rfl rfl ?_
    intro w26 hs
    replace hs := Sat.n12 (Γ := Φ) hs rfl
    refine WL_nil ?_
    refine At_then ?_
    refine WC_seq ?_
    refine WC_region ?_
    refine WL_op (Run_move (Opd.t rfl)) rfl rfl rfl rfl <| WL_op (Run_nilP (Opd.t rfl)) rfl rfl rfl rfl <| WL_op (Run_fieldAddr fo71_1 (Opd.t rfl)) rfl rfl rfl rfl <| WL_op (Run_load1 (v := (.int .i64 at_)) Tryd.underlying3 rfl (Opd.t rfl) (fun _ => (hs.box (i := 1) rfl).part 1 rfl)) rfl rfl rfl rfl <| WL_op (Run_add (Opd.t rfl) Opd.c) rfl rfl rfl rfl <| WL_op (Run_nilP (Opd.t rfl)) rfl rfl rfl rfl <| WL_op (Run_fieldAddr fo71_1 (Opd.t rfl)) rfl rfl rfl rfl <| ?_
    refine WS_store (us := [(.int .i64 (IntKind.i64.wrap (at_ + 1)))]) (vs' := [(sl v4), (.int .i64 (IntKind.i64.wrap (at_ + 1))), (sl v6), (.int .i64 deep), (.int .i64 bad), (.int .i64 place)]) hs 1 rfl ti3 (Opd.t rfl) (Opd.t rfl) rfl rfl rfl rfl rfl ?_
    intro w27 hs
    replace hs := Sat.n12 (Γ := Φ) hs rfl
    refine WL_nil ?_
    refine At_then ?_
    refine WC_seq ?_
    refine WC_region_mixed [0, 0, 2, 0, 0, 24, 32, 69, 255] (.q 0 0 (.q 1 1 (.q 2 3 (.q 3 7 (.q 4 15 (.l 5 31 (.l 6 63 (.q 7 127 (.l 8 255 .nil))))))))) (by kernel_rfl) (by kernel_rfl) ?_
    intro w28 hx29
    replace hs := hs.ext hx29
    refine WD_pure (fun _ => (Run_move (Opd.t rfl))) rfl rfl rfl rfl <| WD_pure (fun _ => (Run_fieldAddr fo60_3 (Opd.t rfl))) rfl rfl rfl rfl <| WD_op (fun w => CellsAt w ⟨b24, 3, none⟩ [(.int .i64 r21.2.2.2)]) ((hs.box (i := 0) rfl).part 3 rfl) (fun _ hJ => (Run_load1 (v := (.int .i64 r21.2.2.2)) Tryd.underlying3 rfl (Opd.t rfl) (fun _ => hJ))) rfl rfl rfl rfl <| WD_pure (fun _ => (Run_move (Opd.t rfl))) rfl rfl rfl rfl <| WD_pure (fun _ => (Run_move (Opd.t rfl))) rfl rfl rfl rfl <| ?_
    refine WD_loud (pend' := [(2, fun w => CellsAt w ⟨b24, 3, none⟩ [(.int .i64 r21.2.2.2)])]) rfl (by kernel_rfl) ?_
    obtain ⟨r30, hr31, hm⟩ := bind_some' hm
    refine WL_call (f := 42) (first := []) (cap := []) (xs := [(.tmp 35), (.tmp 36)]) (vs := [(.pointer (some ⟨b, 0, none⟩)), (.func (.func 70) #[] #[])]) (args := [(.pointer (some ⟨b, 0, none⟩)), (.func (.func 70) #[] #[])]) Tryd.call42 Opd.f (.cons (Opd.t rfl) (.cons (Opd.t rfl) .nil)) rfl rfl (ih_expr_read_lower_s4 (hs.re 12 [1, 2, 3, 10, 11, 0, 2, 3, 4, 5, 6, 7, 8, 9, 10, 11] rfl) hr31) ?_
    rintro _ w34 ⟨v32, R33, rfl, hs⟩
    replace hs := Sat.n15 (Γ := Φ) hs rfl
    refine WL_nil ?_
    refine At_QK (allJ_cons ((hs.box (i := 4) rfl).part 3 rfl) allJ_nil) ?_
    refine WD_loud (pend' := [(2, fun w => CellsAt w ⟨b24, 3, none⟩ [(.int .i64 r21.2.2.2)])]) rfl (by kernel_rfl) ?_
    replace hs := hs.freeze (i := 0) rfl
    refine WS_lit (A := RExpr) (xs := [r30.1]) (zs := [(.int .i64 0), (.int .i64 0), (.int .i64 0), (sl (none, 0, 0))]) (cells := [(.int .i64 r30.1.op), (.int .i64 r30.1.n), (.int .i64 r30.1.at_), (sl v32)]) (parts := [(0, (.tmp 37))]) hs Tryd.underlying22 ti24 rfl rfl rfl (.cons (Opd.t rfl) .nil) (by kernel_rfl) rfl (ARd.cons (A := RExpr) (c := [(.int .i64 r30.1.op), (.int .i64 r30.1.n), (.int .i64 r30.1.at_), (sl v32)]) (x := r30.1) (RExpr_closeE (⟨_, rfl, (hs.sl (i := 0) rfl)⟩)) ARd.nil) rfl ?_
    intro b35 w36 hs
    replace hs := Sat.n16 (Γ := Φ) hs rfl
    refine WL_nil ?_
    refine At_QK (allJ_cons ((hs.box (i := 5) rfl).part 3 rfl) allJ_nil) ?_
    refine WD_pure (fun _ => (Run_build (parts := [(0, (.tmp 32)), (2, (.tmp 34)), (3, (.tmp 38))]) (v := (.agg #[(.int .i64 r11.1), (.int .i64 0), (.int .i64 r21.2.2.2), (sl (some ⟨b35, 0, none⟩, 1, 1))])) (.cons (Opd.t rfl) (.cons (Opd.t rfl) (.cons (Opd.t rfl) .nil))) (fun _ => by kernel_rfl))) rfl rfl rfl rfl <| ?_
    refine WD_loud (pend' := []) rfl (by kernel_rfl) ?_
    refine WS_store (us := [(.int .i64 r11.1), (.int .i64 0), (.int .i64 r21.2.2.2), (sl (some ⟨b35, 0, none⟩, 1, 1))]) (vs' := [(.int .i64 r11.1), (.int .i64 0), (.int .i64 r21.2.2.2), (sl (some ⟨b35, 0, none⟩, 1, 1))]) hs 10 rfl ti24 (Opd.t rfl) (Opd.t rfl) rfl rfl rfl rfl rfl ?_
    intro w37 hs
    replace hs := Sat.n16 (Γ := Φ) hs rfl
    refine WL_nil ?_
    refine At_QK allJ_nil ?_
    refine WD_nil ?_
    refine At_then ?_
    refine WC_ret ?_
    refine At_r1 rfl (ResIs.cA (vs := [(.int .i64 r11.1), (.int .i64 0), (.int .i64 r21.2.2.2), (sl (some ⟨b35, 0, none⟩, 1, 1))]) rfl Tryd.underlying24 rfl ti24 ((hs.box (i := 10) rfl).part 0 rfl) rfl) ?_
    cases hm
    exact ⟨(some ⟨b35, 0, none⟩, 1, 1), [b35], rfl, (hs.re 16 [0, 2, 3, 4] rfl)⟩

end Go.Proofs.YtmeombbmhpcacaaDoor
