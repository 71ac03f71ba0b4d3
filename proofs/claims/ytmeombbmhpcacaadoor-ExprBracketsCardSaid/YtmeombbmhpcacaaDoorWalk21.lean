/- Printed by a program: the walks. -/
import Derived.Test.YtmeombbmhpcacaaDoorTypes
import Derived.Test.YtmeombbmhpcacaaDoorWalk1
import Derived.Test.YtmeombbmhpcacaaDoorWalk8
import Derived.Test.YtmeombbmhpcacaaDoorWalk11
import Derived.Test.YtmeombbmhpcacaaDoorWalk12
namespace Go.Proofs.YtmeombbmhpcacaaDoor
open Go.Proofs

set_option maxRecDepth 100000 in
set_option maxHeartbeats 4000000 in
theorem scrutinylaw13_ExprBrackets_ok {Φ : Ctx} {w : World} {a : Str} {b : Str} {k : Int} {r : Bool} (hs : Sat (gl 0 (keysL.map S) :: gl 1 (textsL.map S) :: gl 2 (pow10L.map (Value.int .u64)) :: Φ) w) (hm : scrutinylaw13_ExprBrackets a b k = some r) :
    CallsR Tryd.prog 7 [(S a), (S b), (.int .u8 k)] w (fun v w' => v = (.bool r) ∧ Sat (Φ) w') := by
  refine CallsX_enter Tryd.func7 rfl Tryd.ntmps7 rfl ?_
  unfold scrutinylaw13_ExprBrackets at hm
  refine WC_seq ?_
  refine WC_region ?_
  refine WL_op (Run_assign Opd.c) rfl rfl rfl rfl <| ?_
  refine WL_nil ?_
  refine At_then ?_
  refine WC_seq ?_
  refine WC_region ?_
  obtain ⟨r3, hr4, hm⟩ := bind_some' hm
  refine WL_call (f := 10) (first := []) (cap := []) (xs := []) (vs := []) (args := []) Tryd.call10 Opd.f .nil rfl rfl (scrutinylaw13_shown_ok (hs.re 3 [0, 1, 2, 0, 1, 2] rfl) hr4) ?_
  rintro _ w5 ⟨rfl, hs⟩
  replace hs := Sat.n3 (Γ := Φ) hs rfl
  refine WL_op (Run_assign (Opd.t rfl)) rfl rfl rfl rfl <| ?_
  refine WL_nil ?_
  refine At_then ?_
  refine WC_seq ?_
  refine WC_seq ?_
  refine WC_region ?_
  refine WL_op (Run_move (Opd.t rfl)) rfl rfl rfl rfl <| WL_op (Run_lenS Tryd.underlying9 (Opd.t rfl)) rfl rfl rfl rfl <| ?_
  obtain ⟨b6, e7, hm⟩ := letv_some hm
  refine WL_op (Run.eqB (Run_gtI (Opd.t rfl) Opd.c) e7) rfl rfl rfl rfl <| WL_op (Run_move (Opd.t rfl)) rfl rfl rfl rfl <| WL_opG rfl rfl rfl rfl guard_neg (Run_move (Opd.t rfl)) rfl rfl rfl <| WL_opG rfl rfl rfl rfl guard_neg (Run_lenS Tryd.underlying9 (Opd.g rfl id)) rfl rfl rfl <| ?_
  obtain ⟨b8, e9, hm⟩ := letv_some hm
  refine WL_opG rfl rfl rfl rfl guard_neg (Run.eqB (Run_gtI (Opd.g rfl id) Opd.c) e9) rfl rfl rfl <| ?_
  obtain ⟨b10, e11, hm⟩ := letv_some hm
  refine WL_op (Run.eqB (Run_or (Opd.t rfl) (Opd.g rfl id)) e11) rfl rfl rfl rfl <| ?_
  refine WL_nil ?_
  refine At_then ?_
  refine WC_cond (Opd.t rfl) (fun hc12 => ?_) (fun hc12 => ?_)
  ·
    replace hm := bif_t hc12 hm
    refine WC_seq ?_
    refine WC_region ?_
    refine WL_op (Run_move (Opd.t rfl)) rfl rfl rfl rfl <| WL_op (Run_assign (Opd.t rfl)) rfl rfl rfl rfl <| ?_
    refine WL_nil ?_
    refine At_then ?_
    refine WC_ret ?_
    refine At_then_ret <| ?_
    refine At_r1 rfl (ResIs.t rfl) ?_
    cases hm
    exact ⟨rfl, (hs.re 3 [] rfl)⟩
  ·
    replace hm := bif_f hc12 hm
    refine WC_skip ?_
    refine At_then ?_
    refine WC_seq ?_
    refine WC_seq ?_
    refine WC_region ?_
    refine WL_op (Run_assign Opd.c) rfl rfl rfl rfl <| ?_
    refine WL_nil ?_
    refine At_then ?_
    refine WC_block ?_
    refine WC_loop (σ := Int) (γ := Unit) (F := (scrutinylaw13_ExprBrackets_L1 a b k r3)) (N := FUEL) (s0 := 0) (r := r) (fun i14 (_ : Unit) w13 => Sat (gl 0 (keysL.map S) :: gl 1 (textsL.map S) :: gl 2 (pow10L.map (Value.int .u64)) :: Φ) w13) (fun i14 (_ : Unit) => [(0, true, (S a)), (1, true, (S b)), (2, true, (.int .u8 k)), (7, true, (.bool r3)), (8, true, (.int .i64 i14))]) hm () (hs.re 3 [0, 1, 2] rfl) rfl ?_
    rintro again15 i14 _ w13 hm hs
    unfold scrutinylaw13_ExprBrackets_L1 at hm
    refine WC_seq ?_
    refine WC_seq ?_
    refine WC_region ?_
    refine WL_op (Run_move (Opd.t rfl)) rfl rfl rfl rfl <| WL_op (Run_move (Opd.t rfl)) rfl rfl rfl rfl <| WL_op (Run_lenS Tryd.underlying9 (Opd.t rfl)) rfl rfl rfl rfl <| WL_op (Run_move (Opd.t rfl)) rfl rfl rfl rfl <| WL_op (Run_lenS Tryd.underlying9 (Opd.t rfl)) rfl rfl rfl rfl <| WL_op (Run_add (Opd.t rfl) (Opd.t rfl)) rfl rfl rfl rfl <| WL_op (Run_ltI (Opd.t rfl) (Opd.t rfl)) rfl rfl rfl rfl <| ?_
    refine WL_nil ?_
    refine At_then ?_
    refine WC_cond (Opd.t rfl) (fun hc16 => ?_) (fun hc16 => ?_)
    ·
      replace hm := bif_t hc16 hm
      refine WC_skip ?_
      refine At_then ?_
      refine WC_seq ?_
      refine WC_block ?_
      refine WC_seq ?_
      refine WC_region ?_
      refine WL_op (Run_move (Opd.t rfl)) rfl rfl rfl rfl <| WL_op (Run_move (Opd.t rfl)) rfl rfl rfl rfl <| ?_
      obtain ⟨k17, hm⟩ := chk_some hm
      refine WL_op (Run_cat (Opd.t rfl) (Opd.t rfl) (fun _ => k17)) rfl rfl rfl rfl <| WL_op (Run_assign (Opd.t rfl)) rfl rfl rfl rfl <| ?_
      refine WL_nil ?_
      refine At_then ?_
      refine WC_seq ?_
      refine WC_region ?_
      refine WL_op (Run_move (Opd.t rfl)) rfl rfl rfl rfl <| WL_op (Run_move (Opd.t rfl)) rfl rfl rfl rfl <| ?_
      obtain ⟨k18, hm⟩ := chk_some hm
      refine WL_op (Run_idxS Tryd.underlying9 (Opd.t rfl) (Opd.t rfl) (fun _ => k18)) rfl rfl rfl rfl <| WL_op (Run_eqI (Opd.t rfl) Opd.c) rfl rfl rfl rfl <| ?_
      refine WL_nil ?_
      refine At_then ?_
      refine WC_cond (Opd.t rfl) (fun hc19 => ?_) (fun hc19 => ?_)
      ·
        replace hm := bif_t hc19 hm
        refine WC_seq ?_
        refine WC_region ?_
        refine WL_op (Run_move (Opd.t rfl)) rfl rfl rfl rfl <| WL_op (Run_assign (Opd.t rfl)) rfl rfl rfl rfl <| ?_
        refine WL_nil ?_
        refine At_then ?_
        refine WC_ret ?_
        refine At_blk_ret <| At_then_ret <| At_then_ret <| At_blk_ret <| At_then_ret <| ?_
        refine At_r1 rfl (ResIs.t rfl) ?_
        cases hm
        exact ⟨rfl, (hs.re 3 [] rfl)⟩
      ·
        replace hm := bif_f hc19 hm
        refine WC_skip ?_
        refine At_blk_normal ?_
        refine At_then ?_
        refine WC_region ?_
        refine WL_op (Run_move (Opd.t rfl)) rfl rfl rfl rfl <| WL_op (Run_add (Opd.t rfl) Opd.c) rfl rfl rfl rfl <| WL_op (Run_assign (Opd.t rfl)) rfl rfl rfl rfl <| ?_
        refine WL_nil ?_
        exact At_again (IntKind.i64.wrap (i14 + 1)) () hm (hs.re 3 [0, 1, 2] rfl) rfl
    ·
      replace hm := bif_f hc16 hm
      refine WC_exit ?_
      refine At_then_exit <| At_then_exit <| At_blk_here <| ?_
      refine At_then ?_
      refine WC_seq ?_
      refine WC_region ?_
      refine WL_op (Run_move (Opd.t rfl)) rfl rfl rfl rfl <| ?_
      obtain ⟨r20, hr21, hm⟩ := bind_some' hm
      refine WL_call (f := 31) (first := []) (cap := []) (xs := [(.tmp 63)]) (vs := [(S a)]) (args := [(S a)]) Tryd.call31 Opd.f (.cons (Opd.t rfl) .nil) rfl rfl (scrutinylaw13_parsed_ok (hs.re 3 [0, 1, 0, 1, 2] rfl) hr21) ?_
      rintro _ w24 ⟨v22, R23, rfl, hs⟩
      replace hs := Sat.n4 (Γ := Φ) hs rfl
      refine WL_op (Run_move (Opd.t rfl)) rfl rfl rfl rfl <| WL_op (Run_extract (vs := [(.agg #[(.int .i64 r20.1.op), (.int .i64 r20.1.n), (.int .i64 r20.1.at_), (sl v22)]), (.int .i64 r20.2.1), (.int .i64 r20.2.2.1), (.int .i64 r20.2.2.2)]) (Opd.t rfl) rfl) rfl rfl rfl rfl <| WL_op (Run_extract (vs := [(.agg #[(.int .i64 r20.1.op), (.int .i64 r20.1.n), (.int .i64 r20.1.at_), (sl v22)]), (.int .i64 r20.2.1), (.int .i64 r20.2.2.1), (.int .i64 r20.2.2.2)]) (Opd.t rfl) rfl) rfl rfl rfl rfl <| WL_op (Run_extract (vs := [(.agg #[(.int .i64 r20.1.op), (.int .i64 r20.1.n), (.int .i64 r20.1.at_), (sl v22)]), (.int .i64 r20.2.1), (.int .i64 r20.2.2.1), (.int .i64 r20.2.2.2)]) (Opd.t rfl) rfl) rfl rfl rfl rfl <| WL_op (Run_extract (vs := [(.agg #[(.int .i64 r20.1.op), (.int .i64 r20.1.n), (.int .i64 r20.1.at_), (sl v22)]), (.int .i64 r20.2.1), (.int .i64 r20.2.2.1), (.int .i64 r20.2.2.2)]) (Opd.t rfl) rfl) rfl rfl rfl rfl <| ?_
      refine WS_alloc (zs := [(.int .i64 0), (.int .i64 0), (.int .i64 0), (sl (none, 0, 0))]) hs ti24 rfl rfl ?_
      intro b25 w26 hs
      replace hs := Sat.n5 (Γ := Φ) hs rfl
      refine WS_store (us := [(.int .i64 r20.1.op), (.int .i64 r20.1.n), (.int .i64 r20.1.at_), (sl v22)]) (vs' := [(.int .i64 r20.1.op), (.int .i64 r20.1.n), (.int .i64 r20.1.at_), (sl v22)]) hs 0 rfl ti24 (Opd.t rfl) (Opd.t rfl) rfl rfl rfl rfl rfl ?_
      intro w27 hs
      replace hs := Sat.n5 (Γ := Φ) hs rfl
      refine WL_op (Run_assign (Opd.t rfl)) rfl rfl rfl rfl <| WL_op (Run_assign (Opd.t rfl)) rfl rfl rfl rfl <| WL_op (Run_assign (Opd.t rfl)) rfl rfl rfl rfl <| ?_
      refine WL_nil ?_
      refine At_then ?_
      refine WC_seq ?_
      refine WC_region ?_
      refine WL_op (Run_move (Opd.t rfl)) rfl rfl rfl rfl <| ?_
      obtain ⟨r28, hr29, hm⟩ := bind_some' hm
      refine WL_call (f := 31) (first := []) (cap := []) (xs := [(.tmp 70)]) (vs := [(S b)]) (args := [(S b)]) Tryd.call31 Opd.f (.cons (Opd.t rfl) .nil) rfl rfl (scrutinylaw13_parsed_ok (hs.re 5 [2, 3, 0, 1, 2, 3, 4] rfl) hr29) ?_
      rintro _ w32 ⟨v30, R31, rfl, hs⟩
      replace hs := Sat.n6 (Γ := Φ) hs rfl
      refine WL_op (Run_move (Opd.t rfl)) rfl rfl rfl rfl <| WL_op (Run_extract (vs := [(.agg #[(.int .i64 r28.1.op), (.int .i64 r28.1.n), (.int .i64 r28.1.at_), (sl v30)]), (.int .i64 r28.2.1), (.int .i64 r28.2.2.1), (.int .i64 r28.2.2.2)]) (Opd.t rfl) rfl) rfl rfl rfl rfl <| WL_op (Run_extract (vs := [(.agg #[(.int .i64 r28.1.op), (.int .i64 r28.1.n), (.int .i64 r28.1.at_), (sl v30)]), (.int .i64 r28.2.1), (.int .i64 r28.2.2.1), (.int .i64 r28.2.2.2)]) (Opd.t rfl) rfl) rfl rfl rfl rfl <| WL_op (Run_extract (vs := [(.agg #[(.int .i64 r28.1.op), (.int .i64 r28.1.n), (.int .i64 r28.1.at_), (sl v30)]), (.int .i64 r28.2.1), (.int .i64 r28.2.2.1), (.int .i64 r28.2.2.2)]) (Opd.t rfl) rfl) rfl rfl rfl rfl <| WL_op (Run_extract (vs := [(.agg #[(.int .i64 r28.1.op), (.int .i64 r28.1.n), (.int .i64 r28.1.at_), (sl v30)]), (.int .i64 r28.2.1), (.int .i64 r28.2.2.1), (.int .i64 r28.2.2.2)]) (Opd.t rfl) rfl) rfl rfl rfl rfl <| ?_
      refine WS_alloc (zs := [(.int .i64 0), (.int .i64 0), (.int .i64 0), (sl (none, 0, 0))]) hs ti24 rfl rfl ?_
      intro b33 w34 hs
      replace hs := Sat.n7 (Γ := Φ) hs rfl
      refine WS_store (us := [(.int .i64 r28.1.op), (.int .i64 r28.1.n), (.int .i64 r28.1.at_), (sl v30)]) (vs' := [(.int .i64 r28.1.op), (.int .i64 r28.1.n), (.int .i64 r28.1.at_), (sl v30)]) hs 0 rfl ti24 (Opd.t rfl) (Opd.t rfl) rfl rfl rfl rfl rfl ?_
      intro w35 hs
      replace hs := Sat.n7 (Γ := Φ) hs rfl
      refine WL_op (Run_assign (Opd.t rfl)) rfl rfl rfl rfl <| WL_op (Run_assign (Opd.t rfl)) rfl rfl rfl rfl <| WL_op (Run_assign (Opd.t rfl)) rfl rfl rfl rfl <| ?_
      refine WL_nil ?_
      refine At_then ?_
      refine WC_seq ?_
      refine WC_region ?_
      refine WL_op (Run_move (Opd.t rfl)) rfl rfl rfl rfl <| ?_
      obtain ⟨r36, hr37, hm⟩ := bind_some' hm
      refine WL_call (f := 26) (first := []) (cap := []) (xs := [(.tmp 77)]) (vs := [(S a)]) (args := [(S a)]) Tryd.call26 Opd.f (.cons (Opd.t rfl) .nil) rfl rfl (scrutinyref12_Tokens_ok (hs.re 7 [0, 1, 2, 3, 4, 5, 6] rfl) hr37) ?_
      rintro _ w40 ⟨v38, R39, rfl, hs⟩
      replace hs := Sat.n8 (Γ := Φ) hs rfl
      refine WL_op (Run_move (Opd.t rfl)) rfl rfl rfl rfl <| WL_op (Run_extract (vs := [(sl v38), (.int .i64 r36.2.1), (.int .i64 r36.2.2)]) (Opd.t rfl) rfl) rfl rfl rfl rfl <| WL_op (Run_extract (vs := [(sl v38), (.int .i64 r36.2.1), (.int .i64 r36.2.2)]) (Opd.t rfl) rfl) rfl rfl rfl rfl <| WL_op (Run_extract (vs := [(sl v38), (.int .i64 r36.2.1), (.int .i64 r36.2.2)]) (Opd.t rfl) rfl) rfl rfl rfl rfl <| WL_op (Run_assign (Opd.t rfl)) rfl rfl rfl rfl <| WL_op (Run_assign (Opd.t rfl)) rfl rfl rfl rfl <| WL_op (Run_assign (Opd.t rfl)) rfl rfl rfl rfl <| ?_
      refine WL_nil ?_
      refine At_then ?_
      refine WC_seq ?_
      refine WC_region ?_
      refine WL_op (Run_move (Opd.t rfl)) rfl rfl rfl rfl <| ?_
      obtain ⟨r41, hr42, hm⟩ := bind_some' hm
      refine WL_call (f := 26) (first := []) (cap := []) (xs := [(.tmp 83)]) (vs := [(S b)]) (args := [(S b)]) Tryd.call26 Opd.f (.cons (Opd.t rfl) .nil) rfl rfl (scrutinyref12_Tokens_ok (hs.re 8 [0, 1, 2, 3, 4, 5, 6, 7] rfl) hr42) ?_
      rintro _ w45 ⟨v43, R44, rfl, hs⟩
      replace hs := Sat.n9 (Γ := Φ) hs rfl
      refine WL_op (Run_move (Opd.t rfl)) rfl rfl rfl rfl <| WL_op (Run_extract (vs := [(sl v43), (.int .i64 r41.2.1), (.int .i64 r41.2.2)]) (Opd.t rfl) rfl) rfl rfl rfl rfl <| WL_op (Run_extract (vs := [(sl v43), (.int .i64 r41.2.1), (.int .i64 r41.2.2)]) (Opd.t rfl) rfl) rfl rfl rfl rfl <| WL_op (Run_extract (vs := [(sl v43), (.int .i64 r41.2.1), (.int .i64 r41.2.2)]) (Opd.t rfl) rfl) rfl rfl rfl rfl <| WL_op (Run_assign (Opd.t rfl)) rfl rfl rfl rfl <| WL_op (Run_assign (Opd.t rfl)) rfl rfl rfl rfl <| WL_op (Run_assign (Opd.t rfl)) rfl rfl rfl rfl <| ?_
      refine WL_nil ?_
      refine At_then ?_
      refine WC_seq ?_
      refine WC_seq ?_
      refine WC_region ?_
      refine WL_op (Run_move (Opd.t rfl)) rfl rfl rfl rfl <| ?_
      obtain ⟨b46, e47, hm⟩ := letv_some hm
      refine WL_op (Run.eqB (Run_neI (Opd.t rfl) Opd.c) e47) rfl rfl rfl rfl <| WL_op (Run_move (Opd.t rfl)) rfl rfl rfl rfl <| WL_opG rfl rfl rfl rfl guard_neg (Run_move (Opd.t rfl)) rfl rfl rfl <| ?_
      obtain ⟨b48, e49, hm⟩ := letv_some hm
      refine WL_opG rfl rfl rfl rfl guard_neg (Run.eqB (Run_neI (Opd.g rfl id) Opd.c) e49) rfl rfl rfl <| ?_
      obtain ⟨b50, e51, hm⟩ := letv_some hm
      refine WL_op (Run.eqB (Run_or (Opd.t rfl) (Opd.g rfl id)) e51) rfl rfl rfl rfl <| WL_op (Run_move (Opd.t rfl)) rfl rfl rfl rfl <| WL_opG rfl rfl rfl rfl guard_neg (Run_move (Opd.t rfl)) rfl rfl rfl <| ?_
      obtain ⟨b52, e53, hm⟩ := letv_some hm
      refine WL_opG rfl rfl rfl rfl guard_neg (Run.eqB (Run_neI (Opd.g rfl id) Opd.c) e53) rfl rfl rfl <| ?_
      obtain ⟨b54, e55, hm⟩ := letv_some hm
      refine WL_op (Run.eqB (Run_or (Opd.t rfl) (Opd.g rfl id)) e55) rfl rfl rfl rfl <| WL_op (Run_move (Opd.t rfl)) rfl rfl rfl rfl <| WL_opG rfl rfl rfl rfl guard_neg (Run_move (Opd.t rfl)) rfl rfl rfl <| ?_
      obtain ⟨b56, e57, hm⟩ := letv_some hm
      refine WL_opG rfl rfl rfl rfl guard_neg (Run.eqB (Run_neI (Opd.g rfl id) Opd.c) e57) rfl rfl rfl <| ?_
      obtain ⟨b58, e59, hm⟩ := letv_some hm
      refine WL_op (Run.eqB (Run_or (Opd.t rfl) (Opd.g rfl id)) e59) rfl rfl rfl rfl <| WL_op (Run_move (Opd.t rfl)) rfl rfl rfl rfl <| WL_opG rfl rfl rfl rfl guard_neg (Run_move (Opd.t rfl)) rfl rfl rfl <| WL_opG rfl rfl rfl rfl guard_neg (Run_move (Opd.t rfl)) rfl rfl rfl <| WL_opG rfl rfl rfl rfl guard_neg (Run_lenSlG Tryd.underlying44 (Opd.g rfl id) (fun _ => (hs.own (i := 1) rfl).len)) rfl rfl rfl <| WL_opG rfl rfl rfl rfl guard_neg (Run_sub (Opd.g rfl id) Opd.c) rfl rfl rfl <| ?_
      obtain ⟨b60, e61, hm⟩ := letv_some hm
      refine WL_opG rfl rfl rfl rfl guard_neg (Run.eqB (Run_neI (Opd.g rfl id) (Opd.g rfl id)) e61) rfl rfl rfl <| ?_
      obtain ⟨b62, e63, hm⟩ := letv_some hm
      refine WL_op (Run.eqB (Run_or (Opd.t rfl) (Opd.g rfl id)) e63) rfl rfl rfl rfl <| WL_op (Run_move (Opd.t rfl)) rfl rfl rfl rfl <| WL_opG rfl rfl rfl rfl guard_neg (Run_move (Opd.t rfl)) rfl rfl rfl <| WL_opG rfl rfl rfl rfl guard_neg (Run_move (Opd.t rfl)) rfl rfl rfl <| WL_opG rfl rfl rfl rfl guard_neg (Run_lenSlG Tryd.underlying44 (Opd.g rfl id) (fun _ => (hs.own (i := 0) rfl).len)) rfl rfl rfl <| WL_opG rfl rfl rfl rfl guard_neg (Run_sub (Opd.g rfl id) Opd.c) rfl rfl rfl <| ?_
      obtain ⟨b64, e65, hm⟩ := letv_some hm
      refine WL_opG rfl rfl rfl rfl guard_neg (Run.eqB (Run_neI (Opd.g rfl id) (Opd.g rfl id)) e65) rfl rfl rfl <| ?_
      obtain ⟨b66, e67, hm⟩ := letv_some hm
      refine WL_op (Run.eqB (Run_or (Opd.t rfl) (Opd.g rfl id)) e67) rfl rfl rfl rfl <| WL_op (Run_move (Opd.t rfl)) rfl rfl rfl rfl <| WL_opG rfl rfl rfl rfl guard_neg (Run_loadA (vs := [(.int .i64 r20.1.op), (.int .i64 r20.1.n), (.int .i64 r20.1.at_), (sl v22)]) Tryd.underlying24 rfl ti24 (Opd.t rfl) (fun _ => (hs.box (i := 4) rfl).part 0 rfl) rfl) rfl rfl rfl <| ?_
      replace hs := hs.freeze (i := 5) rfl
      obtain ⟨r68, hr69, -, hm⟩ := callG_some hm
      refine WL_callG rfl rfl rfl guard_neg (f := 32) (first := []) (cap := []) (xs := [(.tmp 117), (.const (.int .i64 50))]) (vs := [(.agg #[(.int .i64 r20.1.op), (.int .i64 r20.1.n), (.int .i64 r20.1.at_), (sl v22)]), (.int .i64 50)]) (args := [(.agg #[(.int .i64 r20.1.op), (.int .i64 r20.1.n), (.int .i64 r20.1.at_), (sl v22)]), (.int .i64 50)]) Tryd.call32 Opd.f (.cons (Opd.g rfl id) (.cons Opd.c .nil)) rfl rfl (fun hg => scrutinyref13_Deep_ok (hs.re 9 [5, 0, 1, 2, 3, 4, 5, 6, 7, 8] rfl) (hr69 hg)) ?_
      intro v71 w70 hv72 hz73
      replace hs := Sat.ofG (fun hg => (hv72 hg).2.re 9 [0, 1, 2, 3, 4, 5, 6, 7, 8] rfl) hz73 hs
      refine WL_sub1 (v := (.int .i64 r68)) (fun hg => (hv72 hg).1) ?_
      replace hs := Sat.n9 (Γ := Φ) hs rfl
      obtain ⟨b74, e75, hm⟩ := letv_some hm
      refine WL_opG rfl rfl rfl rfl guard_neg (Run.eqB (Run_geI (Opd.g rfl id) Opd.c) e75) rfl rfl rfl <| ?_
      obtain ⟨b76, e77, hm⟩ := letv_some hm
      refine WL_op (Run.eqB (Run_or (Opd.t rfl) (Opd.g rfl id)) e77) rfl rfl rfl rfl <| WL_op (Run_move (Opd.t rfl)) rfl rfl rfl rfl <| WL_opG rfl rfl rfl rfl guard_neg (Run_loadA (vs := [(.int .i64 r28.1.op), (.int .i64 r28.1.n), (.int .i64 r28.1.at_), (sl v30)]) Tryd.underlying24 rfl ti24 (Opd.t rfl) (fun _ => (hs.box (i := 2) rfl).part 0 rfl) rfl) rfl rfl rfl <| ?_
      replace hs := hs.freeze (i := 3) rfl
      obtain ⟨r78, hr79, -, hm⟩ := callG_some hm
      refine WL_callG rfl rfl rfl guard_neg (f := 32) (first := []) (cap := []) (xs := [(.tmp 122), (.const (.int .i64 50))]) (vs := [(.agg #[(.int .i64 r28.1.op), (.int .i64 r28.1.n), (.int .i64 r28.1.at_), (sl v30)]), (.int .i64 50)]) (args := [(.agg #[(.int .i64 r28.1.op), (.int .i64 r28.1.n), (.int .i64 r28.1.at_), (sl v30)]), (.int .i64 50)]) Tryd.call32 Opd.f (.cons (Opd.g rfl id) (.cons Opd.c .nil)) rfl rfl (fun hg => scrutinyref13_Deep_ok (hs.re 9 [3, 0, 1, 2, 3, 4, 5, 6, 7, 8] rfl) (hr79 hg)) ?_
      intro v81 w80 hv82 hz83
      replace hs := Sat.ofG (fun hg => (hv82 hg).2.re 9 [0, 1, 2, 3, 4, 5, 6, 7, 8] rfl) hz83 hs
      refine WL_sub1 (v := (.int .i64 r78)) (fun hg => (hv82 hg).1) ?_
      replace hs := Sat.n9 (Γ := Φ) hs rfl
      obtain ⟨b84, e85, hm⟩ := letv_some hm
      refine WL_opG rfl rfl rfl rfl guard_neg (Run.eqB (Run_geI (Opd.g rfl id) Opd.c) e85) rfl rfl rfl <| ?_
      obtain ⟨b86, e87, hm⟩ := letv_some hm
      refine WL_op (Run.eqB (Run_or (Opd.t rfl) (Opd.g rfl id)) e87) rfl rfl rfl rfl <| WL_op (Run_move (Opd.t rfl)) rfl rfl rfl rfl <| WL_opG rfl rfl rfl rfl guard_neg (Run_move (Opd.t rfl)) rfl rfl rfl <| WL_opG rfl rfl rfl rfl guard_neg (Run_lenSlG Tryd.underlying44 (Opd.g rfl id) (fun _ => (hs.own (i := 1) rfl).len)) rfl rfl rfl <| ?_
      obtain ⟨b88, e89, hm⟩ := letv_some hm
      refine WL_opG rfl rfl rfl rfl guard_neg (Run.eqB (Run_gtI (Opd.g rfl id) Opd.c) e89) rfl rfl rfl <| ?_
      obtain ⟨b90, e91, hm⟩ := letv_some hm
      refine WL_op (Run.eqB (Run_or (Opd.t rfl) (Opd.g rfl id)) e91) rfl rfl rfl rfl <| WL_op (Run_move (Opd.t rfl)) rfl rfl rfl rfl <| WL_opG rfl rfl rfl rfl guard_neg (Run_move (Opd.t rfl)) rfl rfl rfl <| WL_opG rfl rfl rfl rfl guard_neg (Run_lenSlG Tryd.underlying44 (Opd.g rfl id) (fun _ => (hs.own (i := 0) rfl).len)) rfl rfl rfl <| ?_
      obtain ⟨b92, e93, hm⟩ := letv_some hm
      refine WL_opG rfl rfl rfl rfl guard_neg (Run.eqB (Run_gtI (Opd.g rfl id) Opd.c) e93) rfl rfl rfl <| ?_
      obtain ⟨b94, e95, hm⟩ := letv_some hm
      refine WL_op (Run.eqB (Run_or (Opd.t rfl) (Opd.g rfl id)) e95) rfl rfl rfl rfl <| ?_
      refine WL_nil ?_
      refine At_then ?_
      refine WC_cond (Opd.t rfl) (fun hc96 => ?_) (fun hc96 => ?_)
      ·
        replace hm := bif_t hc96 hm
        refine WC_seq ?_
        refine WC_region ?_
        refine WL_op (Run_move (Opd.t rfl)) rfl rfl rfl rfl <| WL_op (Run_assign (Opd.t rfl)) rfl rfl rfl rfl <| ?_
        refine WL_nil ?_
        refine At_then ?_
        refine WC_ret ?_
        refine At_then_ret <| ?_
        refine At_r1 rfl (ResIs.t rfl) ?_
        cases hm
        exact ⟨rfl, (hs.re 9 [] rfl)⟩
      ·
        replace hm := bif_f hc96 hm
        refine WC_skip ?_
        refine At_then ?_
        refine WC_seq ?_
        refine WC_region ?_
        refine WS_lit (A := RS) (xs := [[60, 45, 62], [45, 62], [124], [38], [85], [82], [61, 61], [60], [43], [42]]) (zs := [(S [])]) (cells := [(S [60, 45, 62]), (S [45, 62]), (S [124]), (S [38]), (S [85]), (S [82]), (S [61, 61]), (S [60]), (S [43]), (S [42])]) (parts := [(0, (.const (.string ⟨#[60, 45, 62]⟩))), (1, (.const (.string ⟨#[45, 62]⟩))), (2, (.const (.string ⟨#[124]⟩))), (3, (.const (.string ⟨#[38]⟩))), (4, (.const (.string ⟨#[85]⟩))), (5, (.const (.string ⟨#[82]⟩))), (6, (.const (.string ⟨#[61, 61]⟩))), (7, (.const (.string ⟨#[60]⟩))), (8, (.const (.string ⟨#[43]⟩))), (9, (.const (.string ⟨#[42]⟩)))]) hs Tryd.underlying40 ti9 rfl rfl rfl (.cons Opd.c (.cons Opd.c (.cons Opd.c (.cons Opd.c (.cons Opd.c (.cons Opd.c (.cons Opd.c (.cons Opd.c (.cons Opd.c (.cons Opd.c .nil)))))))))) (by kernel_rfl) rfl (ARd.cons (A := RS) (c := [(S [60, 45, 62])]) (x := [60, 45, 62]) rfl (ARd.cons (A := RS) (c := [(S [45, 62])]) (x := [45, 62]) rfl (ARd.cons (A := RS) (c := [(S [124])]) (x := [124]) rfl (ARd.cons (A := RS) (c := [(S [38])]) (x := [38]) rfl (ARd.cons (A := RS) (c := [(S [85])]) (x := [85]) rfl (ARd.cons (A := RS) (c := [(S [82])]) (x := [82]) rfl (ARd.cons (A := RS) (c := [(S [61, 61])]) (x := [61, 61]) rfl (ARd.cons (A := RS) (c := [(S [60])]) (x := [60]) rfl (ARd.cons (A := RS) (c := [(S [43])]) (x := [43]) rfl (ARd.cons (A := RS) (c := [(S [42])]) (x := [42]) rfl ARd.nil)))))))))) rfl ?_
        intro b97 w98 hs
        replace hs := Sat.n10 (Γ := Φ) hs rfl
        refine WL_op (Run_assign (Opd.t rfl)) rfl rfl rfl rfl <| ?_
        refine WL_nil ?_
        refine At_then ?_
        refine WC_seq ?_
        refine WC_region ?_
        refine WS_lit (A := (RI .i64)) (xs := [19, 18, 17, 16, 23, 24, 7, 9, 3, 5]) (zs := [(.int .i64 0)]) (cells := [(.int .i64 19), (.int .i64 18), (.int .i64 17), (.int .i64 16), (.int .i64 23), (.int .i64 24), (.int .i64 7), (.int .i64 9), (.int .i64 3), (.int .i64 5)]) (parts := [(0, (.const (.int .i64 19))), (1, (.const (.int .i64 18))), (2, (.const (.int .i64 17))), (3, (.const (.int .i64 16))), (4, (.const (.int .i64 23))), (5, (.const (.int .i64 24))), (6, (.const (.int .i64 7))), (7, (.const (.int .i64 9))), (8, (.const (.int .i64 3))), (9, (.const (.int .i64 5)))]) hs Tryd.underlying25 ti3 rfl rfl rfl (.cons Opd.c (.cons Opd.c (.cons Opd.c (.cons Opd.c (.cons Opd.c (.cons Opd.c (.cons Opd.c (.cons Opd.c (.cons Opd.c (.cons Opd.c .nil)))))))))) (by kernel_rfl) rfl (ARd.cons (A := (RI .i64)) (c := [(.int .i64 19)]) (x := 19) rfl (ARd.cons (A := (RI .i64)) (c := [(.int .i64 18)]) (x := 18) rfl (ARd.cons (A := (RI .i64)) (c := [(.int .i64 17)]) (x := 17) rfl (ARd.cons (A := (RI .i64)) (c := [(.int .i64 16)]) (x := 16) rfl (ARd.cons (A := (RI .i64)) (c := [(.int .i64 23)]) (x := 23) rfl (ARd.cons (A := (RI .i64)) (c := [(.int .i64 24)]) (x := 24) rfl (ARd.cons (A := (RI .i64)) (c := [(.int .i64 7)]) (x := 7) rfl (ARd.cons (A := (RI .i64)) (c := [(.int .i64 9)]) (x := 9) rfl (ARd.cons (A := (RI .i64)) (c := [(.int .i64 3)]) (x := 3) rfl (ARd.cons (A := (RI .i64)) (c := [(.int .i64 5)]) (x := 5) rfl ARd.nil)))))))))) rfl ?_
        intro b99 w100 hs
        replace hs := Sat.n11 (Γ := Φ) hs rfl
        refine WL_op (Run_assign (Opd.t rfl)) rfl rfl rfl rfl <| ?_
        refine WL_nil ?_
        refine At_then ?_
        refine WC_seq ?_
        refine WC_region ?_
        refine WL_op (Run_move (Opd.t rfl)) rfl rfl rfl rfl <| WL_op (Run_conv Tryd.underlying5 Tryd.underlying3 (Opd.t rfl)) rfl rfl rfl rfl <| WL_op (Run_rem (Opd.t rfl) Opd.c (by rfl)) rfl rfl rfl rfl <| WL_op (Run_assign (Opd.t rfl)) rfl rfl rfl rfl <| ?_
        refine WL_nil ?_
        refine At_then ?_
        refine WC_seq ?_
        refine WC_region ?_
        refine WL_op (Run_move (Opd.t rfl)) rfl rfl rfl rfl <| ?_
        obtain ⟨k101, hm⟩ := chk_some hm
        refine WL_op (Run_cat Opd.c (Opd.t rfl) (fun _ => k101)) rfl rfl rfl rfl <| ?_
        obtain ⟨k102, hm⟩ := chk_some hm
        refine WL_op (Run_cat (Opd.t rfl) Opd.c (fun _ => k102)) rfl rfl rfl rfl <| ?_
        obtain ⟨r103, hr104, hm⟩ := bind_some' hm
        refine WL_call (f := 31) (first := []) (cap := []) (xs := [(.tmp 145)]) (vs := [(S (([40, 32] ++ a) ++ [32, 41]))]) (args := [(S (([40, 32] ++ a) ++ [32, 41]))]) Tryd.call31 Opd.f (.cons (Opd.t rfl) .nil) rfl rfl (scrutinylaw13_parsed_ok (hs.re 11 [8, 9, 0, 1, 2, 3, 4, 5, 6, 7, 8, 9, 10] rfl) hr104) ?_
        rintro _ w107 ⟨v105, R106, rfl, hs⟩
        replace hs := Sat.n12 (Γ := Φ) hs rfl
        refine WL_op (Run_move (Opd.t rfl)) rfl rfl rfl rfl <| WL_op (Run_extract (vs := [(.agg #[(.int .i64 r103.1.op), (.int .i64 r103.1.n), (.int .i64 r103.1.at_), (sl v105)]), (.int .i64 r103.2.1), (.int .i64 r103.2.2.1), (.int .i64 r103.2.2.2)]) (Opd.t rfl) rfl) rfl rfl rfl rfl <| WL_op (Run_extract (vs := [(.agg #[(.int .i64 r103.1.op), (.int .i64 r103.1.n), (.int .i64 r103.1.at_), (sl v105)]), (.int .i64 r103.2.1), (.int .i64 r103.2.2.1), (.int .i64 r103.2.2.2)]) (Opd.t rfl) rfl) rfl rfl rfl rfl <| WL_op (Run_extract (vs := [(.agg #[(.int .i64 r103.1.op), (.int .i64 r103.1.n), (.int .i64 r103.1.at_), (sl v105)]), (.int .i64 r103.2.1), (.int .i64 r103.2.2.1), (.int .i64 r103.2.2.2)]) (Opd.t rfl) rfl) rfl rfl rfl rfl <| WL_op (Run_extract (vs := [(.agg #[(.int .i64 r103.1.op), (.int .i64 r103.1.n), (.int .i64 r103.1.at_), (sl v105)]), (.int .i64 r103.2.1), (.int .i64 r103.2.2.1), (.int .i64 r103.2.2.2)]) (Opd.t rfl) rfl) rfl rfl rfl rfl <| ?_
        refine WS_alloc (zs := [(.int .i64 0), (.int .i64 0), (.int .i64 0), (sl (none, 0, 0))]) hs ti24 rfl rfl ?_
        intro b108 w109 hs
        replace hs := Sat.n13 (Γ := Φ) hs rfl
        refine WS_store (us := [(.int .i64 r103.1.op), (.int .i64 r103.1.n), (.int .i64 r103.1.at_), (sl v105)]) (vs' := [(.int .i64 r103.1.op), (.int .i64 r103.1.n), (.int .i64 r103.1.at_), (sl v105)]) hs 0 rfl ti24 (Opd.t rfl) (Opd.t rfl) rfl rfl rfl rfl rfl ?_
        intro w110 hs
        replace hs := Sat.n13 (Γ := Φ) hs rfl
        refine WL_op (Run_assign (Opd.t rfl)) rfl rfl rfl rfl <| WL_op (Run_assign (Opd.t rfl)) rfl rfl rfl rfl <| WL_op (Run_assign (Opd.t rfl)) rfl rfl rfl rfl <| ?_
        refine WL_nil ?_
        refine At_then ?_
        refine WC_seq ?_
        refine WC_region ?_
        refine WL_op (Run_move (Opd.t rfl)) rfl rfl rfl rfl <| ?_
        obtain ⟨k111, hm⟩ := chk_some hm
        refine WL_op (Run_cat Opd.c (Opd.t rfl) (fun _ => k111)) rfl rfl rfl rfl <| ?_
        obtain ⟨k112, hm⟩ := chk_some hm
        refine WL_op (Run_cat (Opd.t rfl) Opd.c (fun _ => k112)) rfl rfl rfl rfl <| WL_op (Run_move (Opd.t rfl)) rfl rfl rfl rfl <| WL_op (Run_move (Opd.t rfl)) rfl rfl rfl rfl <| ?_
        obtain ⟨e113, he114, hm⟩ := bind_some' hm
        refine WL_op (Run_idxAddr (p := (elA (sl (some ⟨b97, 0, none⟩, 10, 10)) (Int.tmod (IntKind.i64.wrap k) 10) 1)) Tryd.underlying40 ti9 (Opd.t rfl) (Opd.t rfl) (fun hg => (Own.atA (A := RS) (v := (sl (some ⟨b97, 0, none⟩, 10, 10))) (hs.own (i := 3) rfl) he114).1)) rfl rfl rfl rfl <| WL_op (Run_load1 (v := (S e113)) Tryd.underlying9 rfl (Opd.t rfl) (fun hg => (Own.cellsF (A := RS) (v := (sl (some ⟨b97, 0, none⟩, 10, 10))) (hs.own (i := 3) rfl) he114 (fun _ h => openT9 h)).sub 0 rfl)) rfl rfl rfl rfl <| ?_
        obtain ⟨k115, hm⟩ := chk_some hm
        refine WL_op (Run_cat (Opd.t rfl) (Opd.t rfl) (fun _ => k115)) rfl rfl rfl rfl <| ?_
        obtain ⟨k116, hm⟩ := chk_some hm
        refine WL_op (Run_cat (Opd.t rfl) Opd.c (fun _ => k116)) rfl rfl rfl rfl <| WL_op (Run_move (Opd.t rfl)) rfl rfl rfl rfl <| ?_
        obtain ⟨k117, hm⟩ := chk_some hm
        refine WL_op (Run_cat (Opd.t rfl) (Opd.t rfl) (fun _ => k117)) rfl rfl rfl rfl <| ?_
        obtain ⟨k118, hm⟩ := chk_some hm
        refine WL_op (Run_cat (Opd.t rfl) Opd.c (fun _ => k118)) rfl rfl rfl rfl <| ?_
        obtain ⟨r119, hr120, hm⟩ := bind_some' hm
        refine WL_call (f := 31) (first := []) (cap := []) (xs := [(.tmp 163)]) (vs := [(S (((((([40] ++ a) ++ [41]) ++ e113) ++ [40]) ++ b) ++ [41]))]) (args := [(S (((((([40] ++ a) ++ [41]) ++ e113) ++ [40]) ++ b) ++ [41]))]) Tryd.call31 Opd.f (.cons (Opd.t rfl) .nil) rfl rfl (scrutinylaw13_parsed_ok (hs.re 13 [10, 11, 0, 1, 2, 3, 4, 5, 6, 7, 8, 9, 10, 11, 12] rfl) hr120) ?_
        rintro _ w123 ⟨v121, R122, rfl, hs⟩
        replace hs := Sat.n14 (Γ := Φ) hs rfl
        refine WL_op (Run_move (Opd.t rfl)) rfl rfl rfl rfl <| WL_op (Run_extract (vs := [(.agg #[(.int .i64 r119.1.op), (.int .i64 r119.1.n), (.int .i64 r119.1.at_), (sl v121)]), (.int .i64 r119.2.1), (.int .i64 r119.2.2.1), (.int .i64 r119.2.2.2)]) (Opd.t rfl) rfl) rfl rfl rfl rfl <| WL_op (Run_extract (vs := [(.agg #[(.int .i64 r119.1.op), (.int .i64 r119.1.n), (.int .i64 r119.1.at_), (sl v121)]), (.int .i64 r119.2.1), (.int .i64 r119.2.2.1), (.int .i64 r119.2.2.2)]) (Opd.t rfl) rfl) rfl rfl rfl rfl <| WL_op (Run_extract (vs := [(.agg #[(.int .i64 r119.1.op), (.int .i64 r119.1.n), (.int .i64 r119.1.at_), (sl v121)]), (.int .i64 r119.2.1), (.int .i64 r119.2.2.1), (.int .i64 r119.2.2.2)]) (Opd.t rfl) rfl) rfl rfl rfl rfl <| WL_op (Run_extract (vs := [(.agg #[(.int .i64 r119.1.op), (.int .i64 r119.1.n), (.int .i64 r119.1.at_), (sl v121)]), (.int .i64 r119.2.1), (.int .i64 r119.2.2.1), (.int .i64 r119.2.2.2)]) (Opd.t rfl) rfl) rfl rfl rfl rfl <| ?_
        refine WS_alloc (zs := [(.int .i64 0), (.int .i64 0), (.int .i64 0), (sl (none, 0, 0))]) hs ti24 rfl rfl ?_
        intro b124 w125 hs
        replace hs := Sat.n15 (Γ := Φ) hs rfl
        refine WS_store (us := [(.int .i64 r119.1.op), (.int .i64 r119.1.n), (.int .i64 r119.1.at_), (sl v121)]) (vs' := [(.int .i64 r119.1.op), (.int .i64 r119.1.n), (.int .i64 r119.1.at_), (sl v121)]) hs 0 rfl ti24 (Opd.t rfl) (Opd.t rfl) rfl rfl rfl rfl rfl ?_
        intro w126 hs
        replace hs := Sat.n15 (Γ := Φ) hs rfl
        refine WL_op (Run_assign (Opd.t rfl)) rfl rfl rfl rfl <| WL_op (Run_assign (Opd.t rfl)) rfl rfl rfl rfl <| WL_op (Run_assign (Opd.t rfl)) rfl rfl rfl rfl <| ?_
        refine WL_nil ?_
        refine At_then ?_
        refine WC_seq ?_
        refine WC_seq ?_
        refine WC_region ?_
        refine WL_op (Run_move (Opd.t rfl)) rfl rfl rfl rfl <| ?_
        obtain ⟨b127, e128, hm⟩ := letv_some hm
        refine WL_op (Run.eqB (Run_eqI (Opd.t rfl) Opd.c) e128) rfl rfl rfl rfl <| WL_op (Run_move (Opd.t rfl)) rfl rfl rfl rfl <| WL_opG rfl rfl rfl rfl guard_neg (Run_move (Opd.t rfl)) rfl rfl rfl <| ?_
        obtain ⟨b129, e130, hm⟩ := letv_some hm
        refine WL_opG rfl rfl rfl rfl guard_neg (Run.eqB (Run_eqI (Opd.g rfl id) Opd.c) e130) rfl rfl rfl <| ?_
        obtain ⟨b131, e132, hm⟩ := letv_some hm
        refine WL_op (Run.eqB (Run_or (Opd.t rfl) (Opd.g rfl id)) e132) rfl rfl rfl rfl <| ?_
        refine WL_nil ?_
        refine At_then ?_
        refine WC_cond (Opd.t rfl) (fun hc133 => ?_) (fun hc133 => ?_)
        ·
          replace hm := bif_t hc133 hm
          refine WC_seq ?_
          refine WC_region ?_
          refine WL_op (Run_move (Opd.t rfl)) rfl rfl rfl rfl <| WL_op (Run_assign (Opd.t rfl)) rfl rfl rfl rfl <| ?_
          refine WL_nil ?_
          refine At_then ?_
          refine WC_ret ?_
          refine At_then_ret <| ?_
          refine At_r1 rfl (ResIs.t rfl) ?_
          cases hm
          exact ⟨rfl, (hs.re 15 [] rfl)⟩
        ·
          replace hm := bif_f hc133 hm
          refine WC_skip ?_
          refine At_then ?_
          refine WC_seq ?_
          refine WC_region_mixed [0, 1, 2, 6, 10, 18, 32, 32, 224, 288, 768, 1024, 3072, 5120, 9216, 16384, 16384, 16384, 212992, 278528, 16384, 16384, 3162112, 4734976, 8437760, 16793600, 67108863] (.q 0 0 (.q 1 1 (.q 2 3 (.q 3 7 (.q 4 15 (.q 5 31 (.q 6 63 (.q 7 127 (.l 8 255 (.q 9 511 (.q 10 1023 (.q 11 2047 (.q 12 4095 (.q 13 8191 (.q 14 16383 (.q 15 32767 (.q 16 65535 (.q 17 131071 (.q 18 262143 (.q 19 524287 (.q 20 1048575 (.q 21 2097151 (.l 22 4194303 (.q 23 8388607 (.l 24 16777215 (.q 25 33554431 (.q 26 67108863 .nil))))))))))))))))))))))))))) (by kernel_rfl) (by kernel_rfl) ?_
          intro w134 hx135
          replace hs := hs.ext hx135
          refine WD_pure (fun _ => (Run_move (Opd.t rfl))) rfl rfl rfl rfl <| WD_pure (fun _ => (Run_move (Opd.t rfl))) rfl rfl rfl rfl <| WD_pureG rfl rfl rfl rfl guard_pos (fun _ => (Run_move (Opd.t rfl))) rfl rfl rfl <| ?_
          obtain ⟨b136, e137, hm⟩ := letv_some hm
          refine WD_pureG rfl rfl rfl rfl guard_pos (fun _ => (Run.eqB (Run_eqI (Opd.g rfl id) Opd.c) e137)) rfl rfl rfl <| ?_
          obtain ⟨b138, e139, hm⟩ := letv_some hm
          refine WD_pure (fun _ => (Run.eqB (Run_and (Opd.t rfl) (Opd.g rfl id)) e139)) rfl rfl rfl rfl <| WD_pure (fun _ => (Run_move (Opd.t rfl))) rfl rfl rfl rfl <| WD_opG (fun w => CellsAt w ⟨b108, 0, none⟩ [(.int .i64 r103.1.op), (.int .i64 r103.1.n), (.int .i64 r103.1.at_), (sl v105)]) ((hs.box (i := 2) rfl).part 0 rfl) rfl rfl rfl rfl guard_pos (fun _ hJ => (Run_loadA (vs := [(.int .i64 r103.1.op), (.int .i64 r103.1.n), (.int .i64 r103.1.at_), (sl v105)]) Tryd.underlying24 rfl ti24 (Opd.t rfl) (fun _ => hJ) rfl)) rfl rfl rfl <| WD_opG (fun w => CellsAt w ⟨b25, 0, none⟩ [(.int .i64 r20.1.op), (.int .i64 r20.1.n), (.int .i64 r20.1.at_), (sl v22)]) ((hs.box (i := 10) rfl).part 0 rfl) rfl rfl rfl rfl guard_pos (fun _ hJ => (Run_loadA (vs := [(.int .i64 r20.1.op), (.int .i64 r20.1.n), (.int .i64 r20.1.at_), (sl v22)]) Tryd.underlying24 rfl ti24 (Opd.t rfl) (fun _ => hJ) rfl)) rfl rfl rfl <| ?_
          refine WD_loud (pend' := []) rfl (by kernel_rfl) ?_
          replace hs := hs.freeze (i := 3) rfl
          obtain ⟨r140, hr141, -, hm⟩ := callG_some hm
          refine WL_callG rfl rfl rfl guard_pos (f := 15) (first := []) (cap := []) (xs := [(.tmp 182), (.tmp 183)]) (vs := [(.agg #[(.int .i64 r103.1.op), (.int .i64 r103.1.n), (.int .i64 r103.1.at_), (sl v105)]), (.agg #[(.int .i64 r20.1.op), (.int .i64 r20.1.n), (.int .i64 r20.1.at_), (sl v22)])]) (args := [(.agg #[(.int .i64 r103.1.op), (.int .i64 r103.1.n), (.int .i64 r103.1.at_), (sl v105)]), (.agg #[(.int .i64 r20.1.op), (.int .i64 r20.1.n), (.int .i64 r20.1.at_), (sl v22)])]) Tryd.call15 Opd.f (.cons (Opd.g rfl id) (.cons (Opd.g rfl id) .nil)) rfl rfl (fun hg => scrutinyref13_Same_ok (hs.re 15 [3, 11, 0, 1, 2, 3, 4, 5, 6, 7, 8, 9, 10, 11, 12, 13, 14] rfl) (hr141 hg)) ?_
          intro v143 w142 hv144 hz145
          replace hs := Sat.ofG (fun hg => (hv144 hg).2.re 15 [0, 1, 2, 3, 4, 5, 6, 7, 8, 9, 10, 11, 12, 13, 14] rfl) hz145 hs
          refine WL_sub1 (v := (.bool r140)) (fun hg => (hv144 hg).1) ?_
          replace hs := Sat.n15 (Γ := Φ) hs rfl
          refine WL_nil ?_
          refine At_QK allJ_nil ?_
          obtain ⟨b146, e147, hm⟩ := letv_some hm
          refine WD_pure (fun _ => (Run.eqB (Run_and (Opd.t rfl) (Opd.g rfl id)) e147)) rfl rfl rfl rfl <| WD_pure (fun _ => (Run_move (Opd.t rfl))) rfl rfl rfl rfl <| WD_pureG rfl rfl rfl rfl guard_pos (fun _ => (Run_move (Opd.t rfl))) rfl rfl rfl <| ?_
          obtain ⟨b148, e149, hm⟩ := letv_some hm
          refine WD_pureG rfl rfl rfl rfl guard_pos (fun _ => (Run.eqB (Run_eqI (Opd.g rfl id) Opd.c) e149)) rfl rfl rfl <| ?_
          obtain ⟨b150, e151, hm⟩ := letv_some hm
          refine WD_pure (fun _ => (Run.eqB (Run_and (Opd.t rfl) (Opd.g rfl id)) e151)) rfl rfl rfl rfl <| WD_pure (fun _ => (Run_move (Opd.t rfl))) rfl rfl rfl rfl <| WD_opG (fun w => CellsAt w ⟨b124, 0, none⟩ [(.int .i64 r119.1.op), (.int .i64 r119.1.n), (.int .i64 r119.1.at_), (sl v121)]) ((hs.box (i := 0) rfl).part 0 rfl) rfl rfl rfl rfl guard_pos (fun _ hJ => (Run_loadA (vs := [(.int .i64 r119.1.op), (.int .i64 r119.1.n), (.int .i64 r119.1.at_), (sl v121)]) Tryd.underlying24 rfl ti24 (Opd.t rfl) (fun _ => hJ) rfl)) rfl rfl rfl <| WD_pureG rfl rfl rfl rfl guard_pos (fun _ => (Run_move (Opd.t rfl))) rfl rfl rfl <| WD_pureG rfl rfl rfl rfl guard_pos (fun _ => (Run_move (Opd.t rfl))) rfl rfl rfl <| ?_
          obtain ⟨e152, he153, -, hm⟩ := callG_some hm
          refine WD_pureG rfl rfl rfl rfl guard_pos (fun _ => (Run_idxAddr (p := (elA (sl (some ⟨b99, 0, none⟩, 10, 10)) (Int.tmod (IntKind.i64.wrap k) 10) 1)) Tryd.underlying25 ti3 (Opd.g rfl id) (Opd.g rfl id) (fun hg => (Own.atA (A := (RI .i64)) (v := (sl (some ⟨b99, 0, none⟩, 10, 10))) (hs.own (i := 4) rfl) (he153 hg)).1))) rfl rfl rfl <| WD_opG (fun w => b150 = true → CellsAt w (elA (sl (some ⟨b99, 0, none⟩, 10, 10)) (Int.tmod (IntKind.i64.wrap k) 10) 1) [(.int .i64 e152)]) (fun hg => (Own.cellsF (A := (RI .i64)) (v := (sl (some ⟨b99, 0, none⟩, 10, 10))) (hs.own (i := 4) rfl) (he153 hg) (fun _ h => openT3 h)).sub 0 rfl) rfl rfl rfl rfl guard_pos (fun _ hJ => (Run_load1 (v := (.int .i64 e152)) Tryd.underlying3 rfl (Opd.g rfl id) hJ)) rfl rfl rfl <| WD_opG (fun w => CellsAt w ⟨b25, 0, none⟩ [(.int .i64 r20.1.op), (.int .i64 r20.1.n), (.int .i64 r20.1.at_), (sl v22)]) ((hs.box (i := 10) rfl).part 0 rfl) rfl rfl rfl rfl guard_pos (fun _ hJ => (Run_loadA (vs := [(.int .i64 r20.1.op), (.int .i64 r20.1.n), (.int .i64 r20.1.at_), (sl v22)]) Tryd.underlying24 rfl ti24 (Opd.t rfl) (fun _ => hJ) rfl)) rfl rfl rfl <| WD_opG (fun w => CellsAt w ⟨b33, 0, none⟩ [(.int .i64 r28.1.op), (.int .i64 r28.1.n), (.int .i64 r28.1.at_), (sl v30)]) ((hs.box (i := 8) rfl).part 0 rfl) rfl rfl rfl rfl guard_pos (fun _ hJ => (Run_loadA (vs := [(.int .i64 r28.1.op), (.int .i64 r28.1.n), (.int .i64 r28.1.at_), (sl v30)]) Tryd.underlying24 rfl ti24 (Opd.t rfl) (fun _ => hJ) rfl)) rfl rfl rfl <| ?_
          refine WD_loud (pend' := [(19, fun w => b150 = true → CellsAt w (elA (sl (some ⟨b99, 0, none⟩, 10, 10)) (Int.tmod (IntKind.i64.wrap k) 10) 1) [(.int .i64 e152)]), (15, fun w => CellsAt w ⟨b124, 0, none⟩ [(.int .i64 r119.1.op), (.int .i64 r119.1.n), (.int .i64 r119.1.at_), (sl v121)])]) rfl (by kernel_rfl) ?_
          refine WS_litG (A := RExpr) (xs := [r20.1, r28.1]) (zs := [(.int .i64 0), (.int .i64 0), (.int .i64 0), (sl (none, 0, 0))]) (cells := [(.int .i64 r20.1.op), (.int .i64 r20.1.n), (.int .i64 r20.1.at_), (sl v22), (.int .i64 r28.1.op), (.int .i64 r28.1.n), (.int .i64 r28.1.at_), (sl v30)]) (parts := [(0, (.tmp 196)), (1, (.tmp 197))]) rfl rfl rfl guard_pos hs Tryd.underlying22 ti24 rfl rfl rfl (.cons (Opd.g rfl id) (.cons (Opd.g rfl id) .nil)) (by kernel_rfl) rfl (fun hg => (ARd.cons (A := RExpr) (c := [(.int .i64 r20.1.op), (.int .i64 r20.1.n), (.int .i64 r20.1.at_), (sl v22)]) (x := r20.1) (RExpr_closeE (⟨_, rfl, (hs.sl (i := 11) rfl)⟩)) (ARd.cons (A := RExpr) (c := [(.int .i64 r28.1.op), (.int .i64 r28.1.n), (.int .i64 r28.1.at_), (sl v30)]) (x := r28.1) (RExpr_closeE (⟨_, rfl, (hs.sl (i := 9) rfl)⟩)) ARd.nil))) rfl ?_
          intro v154 w155 hs
          refine WL_nil ?_
          refine At_QK (allJ_cons (fun hg => (Own.cellsF (A := (RI .i64)) (v := (sl (some ⟨b99, 0, none⟩, 10, 10))) (hs.own (i := 5) rfl) (he153 hg) (fun _ h => openT3 h)).sub 0 rfl) (allJ_cons ((hs.box (i := 1) rfl).part 0 rfl) allJ_nil)) ?_
          refine WD_pureG rfl rfl rfl rfl guard_pos (fun _ => (Run_build (parts := [(0, (.tmp 195)), (3, (.tmp 198))]) (v := (.agg #[(.int .i64 e152), (.int .i64 0), (.int .i64 0), (sl v154)])) (.cons (Opd.g rfl id) (.cons (Opd.g rfl id) .nil)) (fun _ => by kernel_rfl))) rfl rfl rfl <| ?_
          refine WD_loud (pend' := [(19, fun w => b150 = true → CellsAt w (elA (sl (some ⟨b99, 0, none⟩, 10, 10)) (Int.tmod (IntKind.i64.wrap k) 10) 1) [(.int .i64 e152)])]) rfl (by kernel_rfl) ?_
          replace hs := hs.freeze (i := 2) rfl
          obtain ⟨r156, hr157, -, hm⟩ := callG_some hm
          refine WL_callG rfl rfl rfl guard_pos (f := 15) (first := []) (cap := []) (xs := [(.tmp 191), (.tmp 199)]) (vs := [(.agg #[(.int .i64 r119.1.op), (.int .i64 r119.1.n), (.int .i64 r119.1.at_), (sl v121)]), (.agg #[(.int .i64 e152), (.int .i64 0), (.int .i64 0), (sl v154)])]) (args := [(.agg #[(.int .i64 r119.1.op), (.int .i64 r119.1.n), (.int .i64 r119.1.at_), (sl v121)]), (.agg #[(.int .i64 e152), (.int .i64 0), (.int .i64 0), (sl v154)])]) Tryd.call15 Opd.f (.cons (Opd.g rfl id) (.cons (Opd.g rfl id) .nil)) rfl rfl (fun hg => scrutinyref13_Same_ok (b := (Ex.mk e152 0 0 ([r20.1, r28.1] : List Ex))) ((hs.addS (hs.slG (i := 0) rfl hg)).re 17 [3, 0, 1, 2, 3, 4, 5, 6, 7, 8, 9, 10, 11, 12, 13, 14, 15, 16] rfl) (hr157 hg)) ?_
          intro v159 w158 hv160 hz161
          replace hs := Sat.ofG (fun hg => (hv160 hg).2.re 16 [0, 1, 2, 3, 4, 5, 6, 7, 8, 9, 10, 11, 12, 13, 14, 15] rfl) hz161 hs
          refine WL_sub1 (v := (.bool r156)) (fun hg => (hv160 hg).1) ?_
          replace hs := Sat.n16 (Γ := Φ) hs rfl
          refine WL_nil ?_
          refine At_QK (allJ_cons (fun hg => (Own.cellsF (A := (RI .i64)) (v := (sl (some ⟨b99, 0, none⟩, 10, 10))) (hs.own (i := 5) rfl) (he153 hg) (fun _ h => openT3 h)).sub 0 rfl) allJ_nil) ?_
          obtain ⟨b162, e163, hm⟩ := letv_some hm
          refine WD_pure (fun _ => (Run.eqB (Run_and (Opd.t rfl) (Opd.g rfl id)) e163)) rfl rfl rfl rfl <| WD_pure (fun _ => (Run_assign (Opd.t rfl))) rfl rfl rfl rfl <| ?_
          refine WD_nil ?_
          refine At_then ?_
          refine WC_ret ?_
          refine At_r1 rfl (ResIs.t rfl) ?_
          cases hm
          exact ⟨rfl, (hs.re 16 [] rfl)⟩

end Go.Proofs.YtmeombbmhpcacaaDoor
