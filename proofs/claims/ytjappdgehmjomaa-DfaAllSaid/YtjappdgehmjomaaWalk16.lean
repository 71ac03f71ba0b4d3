/- Printed by a program: the walks. -/
import Derived.Test.YtjappdgehmjomaaTypes
import Derived.Test.YtjappdgehmjomaaWalk1
import Derived.Test.YtjappdgehmjomaaWalk8
import Derived.Test.YtjappdgehmjomaaWalk10
namespace Go.Proofs.Ytjappdgehmjomaa
open Go.Proofs

set_option maxRecDepth 100000 in
set_option maxHeartbeats 4000000 in
theorem scrutinylaw09_DfaAll_ok {Φ : Ctx} {w : World} {signs : Int} {wide : Int} {last : Int} {r : Bool} (hs : Sat (Φ) w) (hm : scrutinylaw09_DfaAll signs wide last = some r) :
    CallsR Try.prog 6 [(.int .u8 signs), (.int .u8 wide), (.int .u8 last)] w (fun v w' => v = (.bool r) ∧ Sat (Φ) w') := by
  refine CallsX_enter Try.func6 rfl Try.ntmps6 rfl ?_
  unfold scrutinylaw09_DfaAll at hm
  refine WC_seq ?_
  refine WC_region ?_
  refine WL_op (Run_assign Opd.c) rfl rfl rfl rfl <| ?_
  refine WL_nil ?_
  refine At_then ?_
  refine WC_seq ?_
  refine WC_region ?_
  obtain ⟨r3, hr4, hm⟩ := bind_some' hm
  refine WL_call (f := 9) (first := []) (cap := []) (xs := []) (vs := []) (args := []) Try.call9 Opd.f .nil rfl rfl (scrutinylaw09_shown_ok (hs.re 0 [] rfl) hr4) ?_
  rintro _ w5 ⟨rfl, hs⟩
  refine WL_op (Run_assign (Opd.t rfl)) rfl rfl rfl rfl <| ?_
  refine WL_nil ?_
  refine At_then ?_
  refine WC_seq ?_
  refine WC_region ?_
  refine WL_op (Run_move (Opd.t rfl)) rfl rfl rfl rfl <| WL_op (Run_conv Try.underlying5 Try.underlying3 (Opd.t rfl)) rfl rfl rfl rfl <| WL_op (Run_rem (Opd.t rfl) Opd.c (by rfl)) rfl rfl rfl rfl <| WL_op (Run_add Opd.c (Opd.t rfl)) rfl rfl rfl rfl <| WL_op (Run_assign (Opd.t rfl)) rfl rfl rfl rfl <| ?_
  refine WL_nil ?_
  refine At_then ?_
  refine WC_seq ?_
  refine WC_region ?_
  refine WL_op (Run_move (Opd.t rfl)) rfl rfl rfl rfl <| WL_op (Run_conv Try.underlying5 Try.underlying3 (Opd.t rfl)) rfl rfl rfl rfl <| WL_op (Run_rem (Opd.t rfl) Opd.c (by rfl)) rfl rfl rfl rfl <| WL_op (Run_add Opd.c (Opd.t rfl)) rfl rfl rfl rfl <| WL_op (Run_assign (Opd.t rfl)) rfl rfl rfl rfl <| ?_
  refine WL_nil ?_
  refine At_then ?_
  refine WC_seq ?_
  refine WC_region ?_
  refine WL_op (Run_move (Opd.t rfl)) rfl rfl rfl rfl <| ?_
  obtain ⟨r6, hr7, hm⟩ := bind_some' hm
  refine WL_call (f := 11) (first := []) (cap := []) (xs := [(.tmp 33)]) (vs := [(.int .i64 (IntKind.i64.wrap (1 + (Int.tmod (IntKind.i64.wrap wide) 4))))]) (args := [(.int .i64 (IntKind.i64.wrap (1 + (Int.tmod (IntKind.i64.wrap wide) 4))))]) Try.call11 Opd.f (.cons (Opd.t rfl) .nil) rfl rfl (dfa_New_ok (hs.re 0 [] rfl) hr7) ?_
  rintro _ w12 ⟨v8, R9, v10, R11, rfl, hs⟩
  replace hs := Sat.n2 (Γ := Φ) hs rfl
  refine WL_op (Run_move (Opd.t rfl)) rfl rfl rfl rfl <| WL_op (Run_extract (vs := [(.agg #[(.int .i64 r6.1.1), (sl v8), (.int .i64 r6.1.2.2.1), (.int .i64 r6.1.2.2.2.1), (sl v10)]), (.int .i64 r6.2)]) (Opd.t rfl) rfl) rfl rfl rfl rfl <| WL_op (Run_extract (vs := [(.agg #[(.int .i64 r6.1.1), (sl v8), (.int .i64 r6.1.2.2.1), (.int .i64 r6.1.2.2.2.1), (sl v10)]), (.int .i64 r6.2)]) (Opd.t rfl) rfl) rfl rfl rfl rfl <| ?_
  refine WS_alloc (zs := [(.int .i64 0), (sl (none, 0, 0)), (.int .i64 0), (.int .i64 0), (sl (none, 0, 0))]) hs ti29 rfl rfl ?_
  intro b13 w14 hs
  replace hs := Sat.n3 (Γ := Φ) hs rfl
  refine WS_store (us := [(.int .i64 r6.1.1), (sl v8), (.int .i64 r6.1.2.2.1), (.int .i64 r6.1.2.2.2.1), (sl v10)]) (vs' := [(.int .i64 r6.1.1), (sl v8), (.int .i64 r6.1.2.2.1), (.int .i64 r6.1.2.2.2.1), (sl v10)]) hs 0 rfl ti29 (Opd.t rfl) (Opd.t rfl) rfl rfl rfl rfl rfl ?_
  intro w15 hs
  replace hs := Sat.n3 (Γ := Φ) hs rfl
  refine WL_op (Run_assign (Opd.t rfl)) rfl rfl rfl rfl <| ?_
  refine WL_nil ?_
  refine At_then ?_
  refine WC_seq ?_
  refine WC_region ?_
  refine WL_op (Run_assign Opd.c) rfl rfl rfl rfl <| ?_
  refine WL_nil ?_
  refine At_then ?_
  refine WC_seq ?_
  refine WC_seq ?_
  refine WC_region ?_
  refine WL_op (Run_assign Opd.c) rfl rfl rfl rfl <| ?_
  refine WL_nil ?_
  refine At_then ?_
  refine WC_block ?_
  refine WC_loop (σ := Int × Int) (γ := Unit) (F := (scrutinylaw09_DfaAll_L1 signs wide last r3 r6)) (N := FUEL) (s0 := (1, 0)) (r := r) (fun ⟨total17, i18⟩ (_ : Unit) w16 => Sat (box b13 29 [(.int .i64 r6.1.1), (sl v8), (.int .i64 r6.1.2.2.1), (.int .i64 r6.1.2.2.2.1), (sl v10)] :: osl (RP (RSl (RP (RI .u8) (RI .i64))) (RI .i64)) 60 (sl v8) r6.1.2.1 R9 :: osl (RI .i64) 3 (sl v10) r6.1.2.2.2.2 R11 :: Φ) w16) (fun ⟨total17, i18⟩ (_ : Unit) => [(2, true, (.int .u8 last)), (7, true, (.bool r3)), (8, true, (.int .i64 (IntKind.i64.wrap (2 + (Int.tmod (IntKind.i64.wrap signs) 3))))), (9, true, (.int .i64 (IntKind.i64.wrap (1 + (Int.tmod (IntKind.i64.wrap wide) 4))))), (10, true, (.pointer (some ⟨b13, 0, none⟩))), (11, true, (.int .i64 r6.2)), (12, true, (.int .i64 total17)), (13, true, (.int .i64 i18))]) hm () (hs.re 3 [0, 1, 2] rfl) rfl ?_
  rintro again19 ⟨total17, i18⟩ _ w16 hm hs
  unfold scrutinylaw09_DfaAll_L1 at hm
  dsimp only at hm
  refine WC_seq ?_
  refine WC_seq ?_
  refine WC_region ?_
  refine WL_op (Run_move (Opd.t rfl)) rfl rfl rfl rfl <| WL_op (Run_move (Opd.t rfl)) rfl rfl rfl rfl <| WL_op (Run_ltI (Opd.t rfl) (Opd.t rfl)) rfl rfl rfl rfl <| ?_
  refine WL_nil ?_
  refine At_then ?_
  refine WC_cond (Opd.t rfl) (fun hc20 => ?_) (fun hc20 => ?_)
  ·
    replace hm := bif_t hc20 hm
    refine WC_skip ?_
    refine At_then ?_
    refine WC_seq ?_
    refine WC_block ?_
    refine WC_region ?_
    refine WL_op (Run_move (Opd.t rfl)) rfl rfl rfl rfl <| WL_op (Run_move (Opd.t rfl)) rfl rfl rfl rfl <| WL_op (Run_mul (Opd.t rfl) (Opd.t rfl)) rfl rfl rfl rfl <| WL_op (Run_assign (Opd.t rfl)) rfl rfl rfl rfl <| ?_
    refine WL_nil ?_
    refine At_blk_normal ?_
    refine At_then ?_
    refine WC_region ?_
    refine WL_op (Run_move (Opd.t rfl)) rfl rfl rfl rfl <| WL_op (Run_add (Opd.t rfl) Opd.c) rfl rfl rfl rfl <| WL_op (Run_assign (Opd.t rfl)) rfl rfl rfl rfl <| ?_
    refine WL_nil ?_
    exact At_again ((IntKind.i64.wrap (total17 * (IntKind.i64.wrap (2 + (Int.tmod (IntKind.i64.wrap signs) 3))))), (IntKind.i64.wrap (i18 + 1))) () hm (hs.re 3 [0, 1, 2] rfl) rfl
  ·
    replace hm := bif_f hc20 hm
    refine WC_exit ?_
    refine At_then_exit <| At_then_exit <| At_blk_here <| ?_
    refine At_then ?_
    refine WC_seq ?_
    refine WC_region ?_
    refine WL_op (Run_move (Opd.t rfl)) rfl rfl rfl rfl <| WL_op (Run_conv Try.underlying5 Try.underlying3 (Opd.t rfl)) rfl rfl rfl rfl <| WL_op (Run_move (Opd.t rfl)) rfl rfl rfl rfl <| ?_
    obtain ⟨k21, hm⟩ := chk_some hm
    refine WL_op (Run_rem (Opd.t rfl) (Opd.t rfl) (by simpa using k21)) rfl rfl rfl rfl <| WL_op (Run_assign (Opd.t rfl)) rfl rfl rfl rfl <| ?_
    refine WL_nil ?_
    refine At_then ?_
    refine WC_seq ?_
    refine WC_seq ?_
    refine WC_region ?_
    refine WL_op (Run_assign Opd.c) rfl rfl rfl rfl <| ?_
    refine WL_nil ?_
    refine At_then ?_
    refine WC_block ?_
    replace hs := hs.freeze (i := 1) rfl
    replace hs := hs.freeze (i := 2) rfl
    refine WC_loop (σ := Int × (List ((List (Int × Int)) × Int)) × Int × Int × (List Int) × Int) (γ := SLV × SLV) (F := (scrutinylaw09_DfaAll_L2 signs wide last r3 r6 total17)) (N := FUEL) (s0 := (r6.1.1, r6.1.2.1, r6.1.2.2.1, r6.1.2.2.2.1, r6.1.2.2.2.2, 0)) (r := r) (fun ⟨c23, c24, c26, c27, c28, c30⟩ ⟨v25, v29⟩ w22 => Sat (box b13 29 [(.int .i64 c23), (sl v25), (.int .i64 c26), (.int .i64 c27), (sl v29)] :: imm (RSl (RP (RSl (RP (RI .u8) (RI .i64))) (RI .i64))) [sl v25] c24 :: imm (RSl (RI .i64)) [sl v29] c28 :: Φ) w22) (fun ⟨c23, c24, c26, c27, c28, c30⟩ ⟨v25, v29⟩ => [(7, true, (.bool r3)), (8, true, (.int .i64 (IntKind.i64.wrap (2 + (Int.tmod (IntKind.i64.wrap signs) 3))))), (9, true, (.int .i64 (IntKind.i64.wrap (1 + (Int.tmod (IntKind.i64.wrap wide) 4))))), (10, true, (.pointer (some ⟨b13, 0, none⟩))), (11, true, (.int .i64 r6.2)), (12, true, (.int .i64 total17)), (14, true, (.int .i64 (Int.tmod (IntKind.i64.wrap last) total17))), (15, true, (.int .i64 c30))]) hm (v8, v10) (hs.re 3 [0, 1, 2] rfl) rfl ?_
    rintro again31 ⟨c23, c24, c26, c27, c28, c30⟩ ⟨v25, v29⟩ w22 hm hs
    unfold scrutinylaw09_DfaAll_L2 at hm
    dsimp only at hm
    refine WC_seq ?_
    refine WC_seq ?_
    refine WC_region ?_
    refine WL_op (Run_move (Opd.t rfl)) rfl rfl rfl rfl <| WL_op (Run_move (Opd.t rfl)) rfl rfl rfl rfl <| WL_op (Run_ltI (Opd.t rfl) (Opd.t rfl)) rfl rfl rfl rfl <| ?_
    refine WL_nil ?_
    refine At_then ?_
    refine WC_cond (Opd.t rfl) (fun hc32 => ?_) (fun hc32 => ?_)
    ·
      replace hm := bif_t hc32 hm
      refine WC_skip ?_
      refine At_then ?_
      refine WC_seq ?_
      refine WC_block ?_
      refine WC_seq ?_
      refine WC_region ?_
      refine WL_op (Run_move (Opd.t rfl)) rfl rfl rfl rfl <| WL_op (Run_assign (Opd.t rfl)) rfl rfl rfl rfl <| ?_
      refine WL_nil ?_
      refine At_then ?_
      refine WC_seq_cut (γ := Int) (fun i34 w33 => scrutinylaw09_DfaAll_K3 signs wide total17 c23 c24 c26 c27 c28 c30 again31 i34 = some r ∧ Sat (box b13 29 [(.int .i64 c23), (sl v25), (.int .i64 c26), (.int .i64 c27), (sl v29)] :: imm (RSl (RP (RSl (RP (RI .u8) (RI .i64))) (RI .i64))) [sl v25] c24 :: imm (RSl (RI .i64)) [sl v29] c28 :: Φ) w33) (fun i34 => [(7, true, (.bool r3)), (8, true, (.int .i64 (IntKind.i64.wrap (2 + (Int.tmod (IntKind.i64.wrap signs) 3))))), (9, true, (.int .i64 (IntKind.i64.wrap (1 + (Int.tmod (IntKind.i64.wrap wide) 4))))), (10, true, (.pointer (some ⟨b13, 0, none⟩))), (11, true, (.int .i64 r6.2)), (12, true, (.int .i64 total17)), (14, true, (.int .i64 (Int.tmod (IntKind.i64.wrap last) total17))), (15, true, (.int .i64 c30)), (16, true, (.int .i64 i34))]) ?_ ?_
      ·
        rintro i34 w33 ⟨hm, hs⟩
        unfold scrutinylaw09_DfaAll_K3 at hm
        refine WC_seq ?_
        refine WC_region ?_
        refine WL_op (Run_move (Opd.t rfl)) rfl rfl rfl rfl <| ?_
        obtain ⟨k35, hm⟩ := chk_some hm
        obtain ⟨k36, hm⟩ := chk_some hm
        refine WS_make (A := (RI .u8)) (zx := 0) (zs := [(.int .u8 0)]) hs Try.underlying23 ti5 rfl rfl rfl (Opd.t rfl) (Opd.t rfl) k35 k36 (fun M w => rfl) rfl ?_
        intro b37 w38 hs
        replace hs := Sat.n4 (Γ := Φ) hs rfl
        refine WL_op (Run_assign (Opd.t rfl)) rfl rfl rfl rfl <| ?_
        refine WL_nil ?_
        refine At_then ?_
        refine WC_seq ?_
        refine WC_region ?_
        refine WL_op (Run_move (Opd.t rfl)) rfl rfl rfl rfl <| WL_op (Run_assign (Opd.t rfl)) rfl rfl rfl rfl <| ?_
        refine WL_nil ?_
        refine At_then ?_
        refine WC_seq ?_
        refine WC_seq ?_
        refine WC_region ?_
        refine WL_op (Run_assign Opd.c) rfl rfl rfl rfl <| ?_
        refine WL_nil ?_
        refine At_then ?_
        refine WC_block ?_
        refine WC_loop (σ := (List Int) × Int × Int) (γ := Unit) (F := (scrutinylaw09_DfaAll_L4 signs wide total17 c23 c24 c26 c27 c28 c30 again31)) (N := FUEL) (s0 := ((List.replicate (Int.toNat (IntKind.i64.wrap (1 + (Int.tmod (IntKind.i64.wrap wide) 4)))) 0), i34, 0)) (r := r) (fun ⟨l40, v41, j42⟩ (_ : Unit) w39 => Sat (box b13 29 [(.int .i64 c23), (sl v25), (.int .i64 c26), (.int .i64 c27), (sl v29)] :: imm (RSl (RP (RSl (RP (RI .u8) (RI .i64))) (RI .i64))) [sl v25] c24 :: imm (RSl (RI .i64)) [sl v29] c28 :: osl (RI .u8) 5 (sl (some ⟨b37, 0, none⟩, Int.toNat (IntKind.i64.wrap (1 + (Int.tmod (IntKind.i64.wrap wide) 4))), Int.toNat (IntKind.i64.wrap (1 + (Int.tmod (IntKind.i64.wrap wide) 4))))) l40 [b37] :: Φ) w39) (fun ⟨l40, v41, j42⟩ (_ : Unit) => [(7, true, (.bool r3)), (8, true, (.int .i64 (IntKind.i64.wrap (2 + (Int.tmod (IntKind.i64.wrap signs) 3))))), (9, true, (.int .i64 (IntKind.i64.wrap (1 + (Int.tmod (IntKind.i64.wrap wide) 4))))), (10, true, (.pointer (some ⟨b13, 0, none⟩))), (11, true, (.int .i64 r6.2)), (12, true, (.int .i64 total17)), (14, true, (.int .i64 (Int.tmod (IntKind.i64.wrap last) total17))), (15, true, (.int .i64 c30)), (17, true, (sl (some ⟨b37, 0, none⟩, Int.toNat (IntKind.i64.wrap (1 + (Int.tmod (IntKind.i64.wrap wide) 4))), Int.toNat (IntKind.i64.wrap (1 + (Int.tmod (IntKind.i64.wrap wide) 4)))))), (18, true, (.int .i64 v41)), (19, true, (.int .i64 j42))]) hm () (hs.re 4 [1, 2, 3, 0] rfl) rfl ?_
        rintro again43 ⟨l40, v41, j42⟩ _ w39 hm hs
        unfold scrutinylaw09_DfaAll_L4 at hm
        dsimp only at hm
        refine WC_seq ?_
        refine WC_seq ?_
        refine WC_region ?_
        refine WL_op (Run_move (Opd.t rfl)) rfl rfl rfl rfl <| WL_op (Run_move (Opd.t rfl)) rfl rfl rfl rfl <| WL_op (Run_ltI (Opd.t rfl) (Opd.t rfl)) rfl rfl rfl rfl <| ?_
        refine WL_nil ?_
        refine At_then ?_
        refine WC_cond (Opd.t rfl) (fun hc44 => ?_) (fun hc44 => ?_)
        ·
          replace hm := bif_t hc44 hm
          refine WC_skip ?_
          refine At_then ?_
          refine WC_seq ?_
          refine WC_block ?_
          refine WC_seq ?_
          refine WC_region ?_
          refine WL_op (Run_move (Opd.t rfl)) rfl rfl rfl rfl <| WL_op (Run_move (Opd.t rfl)) rfl rfl rfl rfl <| WL_op (Run_move (Opd.t rfl)) rfl rfl rfl rfl <| WL_op (Run_move (Opd.t rfl)) rfl rfl rfl rfl <| ?_
          obtain ⟨k45, hm⟩ := chk_some hm
          refine WL_op (Run_rem (Opd.t rfl) (Opd.t rfl) (by simpa using k45)) rfl rfl rfl rfl <| WL_op (Run_conv Try.underlying3 Try.underlying5 (Opd.t rfl)) rfl rfl rfl rfl <| ?_
          obtain ⟨e46, he47, hm⟩ := bind_some' hm
          refine WL_op (Run_idxAddr (p := (elA (sl (some ⟨b37, 0, none⟩, Int.toNat (IntKind.i64.wrap (1 + (Int.tmod (IntKind.i64.wrap wide) 4))), Int.toNat (IntKind.i64.wrap (1 + (Int.tmod (IntKind.i64.wrap wide) 4))))) j42 1)) Try.underlying23 ti5 (Opd.t rfl) (Opd.t rfl) (fun hg => (Own.atA (A := (RI .u8)) (v := (sl (some ⟨b37, 0, none⟩, Int.toNat (IntKind.i64.wrap (1 + (Int.tmod (IntKind.i64.wrap wide) 4))), Int.toNat (IntKind.i64.wrap (1 + (Int.tmod (IntKind.i64.wrap wide) 4)))))) (hs.own (i := 3) rfl) he47).1)) rfl rfl rfl rfl <| ?_
          refine WS_storeElA (A := (RI .u8)) (us := [(.int .u8 (IntKind.u8.wrap (Int.tmod v41 (IntKind.i64.wrap (2 + (Int.tmod (IntKind.i64.wrap signs) 3))))))]) (u := (IntKind.u8.wrap (Int.tmod v41 (IntKind.i64.wrap (2 + (Int.tmod (IntKind.i64.wrap signs) 3)))))) hs 3 rfl ti5 (idx_inB he47 (by simp)) (Opd.t rfl) (Opd.t rfl) rfl rfl rfl rfl rfl ?_
          intro w48 hs
          replace hs := Sat.n4 (Γ := Φ) hs rfl
          refine WL_nil ?_
          refine At_then ?_
          refine WC_region ?_
          refine WL_op (Run_move (Opd.t rfl)) rfl rfl rfl rfl <| WL_op (Run_move (Opd.t rfl)) rfl rfl rfl rfl <| ?_
          obtain ⟨k49, hm⟩ := chk_some hm
          refine WL_op (Run_quo (Opd.t rfl) (Opd.t rfl) (by simpa using k49)) rfl rfl rfl rfl <| WL_op (Run_assign (Opd.t rfl)) rfl rfl rfl rfl <| ?_
          refine WL_nil ?_
          refine At_blk_normal ?_
          refine At_then ?_
          refine WC_region ?_
          refine WL_op (Run_move (Opd.t rfl)) rfl rfl rfl rfl <| WL_op (Run_add (Opd.t rfl) Opd.c) rfl rfl rfl rfl <| WL_op (Run_assign (Opd.t rfl)) rfl rfl rfl rfl <| ?_
          refine WL_nil ?_
          exact At_again ((List.set l40 (Int.toNat j42) (IntKind.u8.wrap (Int.tmod v41 (IntKind.i64.wrap (2 + (Int.tmod (IntKind.i64.wrap signs) 3)))))), (IntKind.i64.wrap (Int.tdiv v41 (IntKind.i64.wrap (2 + (Int.tmod (IntKind.i64.wrap signs) 3))))), (IntKind.i64.wrap (j42 + 1))) () hm (hs.re 4 [0, 1, 2, 3] rfl) rfl
        ·
          replace hm := bif_f hc44 hm
          refine WC_exit ?_
          refine At_then_exit <| At_then_exit <| At_blk_here <| ?_
          refine At_then ?_
          refine WC_seq ?_
          refine WC_seq ?_
          refine WC_region ?_
          refine WL_op (Run_move (Opd.t rfl)) rfl rfl rfl rfl <| WL_op (Run_move (Opd.t rfl)) rfl rfl rfl rfl <| WL_op (Run_sub (Opd.t rfl) Opd.c) rfl rfl rfl rfl <| ?_
          obtain ⟨b50, e51, hm⟩ := letv_some hm
          refine WL_op (Run.eqB (Run_eqI (Opd.t rfl) (Opd.t rfl)) e51) rfl rfl rfl rfl <| WL_op (Run_move (Opd.t rfl)) rfl rfl rfl rfl <| WL_opG rfl rfl rfl rfl guard_pos (Run_loadA (vs := [(.int .i64 c23), (sl v25), (.int .i64 c26), (.int .i64 c27), (sl v29)]) Try.underlying29 rfl ti29 (Opd.t rfl) (fun _ => (hs.box (i := 0) rfl).part 0 rfl) rfl) rfl rfl rfl <| ?_
          obtain ⟨r52, hr53, -, hm⟩ := callG_some hm
          refine WL_callG rfl rfl rfl guard_pos (f := 16) (first := []) (cap := []) (xs := [(.tmp 88)]) (vs := [(.agg #[(.int .i64 c23), (sl v25), (.int .i64 c26), (.int .i64 c27), (sl v29)])]) (args := [(.agg #[(.int .i64 c23), (sl v25), (.int .i64 c26), (.int .i64 c27), (sl v29)])]) Try.call16 Opd.f (.cons (Opd.g rfl id) .nil) rfl rfl (fun hg => dfa_Size_ok (d := (c23, c24, c26, c27, c28)) (hs.re 4 [1, 2, 0, 1, 2, 3] rfl) (hr53 hg)) ?_
          intro v55 w54 hv56 hz57
          replace hs := Sat.ofG (fun hg => (hv56 hg).2.re 4 [0, 1, 2, 3] rfl) hz57 hs
          refine WL_sub1 (v := (.int .i64 r52)) (fun hg => (hv56 hg).1) ?_
          replace hs := Sat.n4 (Γ := Φ) hs rfl
          refine WL_opG rfl rfl rfl rfl guard_pos (Run_move (Opd.t rfl)) rfl rfl rfl <| WL_opG rfl rfl rfl rfl guard_pos (Run_mul Opd.c (Opd.g rfl id)) rfl rfl rfl <| ?_
          obtain ⟨b58, e59, hm⟩ := letv_some hm
          refine WL_opG rfl rfl rfl rfl guard_pos (Run.eqB (Run_neI (Opd.g rfl id) (Opd.g rfl id)) e59) rfl rfl rfl <| ?_
          obtain ⟨b60, e61, hm⟩ := letv_some hm
          refine WL_op (Run.eqB (Run_and (Opd.t rfl) (Opd.g rfl id)) e61) rfl rfl rfl rfl <| WL_op (Run_move (Opd.t rfl)) rfl rfl rfl rfl <| WL_opG rfl rfl rfl rfl guard_pos (Run_move (Opd.t rfl)) rfl rfl rfl <| ?_
          obtain ⟨b62, e63, hm⟩ := letv_some hm
          refine WL_opG rfl rfl rfl rfl guard_pos (Run.eqB (Run_gtI (Opd.g rfl id) Opd.c) e63) rfl rfl rfl <| ?_
          obtain ⟨b64, e65, hm⟩ := letv_some hm
          refine WL_op (Run.eqB (Run_and (Opd.t rfl) (Opd.g rfl id)) e65) rfl rfl rfl rfl <| ?_
          refine WL_nil ?_
          refine At_then ?_
          refine WC_cond (Opd.t rfl) (fun hc66 => ?_) (fun hc66 => ?_)
          ·
            replace hm := bif_t hc66 hm
            refine WC_seq ?_
            refine WC_region ?_
            refine WL_op (Run_assign Opd.c) rfl rfl rfl rfl <| ?_
            refine WL_nil ?_
            refine At_then ?_
            refine WC_ret ?_
            refine At_then_ret <| At_blk_ret <| At_then_ret <| At_then_ret <| At_blk_ret <| At_then_ret <| ?_
            refine At_r1 rfl (ResIs.t rfl) ?_
            cases hm
            exact ⟨rfl, (hs.re 4 [] rfl)⟩
          ·
            replace hm := bif_f hc66 hm
            refine WC_skip ?_
            refine At_then ?_
            refine WC_seq ?_
            refine WC_region ?_
            refine WL_op (Run_loadA (vs := [(.int .i64 c23), (sl v25), (.int .i64 c26), (.int .i64 c27), (sl v29)]) Try.underlying29 rfl ti29 (Opd.t rfl) (fun _ => (hs.box (i := 0) rfl).part 0 rfl) rfl) rfl rfl rfl rfl <| WL_op (Run_move (Opd.t rfl)) rfl rfl rfl rfl <| ?_
            replace hs := hs.freeze (i := 3) rfl
            obtain ⟨r67, hr68, hm⟩ := bind_some' hm
            refine WL_call (f := 13) (first := []) (cap := []) (xs := [(.tmp 99), (.tmp 100)]) (vs := [(.agg #[(.int .i64 c23), (sl v25), (.int .i64 c26), (.int .i64 c27), (sl v29)]), (sl (some ⟨b37, 0, none⟩, Int.toNat (IntKind.i64.wrap (1 + (Int.tmod (IntKind.i64.wrap wide) 4))), Int.toNat (IntKind.i64.wrap (1 + (Int.tmod (IntKind.i64.wrap wide) 4)))))]) (args := [(.agg #[(.int .i64 c23), (sl v25), (.int .i64 c26), (.int .i64 c27), (sl v29)]), (sl (some ⟨b37, 0, none⟩, Int.toNat (IntKind.i64.wrap (1 + (Int.tmod (IntKind.i64.wrap wide) 4))), Int.toNat (IntKind.i64.wrap (1 + (Int.tmod (IntKind.i64.wrap wide) 4)))))]) Try.call13 Opd.f (.cons (Opd.t rfl) (.cons (Opd.t rfl) .nil)) rfl rfl (dfa_Insert_ok (d := (c23, c24, c26, c27, c28)) (hs.re 4 [1, 2, 3, 0, 1, 2, 3] rfl) hr68) ?_
            rintro _ w71 ⟨v69, v70, rfl, hs⟩
            replace hs := Sat.n6 (Γ := Φ) hs rfl
            refine WL_op (Run_move (Opd.t rfl)) rfl rfl rfl rfl <| WL_op (Run_extract (vs := [(.agg #[(.int .i64 r67.1.1), (sl v69), (.int .i64 r67.1.2.2.1), (.int .i64 r67.1.2.2.2.1), (sl v70)]), (.bool r67.2.1), (.int .i64 r67.2.2)]) (Opd.t rfl) rfl) rfl rfl rfl rfl <| WL_op (Run_extract (vs := [(.agg #[(.int .i64 r67.1.1), (sl v69), (.int .i64 r67.1.2.2.1), (.int .i64 r67.1.2.2.2.1), (sl v70)]), (.bool r67.2.1), (.int .i64 r67.2.2)]) (Opd.t rfl) rfl) rfl rfl rfl rfl <| WL_op (Run_extract (vs := [(.agg #[(.int .i64 r67.1.1), (sl v69), (.int .i64 r67.1.2.2.1), (.int .i64 r67.1.2.2.2.1), (sl v70)]), (.bool r67.2.1), (.int .i64 r67.2.2)]) (Opd.t rfl) rfl) rfl rfl rfl rfl <| ?_
            refine WS_alloc (zs := [(.int .i64 0), (sl (none, 0, 0)), (.int .i64 0), (.int .i64 0), (sl (none, 0, 0))]) hs ti29 rfl rfl ?_
            intro b72 w73 hs
            replace hs := Sat.n7 (Γ := Φ) hs rfl
            refine WS_store (us := [(.int .i64 r67.1.1), (sl v69), (.int .i64 r67.1.2.2.1), (.int .i64 r67.1.2.2.2.1), (sl v70)]) (vs' := [(.int .i64 r67.1.1), (sl v69), (.int .i64 r67.1.2.2.1), (.int .i64 r67.1.2.2.2.1), (sl v70)]) hs 0 rfl ti29 (Opd.t rfl) (Opd.t rfl) rfl rfl rfl rfl rfl ?_
            intro w74 hs
            replace hs := Sat.n7 (Γ := Φ) hs rfl
            refine WL_op (Run_assign (Opd.t rfl)) rfl rfl rfl rfl <| WL_op (Run_assign (Opd.t rfl)) rfl rfl rfl rfl <| ?_
            refine WL_nil ?_
            refine At_then ?_
            refine WC_seq ?_
            refine WC_seq ?_
            refine WC_region ?_
            refine WL_op (Run_move (Opd.t rfl)) rfl rfl rfl rfl <| ?_
            obtain ⟨b75, e76, hm⟩ := letv_some hm
            refine WL_op (Run.eqB (Run_notB (Opd.t rfl)) e76) rfl rfl rfl rfl <| WL_op (Run_move (Opd.t rfl)) rfl rfl rfl rfl <| WL_opG rfl rfl rfl rfl guard_neg (Run_move (Opd.t rfl)) rfl rfl rfl <| ?_
            obtain ⟨b77, e78, hm⟩ := letv_some hm
            refine WL_opG rfl rfl rfl rfl guard_neg (Run.eqB (Run_neI (Opd.g rfl id) Opd.c) e78) rfl rfl rfl <| ?_
            obtain ⟨b79, e80, hm⟩ := letv_some hm
            refine WL_op (Run.eqB (Run_or (Opd.t rfl) (Opd.g rfl id)) e80) rfl rfl rfl rfl <| ?_
            refine WL_nil ?_
            refine At_then ?_
            refine WC_cond (Opd.t rfl) (fun hc81 => ?_) (fun hc81 => ?_)
            ·
              replace hm := bif_t hc81 hm
              refine WC_seq ?_
              refine WC_region ?_
              refine WL_op (Run_assign Opd.c) rfl rfl rfl rfl <| ?_
              refine WL_nil ?_
              refine At_then ?_
              refine WC_ret ?_
              refine At_then_ret <| At_blk_ret <| At_then_ret <| At_then_ret <| At_blk_ret <| At_then_ret <| ?_
              refine At_r1 rfl (ResIs.t rfl) ?_
              cases hm
              exact ⟨rfl, (hs.re 7 [] rfl)⟩
            ·
              replace hm := bif_f hc81 hm
              refine WC_skip ?_
              refine At_then ?_
              refine WC_region ?_
              refine WL_op (Run_loadA (vs := [(.int .i64 r67.1.1), (sl v69), (.int .i64 r67.1.2.2.1), (.int .i64 r67.1.2.2.2.1), (sl v70)]) Try.underlying29 rfl ti29 (Opd.t rfl) (fun _ => (hs.box (i := 0) rfl).part 0 rfl) rfl) rfl rfl rfl rfl <| ?_
              refine WS_store (us := [(.int .i64 r67.1.1), (sl v69), (.int .i64 r67.1.2.2.1), (.int .i64 r67.1.2.2.2.1), (sl v70)]) (vs' := [(.int .i64 r67.1.1), (sl v69), (.int .i64 r67.1.2.2.1), (.int .i64 r67.1.2.2.2.1), (sl v70)]) hs 3 rfl ti29 (Opd.t rfl) (Opd.t rfl) rfl rfl rfl rfl rfl ?_
              intro w82 hs
              replace hs := Sat.n7 (Γ := Φ) hs rfl
              refine WL_nil ?_
              refine At_blk_normal ?_
              refine At_then ?_
              refine WC_region ?_
              refine WL_op (Run_move (Opd.t rfl)) rfl rfl rfl rfl <| WL_op (Run_add (Opd.t rfl) Opd.c) rfl rfl rfl rfl <| WL_op (Run_assign (Opd.t rfl)) rfl rfl rfl rfl <| ?_
              refine WL_nil ?_
              exact At_again (r67.1.1, r67.1.2.1, r67.1.2.2.1, r67.1.2.2.2.1, r67.1.2.2.2.2, (IntKind.i64.wrap (c30 + 1))) (v69, v70) hm (hs.re 7 [3, 1, 2] rfl) rfl
      ·
        refine WC_seq ?_
        refine WC_region ?_
        refine WL_op (Run_move (Opd.t rfl)) rfl rfl rfl rfl <| WL_op (Run_move (Opd.t rfl)) rfl rfl rfl rfl <| WL_op (Run_sub (Opd.t rfl) Opd.c) rfl rfl rfl rfl <| WL_op (Run_eqI (Opd.t rfl) (Opd.t rfl)) rfl rfl rfl rfl <| ?_
        refine WL_nil ?_
        refine At_then ?_
        refine WC_cond (Opd.t rfl) (fun hc83 => ?_) (fun hc83 => ?_)
        ·
          replace hm := bif_t hc83 hm
          refine WC_region ?_
          refine WL_op (Run_move (Opd.t rfl)) rfl rfl rfl rfl <| WL_op (Run_assign (Opd.t rfl)) rfl rfl rfl rfl <| ?_
          refine WL_nil ?_
          exact At_join (Int.tmod (IntKind.i64.wrap last) total17) ⟨hm, (hs.re 3 [0, 1, 2] rfl)⟩ rfl
        ·
          replace hm := bif_f hc83 hm
          refine WC_seq ?_
          refine WC_region ?_
          refine WL_op (Run_move (Opd.t rfl)) rfl rfl rfl rfl <| WL_op (Run_move (Opd.t rfl)) rfl rfl rfl rfl <| WL_op (Run_geI (Opd.t rfl) (Opd.t rfl)) rfl rfl rfl rfl <| ?_
          refine WL_nil ?_
          refine At_then ?_
          refine WC_cond (Opd.t rfl) (fun hc84 => ?_) (fun hc84 => ?_)
          ·
            replace hm := bif_t hc84 hm
            refine WC_region ?_
            refine WL_op (Run_move (Opd.t rfl)) rfl rfl rfl rfl <| WL_op (Run_add (Opd.t rfl) Opd.c) rfl rfl rfl rfl <| WL_op (Run_assign (Opd.t rfl)) rfl rfl rfl rfl <| ?_
            refine WL_nil ?_
            exact At_join (IntKind.i64.wrap (c30 + 1)) ⟨hm, (hs.re 3 [0, 1, 2] rfl)⟩ rfl
          ·
            replace hm := bif_f hc84 hm
            refine WC_skip ?_
            exact At_join c30 ⟨hm, (hs.re 3 [0, 1, 2] rfl)⟩ rfl
    ·
      replace hm := bif_f hc32 hm
      refine WC_exit ?_
      refine At_then_exit <| At_then_exit <| At_blk_here <| ?_
      refine At_then ?_
      refine WC_seq ?_
      refine WC_region ?_
      refine WL_op (Run_move (Opd.t rfl)) rfl rfl rfl rfl <| WL_op (Run_move (Opd.t rfl)) rfl rfl rfl rfl <| WL_opG rfl rfl rfl rfl guard_pos (Run_move (Opd.t rfl)) rfl rfl rfl <| ?_
      obtain ⟨b85, e86, hm⟩ := letv_some hm
      refine WL_opG rfl rfl rfl rfl guard_pos (Run.eqB (Run_eqI (Opd.g rfl id) Opd.c) e86) rfl rfl rfl <| ?_
      obtain ⟨b87, e88, hm⟩ := letv_some hm
      refine WL_op (Run.eqB (Run_and (Opd.t rfl) (Opd.g rfl id)) e88) rfl rfl rfl rfl <| WL_op (Run_move (Opd.t rfl)) rfl rfl rfl rfl <| WL_opG rfl rfl rfl rfl guard_pos (Run_loadA (vs := [(.int .i64 c23), (sl v25), (.int .i64 c26), (.int .i64 c27), (sl v29)]) Try.underlying29 rfl ti29 (Opd.t rfl) (fun _ => (hs.box (i := 0) rfl).part 0 rfl) rfl) rfl rfl rfl <| ?_
      obtain ⟨r89, hr90, -, hm⟩ := callG_some hm
      refine WL_callG rfl rfl rfl guard_pos (f := 16) (first := []) (cap := []) (xs := [(.tmp 118)]) (vs := [(.agg #[(.int .i64 c23), (sl v25), (.int .i64 c26), (.int .i64 c27), (sl v29)])]) (args := [(.agg #[(.int .i64 c23), (sl v25), (.int .i64 c26), (.int .i64 c27), (sl v29)])]) Try.call16 Opd.f (.cons (Opd.g rfl id) .nil) rfl rfl (fun hg => dfa_Size_ok (d := (c23, c24, c26, c27, c28)) (hs.re 3 [1, 2, 0, 1, 2] rfl) (hr90 hg)) ?_
      intro v92 w91 hv93 hz94
      replace hs := Sat.ofG (fun hg => (hv93 hg).2.re 3 [0, 1, 2] rfl) hz94 hs
      refine WL_sub1 (v := (.int .i64 r89)) (fun hg => (hv93 hg).1) ?_
      replace hs := Sat.n3 (Γ := Φ) hs rfl
      refine WL_opG rfl rfl rfl rfl guard_pos (Run_move (Opd.t rfl)) rfl rfl rfl <| WL_opG rfl rfl rfl rfl guard_pos (Run_add (Opd.g rfl id) Opd.c) rfl rfl rfl <| ?_
      obtain ⟨b95, e96, hm⟩ := letv_some hm
      refine WL_opG rfl rfl rfl rfl guard_pos (Run.eqB (Run_eqI (Opd.g rfl id) (Opd.g rfl id)) e96) rfl rfl rfl <| ?_
      obtain ⟨b97, e98, hm⟩ := letv_some hm
      refine WL_op (Run.eqB (Run_and (Opd.t rfl) (Opd.g rfl id)) e98) rfl rfl rfl rfl <| WL_op (Run_move (Opd.t rfl)) rfl rfl rfl rfl <| WL_opG rfl rfl rfl rfl guard_pos (Run_loadA (vs := [(.int .i64 c23), (sl v25), (.int .i64 c26), (.int .i64 c27), (sl v29)]) Try.underlying29 rfl ti29 (Opd.t rfl) (fun _ => (hs.box (i := 0) rfl).part 0 rfl) rfl) rfl rfl rfl <| ?_
      obtain ⟨r99, hr100, -, hm⟩ := callG_some hm
      refine WL_callG rfl rfl rfl guard_pos (f := 15) (first := []) (cap := []) (xs := [(.tmp 125)]) (vs := [(.agg #[(.int .i64 c23), (sl v25), (.int .i64 c26), (.int .i64 c27), (sl v29)])]) (args := [(.agg #[(.int .i64 c23), (sl v25), (.int .i64 c26), (.int .i64 c27), (sl v29)])]) Try.call15 Opd.f (.cons (Opd.g rfl id) .nil) rfl rfl (fun hg => dfa_Many_ok (d := (c23, c24, c26, c27, c28)) (hs.re 3 [1, 2, 0, 1, 2] rfl) (hr100 hg)) ?_
      intro v102 w101 hv103 hz104
      replace hs := Sat.ofG (fun hg => (hv103 hg).2.re 3 [0, 1, 2] rfl) hz104 hs
      refine WL_sub1 (v := (.int .i64 r99)) (fun hg => (hv103 hg).1) ?_
      replace hs := Sat.n3 (Γ := Φ) hs rfl
      refine WL_opG rfl rfl rfl rfl guard_pos (Run_move (Opd.t rfl)) rfl rfl rfl <| ?_
      obtain ⟨b105, e106, hm⟩ := letv_some hm
      refine WL_opG rfl rfl rfl rfl guard_pos (Run.eqB (Run_eqI (Opd.g rfl id) (Opd.g rfl id)) e106) rfl rfl rfl <| ?_
      obtain ⟨b107, e108, hm⟩ := letv_some hm
      refine WL_op (Run.eqB (Run_and (Opd.t rfl) (Opd.g rfl id)) e108) rfl rfl rfl rfl <| WL_op (Run_assign (Opd.t rfl)) rfl rfl rfl rfl <| ?_
      refine WL_nil ?_
      refine At_then ?_
      refine WC_ret ?_
      refine At_r1 rfl (ResIs.t rfl) ?_
      cases hm
      exact ⟨rfl, (hs.re 3 [] rfl)⟩

end Go.Proofs.Ytjappdgehmjomaa
