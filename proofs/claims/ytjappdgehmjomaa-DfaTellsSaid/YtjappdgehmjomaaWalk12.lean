/- Printed by a program: the walks. -/
import Derived.Test.YtjappdgehmjomaaTypes
import Derived.Test.YtjappdgehmjomaaWalk1
import Derived.Test.YtjappdgehmjomaaWalk2
import Derived.Test.YtjappdgehmjomaaWalk8
import Derived.Test.YtjappdgehmjomaaWalk9
import Derived.Test.YtjappdgehmjomaaWalk10
import Derived.Test.YtjappdgehmjomaaWalk11
namespace Go.Proofs.Ytjappdgehmjomaa
open Go.Proofs

set_option maxRecDepth 100000 in
set_option maxHeartbeats 4000000 in
theorem scrutinylaw09_DfaTells_ok {Φ : Ctx} {w : World} {wide : Int} {l : (List (List Int))} {w3 : (List Int)} {v1 : SLV} {v4 : SLV} {r : Bool} (hs : Sat (imm (RSl (RSl (RI .u8))) [sl v1] l :: imm (RSl (RI .u8)) [sl v4] w3 :: Φ) w) (hm : scrutinylaw09_DfaTells wide l w3 = some r) :
    CallsR Try.prog 3 [(.int .i64 wide), (sl v1), (sl v4)] w (fun v w' => v = (.bool r) ∧ Sat (Φ) w') := by
  refine CallsX_enter Try.func3 rfl Try.ntmps3 rfl ?_
  unfold scrutinylaw09_DfaTells at hm
  refine WC_seq ?_
  refine WC_region ?_
  refine WL_op (Run_assign Opd.c) rfl rfl rfl rfl <| ?_
  refine WL_nil ?_
  refine At_then ?_
  refine WC_seq ?_
  refine WC_region ?_
  obtain ⟨r3, hr4, hm⟩ := bind_some' hm
  refine WL_call (f := 9) (first := []) (cap := []) (xs := []) (vs := []) (args := []) Try.call9 Opd.f .nil rfl rfl (scrutinylaw09_shown_ok (hs.re 2 [0, 1] rfl) hr4) ?_
  rintro _ w5 ⟨rfl, hs⟩
  replace hs := Sat.n2 (Γ := Φ) hs rfl
  refine WL_op (Run_assign (Opd.t rfl)) rfl rfl rfl rfl <| ?_
  refine WL_nil ?_
  refine At_then ?_
  refine WC_seq ?_
  refine WC_seq ?_
  refine WC_region ?_
  refine WL_op (Run_move (Opd.t rfl)) rfl rfl rfl rfl <| ?_
  obtain ⟨r6, hr7, hm⟩ := bind_some' hm
  refine WL_call (f := 10) (first := []) (cap := []) (xs := [(.tmp 20), (.const (.int .i64 40))]) (vs := [(sl v1), (.int .i64 40)]) (args := [(sl v1), (.int .i64 40)]) Try.call10 Opd.f (.cons (Opd.t rfl) (.cons Opd.c .nil)) rfl rfl (scrutinyref09_Few_ok (hs.re 2 [0, 0, 1] rfl) hr7) ?_
  rintro _ w8 ⟨rfl, hs⟩
  replace hs := Sat.n2 (Γ := Φ) hs rfl
  obtain ⟨b9, e10, hm⟩ := letv_some hm
  refine WL_op (Run.eqB (Run_notB (Opd.t rfl)) e10) rfl rfl rfl rfl <| WL_op (Run_move (Opd.t rfl)) rfl rfl rfl rfl <| WL_opG rfl rfl rfl rfl guard_neg (Run_move (Opd.t rfl)) rfl rfl rfl <| WL_opG rfl rfl rfl rfl guard_neg (Run_lenSlG Try.underlying23 (Opd.g rfl id) (fun hg => (hs.sl (i := 1) rfl).len)) rfl rfl rfl <| ?_
  obtain ⟨b11, e12, hm⟩ := letv_some hm
  refine WL_opG rfl rfl rfl rfl guard_neg (Run.eqB (Run_gtI (Opd.g rfl id) Opd.c) e12) rfl rfl rfl <| ?_
  obtain ⟨b13, e14, hm⟩ := letv_some hm
  refine WL_op (Run.eqB (Run_or (Opd.t rfl) (Opd.g rfl id)) e14) rfl rfl rfl rfl <| ?_
  refine WL_nil ?_
  refine At_then ?_
  refine WC_cond (Opd.t rfl) (fun hc15 => ?_) (fun hc15 => ?_)
  ·
    replace hm := bif_t hc15 hm
    refine WC_seq ?_
    refine WC_region ?_
    refine WL_op (Run_move (Opd.t rfl)) rfl rfl rfl rfl <| WL_op (Run_assign (Opd.t rfl)) rfl rfl rfl rfl <| ?_
    refine WL_nil ?_
    refine At_then ?_
    refine WC_ret ?_
    refine At_then_ret <| ?_
    refine At_r1 rfl (ResIs.t rfl) ?_
    cases hm
    exact ⟨rfl, (hs.re 2 [] rfl)⟩
  ·
    replace hm := bif_f hc15 hm
    refine WC_skip ?_
    refine At_then ?_
    refine WC_seq ?_
    refine WC_region ?_
    refine WL_op (Run_move (Opd.t rfl)) rfl rfl rfl rfl <| ?_
    obtain ⟨r16, hr17, hm⟩ := bind_some' hm
    refine WL_call (f := 11) (first := []) (cap := []) (xs := [(.tmp 30)]) (vs := [(.int .i64 wide)]) (args := [(.int .i64 wide)]) Try.call11 Opd.f (.cons (Opd.t rfl) .nil) rfl rfl (dfa_New_ok (hs.re 2 [0, 1] rfl) hr17) ?_
    rintro _ w22 ⟨v18, R19, v20, R21, rfl, hs⟩
    replace hs := Sat.n4 (Γ := Φ) hs rfl
    refine WL_op (Run_move (Opd.t rfl)) rfl rfl rfl rfl <| WL_op (Run_extract (vs := [(.agg #[(.int .i64 r16.1.1), (sl v18), (.int .i64 r16.1.2.2.1), (.int .i64 r16.1.2.2.2.1), (sl v20)]), (.int .i64 r16.2)]) (Opd.t rfl) rfl) rfl rfl rfl rfl <| WL_op (Run_extract (vs := [(.agg #[(.int .i64 r16.1.1), (sl v18), (.int .i64 r16.1.2.2.1), (.int .i64 r16.1.2.2.2.1), (sl v20)]), (.int .i64 r16.2)]) (Opd.t rfl) rfl) rfl rfl rfl rfl <| ?_
    refine WS_alloc (zs := [(.int .i64 0), (sl (none, 0, 0)), (.int .i64 0), (.int .i64 0), (sl (none, 0, 0))]) hs ti29 rfl rfl ?_
    intro b23 w24 hs
    replace hs := Sat.n5 (Γ := Φ) hs rfl
    refine WS_store (us := [(.int .i64 r16.1.1), (sl v18), (.int .i64 r16.1.2.2.1), (.int .i64 r16.1.2.2.2.1), (sl v20)]) (vs' := [(.int .i64 r16.1.1), (sl v18), (.int .i64 r16.1.2.2.1), (.int .i64 r16.1.2.2.2.1), (sl v20)]) hs 0 rfl ti29 (Opd.t rfl) (Opd.t rfl) rfl rfl rfl rfl rfl ?_
    intro w25 hs
    replace hs := Sat.n5 (Γ := Φ) hs rfl
    refine WL_op (Run_assign (Opd.t rfl)) rfl rfl rfl rfl <| ?_
    refine WL_nil ?_
    refine At_then ?_
    refine WC_seq ?_
    refine WC_region ?_
    refine WL_op (Run_move (Opd.t rfl)) rfl rfl rfl rfl <| ?_
    obtain ⟨r26, hr27, hm⟩ := bind_some' hm
    refine WL_call (f := 12) (first := []) (cap := []) (xs := [(.tmp 35)]) (vs := [(.int .i64 wide)]) (args := [(.int .i64 wide)]) Try.call12 Opd.f (.cons (Opd.t rfl) .nil) rfl rfl (scrutinyref09_New_ok (hs.re 5 [0, 1, 2, 3, 4] rfl) hr27) ?_
    rintro _ w30 ⟨v28, R29, rfl, hs⟩
    replace hs := Sat.n6 (Γ := Φ) hs rfl
    refine WL_op (Run_move (Opd.t rfl)) rfl rfl rfl rfl <| WL_op (Run_extract (vs := [(.agg #[(.int .i64 r26.1.1), (sl v28)]), (.int .i64 r26.2)]) (Opd.t rfl) rfl) rfl rfl rfl rfl <| WL_op (Run_extract (vs := [(.agg #[(.int .i64 r26.1.1), (sl v28)]), (.int .i64 r26.2)]) (Opd.t rfl) rfl) rfl rfl rfl rfl <| ?_
    refine WS_alloc (zs := [(.int .i64 0), (sl (none, 0, 0))]) hs ti34 rfl rfl ?_
    intro b31 w32 hs
    replace hs := Sat.n7 (Γ := Φ) hs rfl
    refine WS_store (us := [(.int .i64 r26.1.1), (sl v28)]) (vs' := [(.int .i64 r26.1.1), (sl v28)]) hs 0 rfl ti34 (Opd.t rfl) (Opd.t rfl) rfl rfl rfl rfl rfl ?_
    intro w33 hs
    replace hs := Sat.n7 (Γ := Φ) hs rfl
    refine WL_op (Run_assign (Opd.t rfl)) rfl rfl rfl rfl <| ?_
    refine WL_nil ?_
    refine At_then ?_
    refine WC_seq ?_
    refine WC_seq ?_
    refine WC_region ?_
    refine WL_op (Run_move (Opd.t rfl)) rfl rfl rfl rfl <| WL_op (Run_move (Opd.t rfl)) rfl rfl rfl rfl <| WL_op (Run_neI (Opd.t rfl) (Opd.t rfl)) rfl rfl rfl rfl <| ?_
    refine WL_nil ?_
    refine At_then ?_
    refine WC_cond (Opd.t rfl) (fun hc34 => ?_) (fun hc34 => ?_)
    ·
      replace hm := bif_t hc34 hm
      refine WC_seq ?_
      refine WC_region ?_
      refine WL_op (Run_assign Opd.c) rfl rfl rfl rfl <| ?_
      refine WL_nil ?_
      refine At_then ?_
      refine WC_ret ?_
      refine At_then_ret <| ?_
      refine At_r1 rfl (ResIs.t rfl) ?_
      cases hm
      exact ⟨rfl, (hs.re 7 [] rfl)⟩
    ·
      replace hm := bif_f hc34 hm
      refine WC_skip ?_
      refine At_then ?_
      refine WC_seq ?_
      refine WC_seq ?_
      refine WC_region ?_
      refine WL_op (Run_move (Opd.t rfl)) rfl rfl rfl rfl <| WL_op (Run_neI (Opd.t rfl) Opd.c) rfl rfl rfl rfl <| ?_
      refine WL_nil ?_
      refine At_then ?_
      refine WC_cond (Opd.t rfl) (fun hc35 => ?_) (fun hc35 => ?_)
      ·
        replace hm := bif_t hc35 hm
        refine WC_seq ?_
        refine WC_region ?_
        refine WL_op (Run_move (Opd.t rfl)) rfl rfl rfl rfl <| WL_op (Run_assign (Opd.t rfl)) rfl rfl rfl rfl <| ?_
        refine WL_nil ?_
        refine At_then ?_
        refine WC_ret ?_
        refine At_then_ret <| ?_
        refine At_r1 rfl (ResIs.t rfl) ?_
        cases hm
        exact ⟨rfl, (hs.re 7 [] rfl)⟩
      ·
        replace hm := bif_f hc35 hm
        refine WC_skip ?_
        refine At_then ?_
        refine WC_seq ?_
        refine WC_seq ?_
        refine WC_region ?_
        refine WL_op (Run_assign Opd.c) rfl rfl rfl rfl <| ?_
        refine WL_nil ?_
        refine At_then ?_
        refine WC_block ?_
        replace hs := hs.freeze (i := 3) rfl
        replace hs := hs.freeze (i := 4) rfl
        replace hs := hs.freeze (i := 1) rfl
        refine WC_loop (σ := Int × (List ((List (Int × Int)) × Int)) × Int × Int × (List Int) × Int × (List (List Int)) × Int) (γ := SLV × SLV × SLV) (F := (scrutinylaw09_DfaTells_L1 l w3 r3)) (N := FUEL) (s0 := (r16.1.1, r16.1.2.1, r16.1.2.2.1, r16.1.2.2.2.1, r16.1.2.2.2.2, r26.1.1, r26.1.2, 0)) (r := r) (fun ⟨c37, c38, c40, c41, c42, c44, c45, i47⟩ ⟨v39, v43, v46⟩ w36 => Sat (imm (RSl (RSl (RI .u8))) [sl v1] l :: imm (RSl (RI .u8)) [sl v4] w3 :: box b23 29 [(.int .i64 c37), (sl v39), (.int .i64 c40), (.int .i64 c41), (sl v43)] :: imm (RSl (RP (RSl (RP (RI .u8) (RI .i64))) (RI .i64))) [sl v39] c38 :: imm (RSl (RI .i64)) [sl v43] c42 :: box b31 34 [(.int .i64 c44), (sl v46)] :: imm (RSl (RSl (RI .u8))) [sl v46] c45 :: Φ) w36) (fun ⟨c37, c38, c40, c41, c42, c44, c45, i47⟩ ⟨v39, v43, v46⟩ => [(1, true, (sl v1)), (2, true, (sl v4)), (7, true, (.bool r3)), (8, true, (.pointer (some ⟨b23, 0, none⟩))), (10, true, (.pointer (some ⟨b31, 0, none⟩))), (12, true, (.int .i64 i47))]) hm (v18, v20, v28) (hs.re 7 [5, 6, 2, 3, 4, 0, 1] rfl) rfl ?_
        rintro again48 ⟨c37, c38, c40, c41, c42, c44, c45, i47⟩ ⟨v39, v43, v46⟩ w36 hm hs
        unfold scrutinylaw09_DfaTells_L1 at hm
        dsimp only at hm
        refine WC_seq ?_
        refine WC_seq ?_
        refine WC_region ?_
        refine WL_op (Run_move (Opd.t rfl)) rfl rfl rfl rfl <| WL_op (Run_move (Opd.t rfl)) rfl rfl rfl rfl <| WL_op (Run_lenSlG Try.underlying22 (Opd.t rfl) (fun hg => (hs.sl (i := 0) rfl).len)) rfl rfl rfl rfl <| WL_op (Run_ltI (Opd.t rfl) (Opd.t rfl)) rfl rfl rfl rfl <| ?_
        refine WL_nil ?_
        refine At_then ?_
        refine WC_cond (Opd.t rfl) (fun hc49 => ?_) (fun hc49 => ?_)
        ·
          replace hm := bif_t hc49 hm
          refine WC_skip ?_
          refine At_then ?_
          refine WC_seq ?_
          refine WC_block ?_
          refine WC_seq ?_
          refine WC_region_mixed [0, 0, 0, 6, 8, 17, 32, 64, 64, 64, 0, 1279, 3583, 8191] (.q 0 0 (.q 1 1 (.q 2 3 (.q 3 7 (.q 4 15 (.l2 31 5 (.q 6 63 (.q 7 127 (.q 8 255 (.q 9 511 (.l 10 1023 (.l 11 2047 (.q 12 4095 (.q 13 8191 .nil)))))))) 10 (.l 5 1055 (.q 6 1087 (.q 7 1151 (.q 8 1279 (.q 9 1535 (.l 11 2047 (.q 12 4095 (.q 13 8191 .nil)))))))))))))) (by kernel_rfl) (by kernel_rfl) ?_
          intro w50 hx51
          replace hs := hs.ext hx51
          refine WD_op (fun w => CellsAt w ⟨b23, 0, none⟩ [(.int .i64 c37), (sl v39), (.int .i64 c40), (.int .i64 c41), (sl v43)]) ((hs.box (i := 2) rfl).part 0 rfl) (fun _ hJ => (Run_loadA (vs := [(.int .i64 c37), (sl v39), (.int .i64 c40), (.int .i64 c41), (sl v43)]) Try.underlying29 rfl ti29 (Opd.t rfl) (fun _ => hJ) rfl)) rfl rfl rfl rfl <| WD_pure (fun _ => (Run_move (Opd.t rfl))) rfl rfl rfl rfl <| WD_pure (fun _ => (Run_move (Opd.t rfl))) rfl rfl rfl rfl <| ?_
          obtain ⟨e52, he53, hm⟩ := bind_some' hm
          obtain ⟨v54, hC55, hN56, hR57⟩ := cellsM23 (g := true) (fun hg => (hs.sl (i := 0) rfl)) (fun hg => he53)
          replace hs := hs.addL [elem true (elA (sl v1) i47 1) [(sl v54)], imm (RSl (RI .u8)) [sl v54] e52] rfl ⟨fun hg => ⟨hN56 hg, hC55 hg⟩, ⟨_, rfl, hR57 rfl⟩, trivial⟩
          replace hs := Sat.n9 (Γ := Φ) hs rfl
          refine WD_pure (fun _ => (Run_idxAddr (p := (elA (sl v1) i47 1)) Try.underlying22 ti23 (Opd.t rfl) (Opd.t rfl) (fun hg => (SRd.atA (A := (RSl (RI .u8))) (v := (sl v1)) (hs.sl (i := 2) rfl) he53).1))) rfl rfl rfl rfl <| WD_op (fun w => true = true → CellsAt w (elA (sl v1) i47 1) [(sl v54)]) (fun hg => ((hs.elem (i := 0) rfl) hg).sub 0 rfl) (fun _ hJ => (Run_load1 (v := (sl v54)) Try.underlying23 rfl (Opd.t rfl) hJ)) rfl rfl rfl rfl <| ?_
          refine WD_loud2 ?_ ?_
          ·
            refine WD_loud (pend' := []) rfl (by kernel_rfl) ?_
            obtain ⟨r58, hr59, hm⟩ := bind_some' hm
            refine WL_call (f := 13) (first := []) (cap := []) (xs := [(.tmp 52), (.tmp 56)]) (vs := [(.agg #[(.int .i64 c37), (sl v39), (.int .i64 c40), (.int .i64 c41), (sl v43)]), (sl v54)]) (args := [(.agg #[(.int .i64 c37), (sl v39), (.int .i64 c40), (.int .i64 c41), (sl v43)]), (sl v54)]) Try.call13 Opd.f (.cons (Opd.t rfl) (.cons (Opd.t rfl) .nil)) rfl rfl (dfa_Insert_ok (d := (c37, c38, c40, c41, c42)) (hs.re 9 [5, 6, 1, 0, 1, 2, 3, 4, 5, 6, 7, 8] rfl) hr59) ?_
            rintro _ w62 ⟨v60, v61, rfl, hs⟩
            replace hs := Sat.n11 (Γ := Φ) hs rfl
            refine WL_nil ?_
            refine At_QK allJ_nil ?_
            refine WD_pure (fun _ => (Run_move (Opd.t rfl))) rfl rfl rfl rfl <| WD_pure (fun _ => (Run_extract (vs := [(.agg #[(.int .i64 r58.1.1), (sl v60), (.int .i64 r58.1.2.2.1), (.int .i64 r58.1.2.2.2.1), (sl v61)]), (.bool r58.2.1), (.int .i64 r58.2.2)]) (Opd.t rfl) rfl)) rfl rfl rfl rfl <| WD_pure (fun _ => (Run_extract (vs := [(.agg #[(.int .i64 r58.1.1), (sl v60), (.int .i64 r58.1.2.2.1), (.int .i64 r58.1.2.2.2.1), (sl v61)]), (.bool r58.2.1), (.int .i64 r58.2.2)]) (Opd.t rfl) rfl)) rfl rfl rfl rfl <| WD_pure (fun _ => (Run_extract (vs := [(.agg #[(.int .i64 r58.1.1), (sl v60), (.int .i64 r58.1.2.2.1), (.int .i64 r58.1.2.2.2.1), (sl v61)]), (.bool r58.2.1), (.int .i64 r58.2.2)]) (Opd.t rfl) rfl)) rfl rfl rfl rfl <| ?_
            refine WD_loud (pend' := []) rfl (by kernel_rfl) ?_
            refine WS_alloc (zs := [(.int .i64 0), (sl (none, 0, 0)), (.int .i64 0), (.int .i64 0), (sl (none, 0, 0))]) hs ti29 rfl rfl ?_
            intro b63 w64 hs
            replace hs := Sat.n12 (Γ := Φ) hs rfl
            refine WL_nil ?_
            refine At_QK allJ_nil ?_
            refine WD_loud (pend' := []) rfl (by kernel_rfl) ?_
            refine WS_store (us := [(.int .i64 r58.1.1), (sl v60), (.int .i64 r58.1.2.2.1), (.int .i64 r58.1.2.2.2.1), (sl v61)]) (vs' := [(.int .i64 r58.1.1), (sl v60), (.int .i64 r58.1.2.2.1), (.int .i64 r58.1.2.2.2.1), (sl v61)]) hs 0 rfl ti29 (Opd.t rfl) (Opd.t rfl) rfl rfl rfl rfl rfl ?_
            intro w65 hs
            replace hs := Sat.n12 (Γ := Φ) hs rfl
            refine WL_nil ?_
            refine At_QK allJ_nil ?_
            refine WD_pure (fun _ => (Run_assign (Opd.t rfl))) rfl rfl rfl rfl <| WD_pure (fun _ => (Run_assign (Opd.t rfl))) rfl rfl rfl rfl <| ?_
            refine WD_nil ?_
            refine At_then ?_
            refine WC_seq ?_
            refine WC_region_mixed [0, 0, 0, 6, 8, 17, 32, 64, 64, 64, 0, 1279, 3583, 8191] (.q 0 0 (.q 1 1 (.q 2 3 (.q 3 7 (.q 4 15 (.l2 31 5 (.q 6 63 (.q 7 127 (.q 8 255 (.q 9 511 (.l 10 1023 (.l 11 2047 (.q 12 4095 (.q 13 8191 .nil)))))))) 10 (.l 5 1055 (.q 6 1087 (.q 7 1151 (.q 8 1279 (.q 9 1535 (.l 11 2047 (.q 12 4095 (.q 13 8191 .nil)))))))))))))) (by kernel_rfl) (by kernel_rfl) ?_
            intro w66 hx67
            replace hs := hs.ext hx67
            refine WD_op (fun w => CellsAt w ⟨b31, 0, none⟩ [(.int .i64 c44), (sl v46)]) ((hs.box (i := 10) rfl).part 0 rfl) (fun _ hJ => (Run_loadA (vs := [(.int .i64 c44), (sl v46)]) Try.underlying34 rfl ti34 (Opd.t rfl) (fun _ => hJ) rfl)) rfl rfl rfl rfl <| WD_pure (fun _ => (Run_move (Opd.t rfl))) rfl rfl rfl rfl <| WD_pure (fun _ => (Run_move (Opd.t rfl))) rfl rfl rfl rfl <| ?_
            obtain ⟨e68, he69, hm⟩ := bind_some' hm
            obtain ⟨v70, hC71, hN72, hR73⟩ := cellsM23 (g := true) (fun hg => (hs.sl (i := 5) rfl)) (fun hg => he69)
            replace hs := hs.addL [elem true (elA (sl v1) i47 1) [(sl v70)], imm (RSl (RI .u8)) [sl v70] e68] rfl ⟨fun hg => ⟨hN72 hg, hC71 hg⟩, ⟨_, rfl, hR73 rfl⟩, trivial⟩
            replace hs := Sat.n14 (Γ := Φ) hs rfl
            refine WD_pure (fun _ => (Run_idxAddr (p := (elA (sl v1) i47 1)) Try.underlying22 ti23 (Opd.t rfl) (Opd.t rfl) (fun hg => (SRd.atA (A := (RSl (RI .u8))) (v := (sl v1)) (hs.sl (i := 7) rfl) he69).1))) rfl rfl rfl rfl <| WD_op (fun w => true = true → CellsAt w (elA (sl v1) i47 1) [(sl v70)]) (fun hg => ((hs.elem (i := 0) rfl) hg).sub 0 rfl) (fun _ hJ => (Run_load1 (v := (sl v70)) Try.underlying23 rfl (Opd.t rfl) hJ)) rfl rfl rfl rfl <| ?_
            refine WD_loud2 ?_ ?_
            ·
              refine WD_loud (pend' := []) rfl (by kernel_rfl) ?_
              obtain ⟨r74, hr75, hm⟩ := bind_some' hm
              refine WL_call (f := 14) (first := []) (cap := []) (xs := [(.tmp 62), (.tmp 66)]) (vs := [(.agg #[(.int .i64 c44), (sl v46)]), (sl v70)]) (args := [(.agg #[(.int .i64 c44), (sl v46)]), (sl v70)]) Try.call14 Opd.f (.cons (Opd.t rfl) (.cons (Opd.t rfl) .nil)) rfl rfl (scrutinyref09_Insert_ok (s := (c44, c45)) (hs.re 14 [13, 1, 0, 1, 2, 3, 4, 5, 6, 7, 8, 9, 10, 11, 12, 13] rfl) hr75) ?_
              rintro _ w77 ⟨v76, rfl, hs⟩
              replace hs := Sat.n15 (Γ := Φ) hs rfl
              refine WL_nil ?_
              refine At_QK allJ_nil ?_
              refine WD_pure (fun _ => (Run_move (Opd.t rfl))) rfl rfl rfl rfl <| WD_pure (fun _ => (Run_extract (vs := [(.agg #[(.int .i64 r74.1.1), (sl v76)]), (.bool r74.2.1), (.int .i64 r74.2.2)]) (Opd.t rfl) rfl)) rfl rfl rfl rfl <| WD_pure (fun _ => (Run_extract (vs := [(.agg #[(.int .i64 r74.1.1), (sl v76)]), (.bool r74.2.1), (.int .i64 r74.2.2)]) (Opd.t rfl) rfl)) rfl rfl rfl rfl <| WD_pure (fun _ => (Run_extract (vs := [(.agg #[(.int .i64 r74.1.1), (sl v76)]), (.bool r74.2.1), (.int .i64 r74.2.2)]) (Opd.t rfl) rfl)) rfl rfl rfl rfl <| ?_
              refine WD_loud (pend' := []) rfl (by kernel_rfl) ?_
              refine WS_alloc (zs := [(.int .i64 0), (sl (none, 0, 0))]) hs ti34 rfl rfl ?_
              intro b78 w79 hs
              replace hs := Sat.n16 (Γ := Φ) hs rfl
              refine WL_nil ?_
              refine At_QK allJ_nil ?_
              refine WD_loud (pend' := []) rfl (by kernel_rfl) ?_
              refine WS_store (us := [(.int .i64 r74.1.1), (sl v76)]) (vs' := [(.int .i64 r74.1.1), (sl v76)]) hs 0 rfl ti34 (Opd.t rfl) (Opd.t rfl) rfl rfl rfl rfl rfl ?_
              intro w80 hs
              replace hs := Sat.n16 (Γ := Φ) hs rfl
              refine WL_nil ?_
              refine At_QK allJ_nil ?_
              refine WD_pure (fun _ => (Run_assign (Opd.t rfl))) rfl rfl rfl rfl <| WD_pure (fun _ => (Run_assign (Opd.t rfl))) rfl rfl rfl rfl <| ?_
              refine WD_nil ?_
              refine At_then ?_
              refine WC_seq ?_
              refine WC_seq ?_
              refine WC_region_mixed [0, 0, 3, 4, 8, 8, 56, 72, 136, 256, 768, 256, 2304, 4352, 9472, 16640, 33792, 65536, 196608, 65536, 851968, 1376256, 2162688] (.q 0 0 (.q 1 1 (.q 2 3 (.q 3 7 (.q 4 15 (.q 5 31 (.q 6 63 (.q 7 127 (.q 8 255 (.q 9 511 (.q 11 1023 (.q 12 3071 (.q 13 7167 (.l 10 15359 (.q 14 16383 (.q 15 32767 (.q 16 65535 (.q 17 131071 (.q 19 262143 (.l 18 786431 (.l 20 1048575 (.q 21 2097151 (.q 22 4194303 .nil))))))))))))))))))))))) (by kernel_rfl) (by kernel_rfl) ?_
              intro w81 hx82
              replace hs := hs.ext hx82
              refine WD_pure (fun _ => (Run_move (Opd.t rfl))) rfl rfl rfl rfl <| WD_pure (fun _ => (Run_move (Opd.t rfl))) rfl rfl rfl rfl <| ?_
              obtain ⟨b83, e84, hm⟩ := letv_some hm
              refine WD_pure (fun _ => (Run.eqB (Run_neB Try.underlying4 (Opd.t rfl) (Opd.t rfl)) e84)) rfl rfl rfl rfl <| WD_pure (fun _ => (Run_move (Opd.t rfl))) rfl rfl rfl rfl <| WD_pureG rfl rfl rfl rfl guard_neg (fun _ => (Run_move (Opd.t rfl))) rfl rfl rfl <| WD_pureG rfl rfl rfl rfl guard_neg (fun _ => (Run_move (Opd.t rfl))) rfl rfl rfl <| ?_
              obtain ⟨b85, e86, hm⟩ := letv_some hm
              refine WD_pureG rfl rfl rfl rfl guard_neg (fun _ => (Run.eqB (Run_neI (Opd.g rfl id) (Opd.g rfl id)) e86)) rfl rfl rfl <| ?_
              obtain ⟨b87, e88, hm⟩ := letv_some hm
              refine WD_pure (fun _ => (Run.eqB (Run_or (Opd.t rfl) (Opd.g rfl id)) e88)) rfl rfl rfl rfl <| WD_pure (fun _ => (Run_move (Opd.t rfl))) rfl rfl rfl rfl <| WD_opG (fun w => CellsAt w ⟨b63, 0, none⟩ [(.int .i64 r58.1.1), (sl v60), (.int .i64 r58.1.2.2.1), (.int .i64 r58.1.2.2.2.1), (sl v61)]) ((hs.box (i := 4) rfl).part 0 rfl) rfl rfl rfl rfl guard_neg (fun _ hJ => (Run_loadA (vs := [(.int .i64 r58.1.1), (sl v60), (.int .i64 r58.1.2.2.1), (.int .i64 r58.1.2.2.2.1), (sl v61)]) Try.underlying29 rfl ti29 (Opd.t rfl) (fun _ => hJ) rfl)) rfl rfl rfl <| WD_pureG rfl rfl rfl rfl guard_neg (fun _ => (Run_fieldAddr fo34_1 (Opd.t rfl))) rfl rfl rfl <| WD_opG (fun w => CellsAt w ⟨b78, 1, none⟩ [(sl v76)]) ((hs.box (i := 0) rfl).part 1 rfl) rfl rfl rfl rfl guard_neg (fun _ hJ => (Run_load1 (v := (sl v76)) Try.underlying22 rfl (Opd.g rfl id) (fun _ => hJ))) rfl rfl rfl <| WD_pureG rfl rfl rfl rfl guard_neg (fun _ => (Run_lenSlG Try.underlying22 (Opd.g rfl id) (fun hg => (hs.sl (i := 1) rfl).len))) rfl rfl rfl <| ?_
              refine WD_loud (pend' := [(12, fun w => CellsAt w ⟨b78, 1, none⟩ [(sl v76)])]) rfl (by kernel_rfl) ?_
              obtain ⟨r89, hr90, -, hm⟩ := callG_some hm
              refine WL_callG rfl rfl rfl guard_neg (f := 15) (first := []) (cap := []) (xs := [(.tmp 80)]) (vs := [(.agg #[(.int .i64 r58.1.1), (sl v60), (.int .i64 r58.1.2.2.1), (.int .i64 r58.1.2.2.2.1), (sl v61)])]) (args := [(.agg #[(.int .i64 r58.1.1), (sl v60), (.int .i64 r58.1.2.2.1), (.int .i64 r58.1.2.2.2.1), (sl v61)])]) Try.call15 Opd.f (.cons (Opd.g rfl id) .nil) rfl rfl (fun hg => dfa_Many_ok (hs.re 16 [5, 6, 0, 1, 2, 3, 4, 5, 6, 7, 8, 9, 10, 11, 12, 13, 14, 15] rfl) (hr90 hg)) ?_
              intro v92 w91 hv93 hz94
              replace hs := Sat.ofG (fun hg => (hv93 hg).2.re 16 [0, 1, 2, 3, 4, 5, 6, 7, 8, 9, 10, 11, 12, 13, 14, 15] rfl) hz94 hs
              refine WL_sub1 (v := (.int .i64 r89)) (fun hg => (hv93 hg).1) ?_
              replace hs := Sat.n16 (Γ := Φ) hs rfl
              refine WL_nil ?_
              refine At_QK (allJ_cons ((hs.box (i := 0) rfl).part 1 rfl) allJ_nil) ?_
              obtain ⟨b95, e96, hm⟩ := letv_some hm
              refine WD_pureG rfl rfl rfl rfl guard_neg (fun _ => (Run.eqB (Run_neI (Opd.g rfl id) (Opd.g rfl id)) e96)) rfl rfl rfl <| ?_
              obtain ⟨b97, e98, hm⟩ := letv_some hm
              refine WD_pure (fun _ => (Run.eqB (Run_or (Opd.t rfl) (Opd.g rfl id)) e98)) rfl rfl rfl rfl <| WD_pure (fun _ => (Run_move (Opd.t rfl))) rfl rfl rfl rfl <| WD_opG (fun w => CellsAt w ⟨b63, 0, none⟩ [(.int .i64 r58.1.1), (sl v60), (.int .i64 r58.1.2.2.1), (.int .i64 r58.1.2.2.2.1), (sl v61)]) ((hs.box (i := 4) rfl).part 0 rfl) rfl rfl rfl rfl guard_neg (fun _ hJ => (Run_loadA (vs := [(.int .i64 r58.1.1), (sl v60), (.int .i64 r58.1.2.2.1), (.int .i64 r58.1.2.2.2.1), (sl v61)]) Try.underlying29 rfl ti29 (Opd.t rfl) (fun _ => hJ) rfl)) rfl rfl rfl <| WD_opG (fun w => CellsAt w ⟨b78, 0, none⟩ [(.int .i64 r74.1.1), (sl v76)]) ((hs.box (i := 0) rfl).part 0 rfl) rfl rfl rfl rfl guard_neg (fun _ hJ => (Run_loadA (vs := [(.int .i64 r74.1.1), (sl v76)]) Try.underlying34 rfl ti34 (Opd.t rfl) (fun _ => hJ) rfl)) rfl rfl rfl <| ?_
              refine WD_loud (pend' := [(19, fun w => CellsAt w ⟨b78, 0, none⟩ [(.int .i64 r74.1.1), (sl v76)]), (12, fun w => CellsAt w ⟨b78, 1, none⟩ [(sl v76)])]) rfl (by kernel_rfl) ?_
              obtain ⟨r99, hr100, -, hm⟩ := callG_some hm
              refine WL_callG rfl rfl rfl guard_neg (f := 16) (first := []) (cap := []) (xs := [(.tmp 88)]) (vs := [(.agg #[(.int .i64 r58.1.1), (sl v60), (.int .i64 r58.1.2.2.1), (.int .i64 r58.1.2.2.2.1), (sl v61)])]) (args := [(.agg #[(.int .i64 r58.1.1), (sl v60), (.int .i64 r58.1.2.2.1), (.int .i64 r58.1.2.2.2.1), (sl v61)])]) Try.call16 Opd.f (.cons (Opd.g rfl id) .nil) rfl rfl (fun hg => dfa_Size_ok (hs.re 16 [5, 6, 0, 1, 2, 3, 4, 5, 6, 7, 8, 9, 10, 11, 12, 13, 14, 15] rfl) (hr100 hg)) ?_
              intro v102 w101 hv103 hz104
              replace hs := Sat.ofG (fun hg => (hv103 hg).2.re 16 [0, 1, 2, 3, 4, 5, 6, 7, 8, 9, 10, 11, 12, 13, 14, 15] rfl) hz104 hs
              refine WL_sub1 (v := (.int .i64 r99)) (fun hg => (hv103 hg).1) ?_
              replace hs := Sat.n16 (Γ := Φ) hs rfl
              refine WL_nil ?_
              refine At_QK (allJ_cons ((hs.box (i := 0) rfl).part 0 rfl) (allJ_cons ((hs.box (i := 0) rfl).part 1 rfl) allJ_nil)) ?_
              refine WD_loud (pend' := [(12, fun w => CellsAt w ⟨b78, 1, none⟩ [(sl v76)])]) rfl (by kernel_rfl) ?_
              obtain ⟨r105, hr106, -, hm⟩ := callG_some hm
              refine WL_callG rfl rfl rfl guard_neg (f := 17) (first := []) (cap := []) (xs := [(.tmp 90)]) (vs := [(.agg #[(.int .i64 r74.1.1), (sl v76)])]) (args := [(.agg #[(.int .i64 r74.1.1), (sl v76)])]) Try.call17 Opd.f (.cons (Opd.g rfl id) .nil) rfl rfl (fun hg => scrutinyref09_Size_ok (hs.re 16 [1, 0, 1, 2, 3, 4, 5, 6, 7, 8, 9, 10, 11, 12, 13, 14, 15] rfl) (hr106 hg)) ?_
              intro v108 w107 hv109 hz110
              replace hs := Sat.ofG (fun hg => (hv109 hg).2.re 16 [0, 1, 2, 3, 4, 5, 6, 7, 8, 9, 10, 11, 12, 13, 14, 15] rfl) hz110 hs
              refine WL_sub1 (v := (.int .i64 r105)) (fun hg => (hv109 hg).1) ?_
              replace hs := Sat.n16 (Γ := Φ) hs rfl
              refine WL_nil ?_
              refine At_QK (allJ_cons ((hs.box (i := 0) rfl).part 1 rfl) allJ_nil) ?_
              obtain ⟨b111, e112, hm⟩ := letv_some hm
              refine WD_pureG rfl rfl rfl rfl guard_neg (fun _ => (Run.eqB (Run_neI (Opd.g rfl id) (Opd.g rfl id)) e112)) rfl rfl rfl <| ?_
              obtain ⟨b113, e114, hm⟩ := letv_some hm
              refine WD_pure (fun _ => (Run.eqB (Run_or (Opd.t rfl) (Opd.g rfl id)) e114)) rfl rfl rfl rfl <| ?_
              refine WD_nil ?_
              refine At_then ?_
              refine WC_cond (Opd.t rfl) (fun hc115 => ?_) (fun hc115 => ?_)
              ·
                replace hm := bif_t hc115 hm
                refine WC_seq ?_
                refine WC_region ?_
                refine WL_op (Run_assign Opd.c) rfl rfl rfl rfl <| ?_
                refine WL_nil ?_
                refine At_then ?_
                refine WC_ret ?_
                refine At_then_ret <| At_blk_ret <| At_then_ret <| At_then_ret <| At_blk_ret <| At_then_ret <| ?_
                refine At_r1 rfl (ResIs.t rfl) ?_
                cases hm
                exact ⟨rfl, (hs.re 16 [] rfl)⟩
              ·
                replace hm := bif_f hc115 hm
                refine WC_skip ?_
                refine At_then ?_
                refine WC_seq ?_
                refine WC_region ?_
                refine WL_op (Run_loadA (vs := [(.int .i64 r58.1.1), (sl v60), (.int .i64 r58.1.2.2.1), (.int .i64 r58.1.2.2.2.1), (sl v61)]) Try.underlying29 rfl ti29 (Opd.t rfl) (fun _ => (hs.box (i := 4) rfl).part 0 rfl) rfl) rfl rfl rfl rfl <| ?_
                refine WS_store (us := [(.int .i64 r58.1.1), (sl v60), (.int .i64 r58.1.2.2.1), (.int .i64 r58.1.2.2.2.1), (sl v61)]) (vs' := [(.int .i64 r58.1.1), (sl v60), (.int .i64 r58.1.2.2.1), (.int .i64 r58.1.2.2.2.1), (sl v61)]) hs 11 rfl ti29 (Opd.t rfl) (Opd.t rfl) rfl rfl rfl rfl rfl ?_
                intro w116 hs
                replace hs := Sat.n16 (Γ := Φ) hs rfl
                refine WL_nil ?_
                refine At_then ?_
                refine WC_region ?_
                refine WL_op (Run_loadA (vs := [(.int .i64 r74.1.1), (sl v76)]) Try.underlying34 rfl ti34 (Opd.t rfl) (fun _ => (hs.box (i := 0) rfl).part 0 rfl) rfl) rfl rfl rfl rfl <| ?_
                refine WS_store (us := [(.int .i64 r74.1.1), (sl v76)]) (vs' := [(.int .i64 r74.1.1), (sl v76)]) hs 14 rfl ti34 (Opd.t rfl) (Opd.t rfl) rfl rfl rfl rfl rfl ?_
                intro w117 hs
                replace hs := Sat.n16 (Γ := Φ) hs rfl
                refine WL_nil ?_
                refine At_blk_normal ?_
                refine At_then ?_
                refine WC_region ?_
                refine WL_op (Run_move (Opd.t rfl)) rfl rfl rfl rfl <| WL_op (Run_add (Opd.t rfl) Opd.c) rfl rfl rfl rfl <| WL_op (Run_assign (Opd.t rfl)) rfl rfl rfl rfl <| ?_
                refine WL_nil ?_
                exact At_again (r58.1.1, r58.1.2.1, r58.1.2.2.1, r58.1.2.2.2.1, r58.1.2.2.2.2, r74.1.1, r74.1.2, (IntKind.i64.wrap (i47 + 1))) (v60, v61, v76) hm (hs.re 16 [9, 10, 11, 5, 6, 14, 1] rfl) rfl
            ·
              refine WD_loud (pend' := [(4, fun w => true = true → CellsAt w (elA (sl v1) i47 1) [(sl v70)]), (0, fun w => CellsAt w ⟨b31, 0, none⟩ [(.int .i64 c44), (sl v46)])]) rfl (by kernel_rfl) ?_
              refine WS_alloc (zs := [(.int .i64 0), (sl (none, 0, 0))]) hs ti34 rfl rfl ?_
              intro b118 w119 hs
              replace hs := Sat.n15 (Γ := Φ) hs rfl
              refine WL_nil ?_
              refine At_QK (allJ_cons (fun hg => ((hs.elem (i := 1) rfl) hg).sub 0 rfl) (allJ_cons ((hs.box (i := 13) rfl).part 0 rfl) allJ_nil)) ?_
              refine WD_loud (pend' := []) rfl (by kernel_rfl) ?_
              obtain ⟨r120, hr121, hm⟩ := bind_some' hm
              refine WL_call (f := 14) (first := []) (cap := []) (xs := [(.tmp 62), (.tmp 66)]) (vs := [(.agg #[(.int .i64 c44), (sl v46)]), (sl v70)]) (args := [(.agg #[(.int .i64 c44), (sl v46)]), (sl v70)]) Try.call14 Opd.f (.cons (Opd.t rfl) (.cons (Opd.t rfl) .nil)) rfl rfl (scrutinyref09_Insert_ok (s := (c44, c45)) (hs.re 15 [14, 2, 0, 1, 2, 3, 4, 5, 6, 7, 8, 9, 10, 11, 12, 13, 14] rfl) hr121) ?_
              rintro _ w123 ⟨v122, rfl, hs⟩
              replace hs := Sat.n16 (Γ := Φ) hs rfl
              refine WL_nil ?_
              refine At_QK allJ_nil ?_
              refine WD_pure (fun _ => (Run_move (Opd.t rfl))) rfl rfl rfl rfl <| WD_pure (fun _ => (Run_extract (vs := [(.agg #[(.int .i64 r120.1.1), (sl v122)]), (.bool r120.2.1), (.int .i64 r120.2.2)]) (Opd.t rfl) rfl)) rfl rfl rfl rfl <| WD_pure (fun _ => (Run_extract (vs := [(.agg #[(.int .i64 r120.1.1), (sl v122)]), (.bool r120.2.1), (.int .i64 r120.2.2)]) (Opd.t rfl) rfl)) rfl rfl rfl rfl <| WD_pure (fun _ => (Run_extract (vs := [(.agg #[(.int .i64 r120.1.1), (sl v122)]), (.bool r120.2.1), (.int .i64 r120.2.2)]) (Opd.t rfl) rfl)) rfl rfl rfl rfl <| ?_
              refine WD_loud (pend' := []) rfl (by kernel_rfl) ?_
              refine WS_store (us := [(.int .i64 r120.1.1), (sl v122)]) (vs' := [(.int .i64 r120.1.1), (sl v122)]) hs 1 rfl ti34 (Opd.t rfl) (Opd.t rfl) rfl rfl rfl rfl rfl ?_
              intro w124 hs
              replace hs := Sat.n16 (Γ := Φ) hs rfl
              refine WL_nil ?_
              refine At_QK allJ_nil ?_
              refine WD_pure (fun _ => (Run_assign (Opd.t rfl))) rfl rfl rfl rfl <| WD_pure (fun _ => (Run_assign (Opd.t rfl))) rfl rfl rfl rfl <| ?_
              refine WD_nil ?_
              refine At_then ?_
              refine WC_seq ?_
              refine WC_seq ?_
              refine WC_region_mixed [0, 0, 3, 4, 8, 8, 56, 72, 136, 256, 768, 256, 2304, 4352, 9472, 16640, 33792, 65536, 196608, 65536, 851968, 1376256, 2162688] (.q 0 0 (.q 1 1 (.q 2 3 (.q 3 7 (.q 4 15 (.q 5 31 (.q 6 63 (.q 7 127 (.q 8 255 (.q 9 511 (.q 11 1023 (.q 12 3071 (.q 13 7167 (.l 10 15359 (.q 14 16383 (.q 15 32767 (.q 16 65535 (.q 17 131071 (.q 19 262143 (.l 18 786431 (.l 20 1048575 (.q 21 2097151 (.q 22 4194303 .nil))))))))))))))))))))))) (by kernel_rfl) (by kernel_rfl) ?_
              intro w125 hx126
              replace hs := hs.ext hx126
              refine WD_pure (fun _ => (Run_move (Opd.t rfl))) rfl rfl rfl rfl <| WD_pure (fun _ => (Run_move (Opd.t rfl))) rfl rfl rfl rfl <| ?_
              obtain ⟨b127, e128, hm⟩ := letv_some hm
              refine WD_pure (fun _ => (Run.eqB (Run_neB Try.underlying4 (Opd.t rfl) (Opd.t rfl)) e128)) rfl rfl rfl rfl <| WD_pure (fun _ => (Run_move (Opd.t rfl))) rfl rfl rfl rfl <| WD_pureG rfl rfl rfl rfl guard_neg (fun _ => (Run_move (Opd.t rfl))) rfl rfl rfl <| WD_pureG rfl rfl rfl rfl guard_neg (fun _ => (Run_move (Opd.t rfl))) rfl rfl rfl <| ?_
              obtain ⟨b129, e130, hm⟩ := letv_some hm
              refine WD_pureG rfl rfl rfl rfl guard_neg (fun _ => (Run.eqB (Run_neI (Opd.g rfl id) (Opd.g rfl id)) e130)) rfl rfl rfl <| ?_
              obtain ⟨b131, e132, hm⟩ := letv_some hm
              refine WD_pure (fun _ => (Run.eqB (Run_or (Opd.t rfl) (Opd.g rfl id)) e132)) rfl rfl rfl rfl <| WD_pure (fun _ => (Run_move (Opd.t rfl))) rfl rfl rfl rfl <| WD_opG (fun w => CellsAt w ⟨b63, 0, none⟩ [(.int .i64 r58.1.1), (sl v60), (.int .i64 r58.1.2.2.1), (.int .i64 r58.1.2.2.2.1), (sl v61)]) ((hs.box (i := 4) rfl).part 0 rfl) rfl rfl rfl rfl guard_neg (fun _ hJ => (Run_loadA (vs := [(.int .i64 r58.1.1), (sl v60), (.int .i64 r58.1.2.2.1), (.int .i64 r58.1.2.2.2.1), (sl v61)]) Try.underlying29 rfl ti29 (Opd.t rfl) (fun _ => hJ) rfl)) rfl rfl rfl <| WD_pureG rfl rfl rfl rfl guard_neg (fun _ => (Run_fieldAddr fo34_1 (Opd.t rfl))) rfl rfl rfl <| WD_opG (fun w => CellsAt w ⟨b118, 1, none⟩ [(sl v122)]) ((hs.box (i := 1) rfl).part 1 rfl) rfl rfl rfl rfl guard_neg (fun _ hJ => (Run_load1 (v := (sl v122)) Try.underlying22 rfl (Opd.g rfl id) (fun _ => hJ))) rfl rfl rfl <| WD_pureG rfl rfl rfl rfl guard_neg (fun _ => (Run_lenSlG Try.underlying22 (Opd.g rfl id) (fun hg => (hs.sl (i := 0) rfl).len))) rfl rfl rfl <| ?_
              refine WD_loud (pend' := [(12, fun w => CellsAt w ⟨b118, 1, none⟩ [(sl v122)])]) rfl (by kernel_rfl) ?_
              obtain ⟨r133, hr134, -, hm⟩ := callG_some hm
              refine WL_callG rfl rfl rfl guard_neg (f := 15) (first := []) (cap := []) (xs := [(.tmp 80)]) (vs := [(.agg #[(.int .i64 r58.1.1), (sl v60), (.int .i64 r58.1.2.2.1), (.int .i64 r58.1.2.2.2.1), (sl v61)])]) (args := [(.agg #[(.int .i64 r58.1.1), (sl v60), (.int .i64 r58.1.2.2.1), (.int .i64 r58.1.2.2.2.1), (sl v61)])]) Try.call15 Opd.f (.cons (Opd.g rfl id) .nil) rfl rfl (fun hg => dfa_Many_ok (hs.re 16 [5, 6, 0, 1, 2, 3, 4, 5, 6, 7, 8, 9, 10, 11, 12, 13, 14, 15] rfl) (hr134 hg)) ?_
              intro v136 w135 hv137 hz138
              replace hs := Sat.ofG (fun hg => (hv137 hg).2.re 16 [0, 1, 2, 3, 4, 5, 6, 7, 8, 9, 10, 11, 12, 13, 14, 15] rfl) hz138 hs
              refine WL_sub1 (v := (.int .i64 r133)) (fun hg => (hv137 hg).1) ?_
              replace hs := Sat.n16 (Γ := Φ) hs rfl
              refine WL_nil ?_
              refine At_QK (allJ_cons ((hs.box (i := 1) rfl).part 1 rfl) allJ_nil) ?_
              obtain ⟨b139, e140, hm⟩ := letv_some hm
              refine WD_pureG rfl rfl rfl rfl guard_neg (fun _ => (Run.eqB (Run_neI (Opd.g rfl id) (Opd.g rfl id)) e140)) rfl rfl rfl <| ?_
              obtain ⟨b141, e142, hm⟩ := letv_some hm
              refine WD_pure (fun _ => (Run.eqB (Run_or (Opd.t rfl) (Opd.g rfl id)) e142)) rfl rfl rfl rfl <| WD_pure (fun _ => (Run_move (Opd.t rfl))) rfl rfl rfl rfl <| WD_opG (fun w => CellsAt w ⟨b63, 0, none⟩ [(.int .i64 r58.1.1), (sl v60), (.int .i64 r58.1.2.2.1), (.int .i64 r58.1.2.2.2.1), (sl v61)]) ((hs.box (i := 4) rfl).part 0 rfl) rfl rfl rfl rfl guard_neg (fun _ hJ => (Run_loadA (vs := [(.int .i64 r58.1.1), (sl v60), (.int .i64 r58.1.2.2.1), (.int .i64 r58.1.2.2.2.1), (sl v61)]) Try.underlying29 rfl ti29 (Opd.t rfl) (fun _ => hJ) rfl)) rfl rfl rfl <| WD_opG (fun w => CellsAt w ⟨b118, 0, none⟩ [(.int .i64 r120.1.1), (sl v122)]) ((hs.box (i := 1) rfl).part 0 rfl) rfl rfl rfl rfl guard_neg (fun _ hJ => (Run_loadA (vs := [(.int .i64 r120.1.1), (sl v122)]) Try.underlying34 rfl ti34 (Opd.t rfl) (fun _ => hJ) rfl)) rfl rfl rfl <| ?_
              refine WD_loud (pend' := [(19, fun w => CellsAt w ⟨b118, 0, none⟩ [(.int .i64 r120.1.1), (sl v122)]), (12, fun w => CellsAt w ⟨b118, 1, none⟩ [(sl v122)])]) rfl (by kernel_rfl) ?_
              obtain ⟨r143, hr144, -, hm⟩ := callG_some hm
              refine WL_callG rfl rfl rfl guard_neg (f := 16) (first := []) (cap := []) (xs := [(.tmp 88)]) (vs := [(.agg #[(.int .i64 r58.1.1), (sl v60), (.int .i64 r58.1.2.2.1), (.int .i64 r58.1.2.2.2.1), (sl v61)])]) (args := [(.agg #[(.int .i64 r58.1.1), (sl v60), (.int .i64 r58.1.2.2.1), (.int .i64 r58.1.2.2.2.1), (sl v61)])]) Try.call16 Opd.f (.cons (Opd.g rfl id) .nil) rfl rfl (fun hg => dfa_Size_ok (hs.re 16 [5, 6, 0, 1, 2, 3, 4, 5, 6, 7, 8, 9, 10, 11, 12, 13, 14, 15] rfl) (hr144 hg)) ?_
              intro v146 w145 hv147 hz148
              replace hs := Sat.ofG (fun hg => (hv147 hg).2.re 16 [0, 1, 2, 3, 4, 5, 6, 7, 8, 9, 10, 11, 12, 13, 14, 15] rfl) hz148 hs
              refine WL_sub1 (v := (.int .i64 r143)) (fun hg => (hv147 hg).1) ?_
              replace hs := Sat.n16 (Γ := Φ) hs rfl
              refine WL_nil ?_
              refine At_QK (allJ_cons ((hs.box (i := 1) rfl).part 0 rfl) (allJ_cons ((hs.box (i := 1) rfl).part 1 rfl) allJ_nil)) ?_
              refine WD_loud (pend' := [(12, fun w => CellsAt w ⟨b118, 1, none⟩ [(sl v122)])]) rfl (by kernel_rfl) ?_
              obtain ⟨r149, hr150, -, hm⟩ := callG_some hm
              refine WL_callG rfl rfl rfl guard_neg (f := 17) (first := []) (cap := []) (xs := [(.tmp 90)]) (vs := [(.agg #[(.int .i64 r120.1.1), (sl v122)])]) (args := [(.agg #[(.int .i64 r120.1.1), (sl v122)])]) Try.call17 Opd.f (.cons (Opd.g rfl id) .nil) rfl rfl (fun hg => scrutinyref09_Size_ok (hs.re 16 [0, 0, 1, 2, 3, 4, 5, 6, 7, 8, 9, 10, 11, 12, 13, 14, 15] rfl) (hr150 hg)) ?_
              intro v152 w151 hv153 hz154
              replace hs := Sat.ofG (fun hg => (hv153 hg).2.re 16 [0, 1, 2, 3, 4, 5, 6, 7, 8, 9, 10, 11, 12, 13, 14, 15] rfl) hz154 hs
              refine WL_sub1 (v := (.int .i64 r149)) (fun hg => (hv153 hg).1) ?_
              replace hs := Sat.n16 (Γ := Φ) hs rfl
              refine WL_nil ?_
              refine At_QK (allJ_cons ((hs.box (i := 1) rfl).part 1 rfl) allJ_nil) ?_
              obtain ⟨b155, e156, hm⟩ := letv_some hm
              refine WD_pureG rfl rfl rfl rfl guard_neg (fun _ => (Run.eqB (Run_neI (Opd.g rfl id) (Opd.g rfl id)) e156)) rfl rfl rfl <| ?_
              obtain ⟨b157, e158, hm⟩ := letv_some hm
              refine WD_pure (fun _ => (Run.eqB (Run_or (Opd.t rfl) (Opd.g rfl id)) e158)) rfl rfl rfl rfl <| ?_
              refine WD_nil ?_
              refine At_then ?_
              refine WC_cond (Opd.t rfl) (fun hc159 => ?_) (fun hc159 => ?_)
              ·
                replace hm := bif_t hc159 hm
                refine WC_seq ?_
                refine WC_region ?_
                refine WL_op (Run_assign Opd.c) rfl rfl rfl rfl <| ?_
                refine WL_nil ?_
                refine At_then ?_
                refine WC_ret ?_
                refine At_then_ret <| At_blk_ret <| At_then_ret <| At_then_ret <| At_blk_ret <| At_then_ret <| ?_
                refine At_r1 rfl (ResIs.t rfl) ?_
                cases hm
                exact ⟨rfl, (hs.re 16 [] rfl)⟩
              ·
                replace hm := bif_f hc159 hm
                refine WC_skip ?_
                refine At_then ?_
                refine WC_seq ?_
                refine WC_region ?_
                refine WL_op (Run_loadA (vs := [(.int .i64 r58.1.1), (sl v60), (.int .i64 r58.1.2.2.1), (.int .i64 r58.1.2.2.2.1), (sl v61)]) Try.underlying29 rfl ti29 (Opd.t rfl) (fun _ => (hs.box (i := 4) rfl).part 0 rfl) rfl) rfl rfl rfl rfl <| ?_
                refine WS_store (us := [(.int .i64 r58.1.1), (sl v60), (.int .i64 r58.1.2.2.1), (.int .i64 r58.1.2.2.2.1), (sl v61)]) (vs' := [(.int .i64 r58.1.1), (sl v60), (.int .i64 r58.1.2.2.1), (.int .i64 r58.1.2.2.2.1), (sl v61)]) hs 11 rfl ti29 (Opd.t rfl) (Opd.t rfl) rfl rfl rfl rfl rfl ?_
                intro w160 hs
                replace hs := Sat.n16 (Γ := Φ) hs rfl
                refine WL_nil ?_
                refine At_then ?_
                refine WC_region ?_
                refine WL_op (Run_loadA (vs := [(.int .i64 r120.1.1), (sl v122)]) Try.underlying34 rfl ti34 (Opd.t rfl) (fun _ => (hs.box (i := 1) rfl).part 0 rfl) rfl) rfl rfl rfl rfl <| ?_
                refine WS_store (us := [(.int .i64 r120.1.1), (sl v122)]) (vs' := [(.int .i64 r120.1.1), (sl v122)]) hs 14 rfl ti34 (Opd.t rfl) (Opd.t rfl) rfl rfl rfl rfl rfl ?_
                intro w161 hs
                replace hs := Sat.n16 (Γ := Φ) hs rfl
                refine WL_nil ?_
                refine At_blk_normal ?_
                refine At_then ?_
                refine WC_region ?_
                refine WL_op (Run_move (Opd.t rfl)) rfl rfl rfl rfl <| WL_op (Run_add (Opd.t rfl) Opd.c) rfl rfl rfl rfl <| WL_op (Run_assign (Opd.t rfl)) rfl rfl rfl rfl <| ?_
                refine WL_nil ?_
                exact At_again (r58.1.1, r58.1.2.1, r58.1.2.2.1, r58.1.2.2.2.1, r58.1.2.2.2.2, r120.1.1, r120.1.2, (IntKind.i64.wrap (i47 + 1))) (v60, v61, v122) hm (hs.re 16 [9, 10, 11, 5, 6, 14, 0] rfl) rfl
          ·
            refine WD_loud (pend' := [(4, fun w => true = true → CellsAt w (elA (sl v1) i47 1) [(sl v54)]), (0, fun w => CellsAt w ⟨b23, 0, none⟩ [(.int .i64 c37), (sl v39), (.int .i64 c40), (.int .i64 c41), (sl v43)])]) rfl (by kernel_rfl) ?_
            refine WS_alloc (zs := [(.int .i64 0), (sl (none, 0, 0)), (.int .i64 0), (.int .i64 0), (sl (none, 0, 0))]) hs ti29 rfl rfl ?_
            intro b162 w163 hs
            replace hs := Sat.n10 (Γ := Φ) hs rfl
            refine WL_nil ?_
            refine At_QK (allJ_cons (fun hg => ((hs.elem (i := 1) rfl) hg).sub 0 rfl) (allJ_cons ((hs.box (i := 5) rfl).part 0 rfl) allJ_nil)) ?_
            refine WD_loud (pend' := []) rfl (by kernel_rfl) ?_
            obtain ⟨r164, hr165, hm⟩ := bind_some' hm
            refine WL_call (f := 13) (first := []) (cap := []) (xs := [(.tmp 52), (.tmp 56)]) (vs := [(.agg #[(.int .i64 c37), (sl v39), (.int .i64 c40), (.int .i64 c41), (sl v43)]), (sl v54)]) (args := [(.agg #[(.int .i64 c37), (sl v39), (.int .i64 c40), (.int .i64 c41), (sl v43)]), (sl v54)]) Try.call13 Opd.f (.cons (Opd.t rfl) (.cons (Opd.t rfl) .nil)) rfl rfl (dfa_Insert_ok (d := (c37, c38, c40, c41, c42)) (hs.re 10 [6, 7, 2, 0, 1, 2, 3, 4, 5, 6, 7, 8, 9] rfl) hr165) ?_
            rintro _ w168 ⟨v166, v167, rfl, hs⟩
            replace hs := Sat.n12 (Γ := Φ) hs rfl
            refine WL_nil ?_
            refine At_QK allJ_nil ?_
            refine WD_pure (fun _ => (Run_move (Opd.t rfl))) rfl rfl rfl rfl <| WD_pure (fun _ => (Run_extract (vs := [(.agg #[(.int .i64 r164.1.1), (sl v166), (.int .i64 r164.1.2.2.1), (.int .i64 r164.1.2.2.2.1), (sl v167)]), (.bool r164.2.1), (.int .i64 r164.2.2)]) (Opd.t rfl) rfl)) rfl rfl rfl rfl <| WD_pure (fun _ => (Run_extract (vs := [(.agg #[(.int .i64 r164.1.1), (sl v166), (.int .i64 r164.1.2.2.1), (.int .i64 r164.1.2.2.2.1), (sl v167)]), (.bool r164.2.1), (.int .i64 r164.2.2)]) (Opd.t rfl) rfl)) rfl rfl rfl rfl <| WD_pure (fun _ => (Run_extract (vs := [(.agg #[(.int .i64 r164.1.1), (sl v166), (.int .i64 r164.1.2.2.1), (.int .i64 r164.1.2.2.2.1), (sl v167)]), (.bool r164.2.1), (.int .i64 r164.2.2)]) (Opd.t rfl) rfl)) rfl rfl rfl rfl <| ?_
            refine WD_loud (pend' := []) rfl (by kernel_rfl) ?_
            refine WS_store (us := [(.int .i64 r164.1.1), (sl v166), (.int .i64 r164.1.2.2.1), (.int .i64 r164.1.2.2.2.1), (sl v167)]) (vs' := [(.int .i64 r164.1.1), (sl v166), (.int .i64 r164.1.2.2.1), (.int .i64 r164.1.2.2.2.1), (sl v167)]) hs 2 rfl ti29 (Opd.t rfl) (Opd.t rfl) rfl rfl rfl rfl rfl ?_
            intro w169 hs
            replace hs := Sat.n12 (Γ := Φ) hs rfl
            refine WL_nil ?_
            refine At_QK allJ_nil ?_
            refine WD_pure (fun _ => (Run_assign (Opd.t rfl))) rfl rfl rfl rfl <| WD_pure (fun _ => (Run_assign (Opd.t rfl))) rfl rfl rfl rfl <| ?_
            refine WD_nil ?_
            refine At_then ?_
            refine WC_seq ?_
            refine WC_region_mixed [0, 0, 0, 6, 8, 17, 32, 64, 64, 64, 0, 1279, 3583, 8191] (.q 0 0 (.q 1 1 (.q 2 3 (.q 3 7 (.q 4 15 (.l2 31 5 (.q 6 63 (.q 7 127 (.q 8 255 (.q 9 511 (.l 10 1023 (.l 11 2047 (.q 12 4095 (.q 13 8191 .nil)))))))) 10 (.l 5 1055 (.q 6 1087 (.q 7 1151 (.q 8 1279 (.q 9 1535 (.l 11 2047 (.q 12 4095 (.q 13 8191 .nil)))))))))))))) (by kernel_rfl) (by kernel_rfl) ?_
            intro w170 hx171
            replace hs := hs.ext hx171
            refine WD_op (fun w => CellsAt w ⟨b31, 0, none⟩ [(.int .i64 c44), (sl v46)]) ((hs.box (i := 10) rfl).part 0 rfl) (fun _ hJ => (Run_loadA (vs := [(.int .i64 c44), (sl v46)]) Try.underlying34 rfl ti34 (Opd.t rfl) (fun _ => hJ) rfl)) rfl rfl rfl rfl <| WD_pure (fun _ => (Run_move (Opd.t rfl))) rfl rfl rfl rfl <| WD_pure (fun _ => (Run_move (Opd.t rfl))) rfl rfl rfl rfl <| ?_
            obtain ⟨e172, he173, hm⟩ := bind_some' hm
            obtain ⟨v174, hC175, hN176, hR177⟩ := cellsM23 (g := true) (fun hg => (hs.sl (i := 5) rfl)) (fun hg => he173)
            replace hs := hs.addL [elem true (elA (sl v1) i47 1) [(sl v174)], imm (RSl (RI .u8)) [sl v174] e172] rfl ⟨fun hg => ⟨hN176 hg, hC175 hg⟩, ⟨_, rfl, hR177 rfl⟩, trivial⟩
            replace hs := Sat.n14 (Γ := Φ) hs rfl
            refine WD_pure (fun _ => (Run_idxAddr (p := (elA (sl v1) i47 1)) Try.underlying22 ti23 (Opd.t rfl) (Opd.t rfl) (fun hg => (SRd.atA (A := (RSl (RI .u8))) (v := (sl v1)) (hs.sl (i := 7) rfl) he173).1))) rfl rfl rfl rfl <| WD_op (fun w => true = true → CellsAt w (elA (sl v1) i47 1) [(sl v174)]) (fun hg => ((hs.elem (i := 0) rfl) hg).sub 0 rfl) (fun _ hJ => (Run_load1 (v := (sl v174)) Try.underlying23 rfl (Opd.t rfl) hJ)) rfl rfl rfl rfl <| ?_
            refine WD_loud2 ?_ ?_
            ·
              refine WD_loud (pend' := []) rfl (by kernel_rfl) ?_
              obtain ⟨r178, hr179, hm⟩ := bind_some' hm
              refine WL_call (f := 14) (first := []) (cap := []) (xs := [(.tmp 62), (.tmp 66)]) (vs := [(.agg #[(.int .i64 c44), (sl v46)]), (sl v174)]) (args := [(.agg #[(.int .i64 c44), (sl v46)]), (sl v174)]) Try.call14 Opd.f (.cons (Opd.t rfl) (.cons (Opd.t rfl) .nil)) rfl rfl (scrutinyref09_Insert_ok (s := (c44, c45)) (hs.re 14 [13, 1, 0, 1, 2, 3, 4, 5, 6, 7, 8, 9, 10, 11, 12, 13] rfl) hr179) ?_
              rintro _ w181 ⟨v180, rfl, hs⟩
              replace hs := Sat.n15 (Γ := Φ) hs rfl
              refine WL_nil ?_
              refine At_QK allJ_nil ?_
              refine WD_pure (fun _ => (Run_move (Opd.t rfl))) rfl rfl rfl rfl <| WD_pure (fun _ => (Run_extract (vs := [(.agg #[(.int .i64 r178.1.1), (sl v180)]), (.bool r178.2.1), (.int .i64 r178.2.2)]) (Opd.t rfl) rfl)) rfl rfl rfl rfl <| WD_pure (fun _ => (Run_extract (vs := [(.agg #[(.int .i64 r178.1.1), (sl v180)]), (.bool r178.2.1), (.int .i64 r178.2.2)]) (Opd.t rfl) rfl)) rfl rfl rfl rfl <| WD_pure (fun _ => (Run_extract (vs := [(.agg #[(.int .i64 r178.1.1), (sl v180)]), (.bool r178.2.1), (.int .i64 r178.2.2)]) (Opd.t rfl) rfl)) rfl rfl rfl rfl <| ?_
              refine WD_loud (pend' := []) rfl (by kernel_rfl) ?_
              refine WS_alloc (zs := [(.int .i64 0), (sl (none, 0, 0))]) hs ti34 rfl rfl ?_
              intro b182 w183 hs
              replace hs := Sat.n16 (Γ := Φ) hs rfl
              refine WL_nil ?_
              refine At_QK allJ_nil ?_
              refine WD_loud (pend' := []) rfl (by kernel_rfl) ?_
              refine WS_store (us := [(.int .i64 r178.1.1), (sl v180)]) (vs' := [(.int .i64 r178.1.1), (sl v180)]) hs 0 rfl ti34 (Opd.t rfl) (Opd.t rfl) rfl rfl rfl rfl rfl ?_
              intro w184 hs
              replace hs := Sat.n16 (Γ := Φ) hs rfl
              refine WL_nil ?_
              refine At_QK allJ_nil ?_
              refine WD_pure (fun _ => (Run_assign (Opd.t rfl))) rfl rfl rfl rfl <| WD_pure (fun _ => (Run_assign (Opd.t rfl))) rfl rfl rfl rfl <| ?_
              refine WD_nil ?_
              refine At_then ?_
              refine WC_seq ?_
              refine WC_seq ?_
              refine WC_region_mixed [0, 0, 3, 4, 8, 8, 56, 72, 136, 256, 768, 256, 2304, 4352, 9472, 16640, 33792, 65536, 196608, 65536, 851968, 1376256, 2162688] (.q 0 0 (.q 1 1 (.q 2 3 (.q 3 7 (.q 4 15 (.q 5 31 (.q 6 63 (.q 7 127 (.q 8 255 (.q 9 511 (.q 11 1023 (.q 12 3071 (.q 13 7167 (.l 10 15359 (.q 14 16383 (.q 15 32767 (.q 16 65535 (.q 17 131071 (.q 19 262143 (.l 18 786431 (.l 20 1048575 (.q 21 2097151 (.q 22 4194303 .nil))))))))))))))))))))))) (by kernel_rfl) (by kernel_rfl) ?_
              intro w185 hx186
              replace hs := hs.ext hx186
              refine WD_pure (fun _ => (Run_move (Opd.t rfl))) rfl rfl rfl rfl <| WD_pure (fun _ => (Run_move (Opd.t rfl))) rfl rfl rfl rfl <| ?_
              obtain ⟨b187, e188, hm⟩ := letv_some hm
              refine WD_pure (fun _ => (Run.eqB (Run_neB Try.underlying4 (Opd.t rfl) (Opd.t rfl)) e188)) rfl rfl rfl rfl <| WD_pure (fun _ => (Run_move (Opd.t rfl))) rfl rfl rfl rfl <| WD_pureG rfl rfl rfl rfl guard_neg (fun _ => (Run_move (Opd.t rfl))) rfl rfl rfl <| WD_pureG rfl rfl rfl rfl guard_neg (fun _ => (Run_move (Opd.t rfl))) rfl rfl rfl <| ?_
              obtain ⟨b189, e190, hm⟩ := letv_some hm
              refine WD_pureG rfl rfl rfl rfl guard_neg (fun _ => (Run.eqB (Run_neI (Opd.g rfl id) (Opd.g rfl id)) e190)) rfl rfl rfl <| ?_
              obtain ⟨b191, e192, hm⟩ := letv_some hm
              refine WD_pure (fun _ => (Run.eqB (Run_or (Opd.t rfl) (Opd.g rfl id)) e192)) rfl rfl rfl rfl <| WD_pure (fun _ => (Run_move (Opd.t rfl))) rfl rfl rfl rfl <| WD_opG (fun w => CellsAt w ⟨b162, 0, none⟩ [(.int .i64 r164.1.1), (sl v166), (.int .i64 r164.1.2.2.1), (.int .i64 r164.1.2.2.2.1), (sl v167)]) ((hs.box (i := 6) rfl).part 0 rfl) rfl rfl rfl rfl guard_neg (fun _ hJ => (Run_loadA (vs := [(.int .i64 r164.1.1), (sl v166), (.int .i64 r164.1.2.2.1), (.int .i64 r164.1.2.2.2.1), (sl v167)]) Try.underlying29 rfl ti29 (Opd.t rfl) (fun _ => hJ) rfl)) rfl rfl rfl <| WD_pureG rfl rfl rfl rfl guard_neg (fun _ => (Run_fieldAddr fo34_1 (Opd.t rfl))) rfl rfl rfl <| WD_opG (fun w => CellsAt w ⟨b182, 1, none⟩ [(sl v180)]) ((hs.box (i := 0) rfl).part 1 rfl) rfl rfl rfl rfl guard_neg (fun _ hJ => (Run_load1 (v := (sl v180)) Try.underlying22 rfl (Opd.g rfl id) (fun _ => hJ))) rfl rfl rfl <| WD_pureG rfl rfl rfl rfl guard_neg (fun _ => (Run_lenSlG Try.underlying22 (Opd.g rfl id) (fun hg => (hs.sl (i := 1) rfl).len))) rfl rfl rfl <| ?_
              refine WD_loud (pend' := [(12, fun w => CellsAt w ⟨b182, 1, none⟩ [(sl v180)])]) rfl (by kernel_rfl) ?_
              obtain ⟨r193, hr194, -, hm⟩ := callG_some hm
              refine WL_callG rfl rfl rfl guard_neg (f := 15) (first := []) (cap := []) (xs := [(.tmp 80)]) (vs := [(.agg #[(.int .i64 r164.1.1), (sl v166), (.int .i64 r164.1.2.2.1), (.int .i64 r164.1.2.2.2.1), (sl v167)])]) (args := [(.agg #[(.int .i64 r164.1.1), (sl v166), (.int .i64 r164.1.2.2.1), (.int .i64 r164.1.2.2.2.1), (sl v167)])]) Try.call15 Opd.f (.cons (Opd.g rfl id) .nil) rfl rfl (fun hg => dfa_Many_ok (hs.re 16 [4, 5, 0, 1, 2, 3, 4, 5, 6, 7, 8, 9, 10, 11, 12, 13, 14, 15] rfl) (hr194 hg)) ?_
              intro v196 w195 hv197 hz198
              replace hs := Sat.ofG (fun hg => (hv197 hg).2.re 16 [0, 1, 2, 3, 4, 5, 6, 7, 8, 9, 10, 11, 12, 13, 14, 15] rfl) hz198 hs
              refine WL_sub1 (v := (.int .i64 r193)) (fun hg => (hv197 hg).1) ?_
              replace hs := Sat.n16 (Γ := Φ) hs rfl
              refine WL_nil ?_
              refine At_QK (allJ_cons ((hs.box (i := 0) rfl).part 1 rfl) allJ_nil) ?_
              obtain ⟨b199, e200, hm⟩ := letv_some hm
              refine WD_pureG rfl rfl rfl rfl guard_neg (fun _ => (Run.eqB (Run_neI (Opd.g rfl id) (Opd.g rfl id)) e200)) rfl rfl rfl <| ?_
              obtain ⟨b201, e202, hm⟩ := letv_some hm
              refine WD_pure (fun _ => (Run.eqB (Run_or (Opd.t rfl) (Opd.g rfl id)) e202)) rfl rfl rfl rfl <| WD_pure (fun _ => (Run_move (Opd.t rfl))) rfl rfl rfl rfl <| WD_opG (fun w => CellsAt w ⟨b162, 0, none⟩ [(.int .i64 r164.1.1), (sl v166), (.int .i64 r164.1.2.2.1), (.int .i64 r164.1.2.2.2.1), (sl v167)]) ((hs.box (i := 6) rfl).part 0 rfl) rfl rfl rfl rfl guard_neg (fun _ hJ => (Run_loadA (vs := [(.int .i64 r164.1.1), (sl v166), (.int .i64 r164.1.2.2.1), (.int .i64 r164.1.2.2.2.1), (sl v167)]) Try.underlying29 rfl ti29 (Opd.t rfl) (fun _ => hJ) rfl)) rfl rfl rfl <| WD_opG (fun w => CellsAt w ⟨b182, 0, none⟩ [(.int .i64 r178.1.1), (sl v180)]) ((hs.box (i := 0) rfl).part 0 rfl) rfl rfl rfl rfl guard_neg (fun _ hJ => (Run_loadA (vs := [(.int .i64 r178.1.1), (sl v180)]) Try.underlying34 rfl ti34 (Opd.t rfl) (fun _ => hJ) rfl)) rfl rfl rfl <| ?_
              refine WD_loud (pend' := [(19, fun w => CellsAt w ⟨b182, 0, none⟩ [(.int .i64 r178.1.1), (sl v180)]), (12, fun w => CellsAt w ⟨b182, 1, none⟩ [(sl v180)])]) rfl (by kernel_rfl) ?_
              obtain ⟨r203, hr204, -, hm⟩ := callG_some hm
              refine WL_callG rfl rfl rfl guard_neg (f := 16) (first := []) (cap := []) (xs := [(.tmp 88)]) (vs := [(.agg #[(.int .i64 r164.1.1), (sl v166), (.int .i64 r164.1.2.2.1), (.int .i64 r164.1.2.2.2.1), (sl v167)])]) (args := [(.agg #[(.int .i64 r164.1.1), (sl v166), (.int .i64 r164.1.2.2.1), (.int .i64 r164.1.2.2.2.1), (sl v167)])]) Try.call16 Opd.f (.cons (Opd.g rfl id) .nil) rfl rfl (fun hg => dfa_Size_ok (hs.re 16 [4, 5, 0, 1, 2, 3, 4, 5, 6, 7, 8, 9, 10, 11, 12, 13, 14, 15] rfl) (hr204 hg)) ?_
              intro v206 w205 hv207 hz208
              replace hs := Sat.ofG (fun hg => (hv207 hg).2.re 16 [0, 1, 2, 3, 4, 5, 6, 7, 8, 9, 10, 11, 12, 13, 14, 15] rfl) hz208 hs
              refine WL_sub1 (v := (.int .i64 r203)) (fun hg => (hv207 hg).1) ?_
              replace hs := Sat.n16 (Γ := Φ) hs rfl
              refine WL_nil ?_
              refine At_QK (allJ_cons ((hs.box (i := 0) rfl).part 0 rfl) (allJ_cons ((hs.box (i := 0) rfl).part 1 rfl) allJ_nil)) ?_
              refine WD_loud (pend' := [(12, fun w => CellsAt w ⟨b182, 1, none⟩ [(sl v180)])]) rfl (by kernel_rfl) ?_
              obtain ⟨r209, hr210, -, hm⟩ := callG_some hm
              refine WL_callG rfl rfl rfl guard_neg (f := 17) (first := []) (cap := []) (xs := [(.tmp 90)]) (vs := [(.agg #[(.int .i64 r178.1.1), (sl v180)])]) (args := [(.agg #[(.int .i64 r178.1.1), (sl v180)])]) Try.call17 Opd.f (.cons (Opd.g rfl id) .nil) rfl rfl (fun hg => scrutinyref09_Size_ok (hs.re 16 [1, 0, 1, 2, 3, 4, 5, 6, 7, 8, 9, 10, 11, 12, 13, 14, 15] rfl) (hr210 hg)) ?_
              intro v212 w211 hv213 hz214
              replace hs := Sat.ofG (fun hg => (hv213 hg).2.re 16 [0, 1, 2, 3, 4, 5, 6, 7, 8, 9, 10, 11, 12, 13, 14, 15] rfl) hz214 hs
              refine WL_sub1 (v := (.int .i64 r209)) (fun hg => (hv213 hg).1) ?_
              replace hs := Sat.n16 (Γ := Φ) hs rfl
              refine WL_nil ?_
              refine At_QK (allJ_cons ((hs.box (i := 0) rfl).part 1 rfl) allJ_nil) ?_
              obtain ⟨b215, e216, hm⟩ := letv_some hm
              refine WD_pureG rfl rfl rfl rfl guard_neg (fun _ => (Run.eqB (Run_neI (Opd.g rfl id) (Opd.g rfl id)) e216)) rfl rfl rfl <| ?_
              obtain ⟨b217, e218, hm⟩ := letv_some hm
              refine WD_pure (fun _ => (Run.eqB (Run_or (Opd.t rfl) (Opd.g rfl id)) e218)) rfl rfl rfl rfl <| ?_
              refine WD_nil ?_
              refine At_then ?_
              refine WC_cond (Opd.t rfl) (fun hc219 => ?_) (fun hc219 => ?_)
              ·
                replace hm := bif_t hc219 hm
                refine WC_seq ?_
                refine WC_region ?_
                refine WL_op (Run_assign Opd.c) rfl rfl rfl rfl <| ?_
                refine WL_nil ?_
                refine At_then ?_
                refine WC_ret ?_
                refine At_then_ret <| At_blk_ret <| At_then_ret <| At_then_ret <| At_blk_ret <| At_then_ret <| ?_
                refine At_r1 rfl (ResIs.t rfl) ?_
                cases hm
                exact ⟨rfl, (hs.re 16 [] rfl)⟩
              ·
                replace hm := bif_f hc219 hm
                refine WC_skip ?_
                refine At_then ?_
                refine WC_seq ?_
                refine WC_region ?_
                refine WL_op (Run_loadA (vs := [(.int .i64 r164.1.1), (sl v166), (.int .i64 r164.1.2.2.1), (.int .i64 r164.1.2.2.2.1), (sl v167)]) Try.underlying29 rfl ti29 (Opd.t rfl) (fun _ => (hs.box (i := 6) rfl).part 0 rfl) rfl) rfl rfl rfl rfl <| ?_
                refine WS_store (us := [(.int .i64 r164.1.1), (sl v166), (.int .i64 r164.1.2.2.1), (.int .i64 r164.1.2.2.2.1), (sl v167)]) (vs' := [(.int .i64 r164.1.1), (sl v166), (.int .i64 r164.1.2.2.1), (.int .i64 r164.1.2.2.2.1), (sl v167)]) hs 11 rfl ti29 (Opd.t rfl) (Opd.t rfl) rfl rfl rfl rfl rfl ?_
                intro w220 hs
                replace hs := Sat.n16 (Γ := Φ) hs rfl
                refine WL_nil ?_
                refine At_then ?_
                refine WC_region ?_
                refine WL_op (Run_loadA (vs := [(.int .i64 r178.1.1), (sl v180)]) Try.underlying34 rfl ti34 (Opd.t rfl) (fun _ => (hs.box (i := 0) rfl).part 0 rfl) rfl) rfl rfl rfl rfl <| ?_
                refine WS_store (us := [(.int .i64 r178.1.1), (sl v180)]) (vs' := [(.int .i64 r178.1.1), (sl v180)]) hs 14 rfl ti34 (Opd.t rfl) (Opd.t rfl) rfl rfl rfl rfl rfl ?_
                intro w221 hs
                replace hs := Sat.n16 (Γ := Φ) hs rfl
                refine WL_nil ?_
                refine At_blk_normal ?_
                refine At_then ?_
                refine WC_region ?_
                refine WL_op (Run_move (Opd.t rfl)) rfl rfl rfl rfl <| WL_op (Run_add (Opd.t rfl) Opd.c) rfl rfl rfl rfl <| WL_op (Run_assign (Opd.t rfl)) rfl rfl rfl rfl <| ?_
                refine WL_nil ?_
                exact At_again (r164.1.1, r164.1.2.1, r164.1.2.2.1, r164.1.2.2.2.1, r164.1.2.2.2.2, r178.1.1, r178.1.2, (IntKind.i64.wrap (i47 + 1))) (v166, v167, v180) hm (hs.re 16 [9, 10, 11, 4, 5, 14, 1] rfl) rfl
            ·
              refine WD_loud (pend' := [(4, fun w => true = true → CellsAt w (elA (sl v1) i47 1) [(sl v174)]), (0, fun w => CellsAt w ⟨b31, 0, none⟩ [(.int .i64 c44), (sl v46)])]) rfl (by kernel_rfl) ?_
              refine WS_alloc (zs := [(.int .i64 0), (sl (none, 0, 0))]) hs ti34 rfl rfl ?_
              intro b222 w223 hs
              replace hs := Sat.n15 (Γ := Φ) hs rfl
              refine WL_nil ?_
              refine At_QK (allJ_cons (fun hg => ((hs.elem (i := 1) rfl) hg).sub 0 rfl) (allJ_cons ((hs.box (i := 13) rfl).part 0 rfl) allJ_nil)) ?_
              refine WD_loud (pend' := []) rfl (by kernel_rfl) ?_
              obtain ⟨r224, hr225, hm⟩ := bind_some' hm
              refine WL_call (f := 14) (first := []) (cap := []) (xs := [(.tmp 62), (.tmp 66)]) (vs := [(.agg #[(.int .i64 c44), (sl v46)]), (sl v174)]) (args := [(.agg #[(.int .i64 c44), (sl v46)]), (sl v174)]) Try.call14 Opd.f (.cons (Opd.t rfl) (.cons (Opd.t rfl) .nil)) rfl rfl (scrutinyref09_Insert_ok (s := (c44, c45)) (hs.re 15 [14, 2, 0, 1, 2, 3, 4, 5, 6, 7, 8, 9, 10, 11, 12, 13, 14] rfl) hr225) ?_
              rintro _ w227 ⟨v226, rfl, hs⟩
              replace hs := Sat.n16 (Γ := Φ) hs rfl
              refine WL_nil ?_
              refine At_QK allJ_nil ?_
              refine WD_pure (fun _ => (Run_move (Opd.t rfl))) rfl rfl rfl rfl <| WD_pure (fun _ => (Run_extract (vs := [(.agg #[(.int .i64 r224.1.1), (sl v226)]), (.bool r224.2.1), (.int .i64 r224.2.2)]) (Opd.t rfl) rfl)) rfl rfl rfl rfl <| WD_pure (fun _ => (Run_extract (vs := [(.agg #[(.int .i64 r224.1.1), (sl v226)]), (.bool r224.2.1), (.int .i64 r224.2.2)]) (Opd.t rfl) rfl)) rfl rfl rfl rfl <| WD_pure (fun _ => (Run_extract (vs := [(.agg #[(.int .i64 r224.1.1), (sl v226)]), (.bool r224.2.1), (.int .i64 r224.2.2)]) (Opd.t rfl) rfl)) rfl rfl rfl rfl <| ?_
              refine WD_loud (pend' := []) rfl (by kernel_rfl) ?_
              refine WS_store (us := [(.int .i64 r224.1.1), (sl v226)]) (vs' := [(.int .i64 r224.1.1), (sl v226)]) hs 1 rfl ti34 (Opd.t rfl) (Opd.t rfl) rfl rfl rfl rfl rfl ?_
              intro w228 hs
              replace hs := Sat.n16 (Γ := Φ) hs rfl
              refine WL_nil ?_
              refine At_QK allJ_nil ?_
              refine WD_pure (fun _ => (Run_assign (Opd.t rfl))) rfl rfl rfl rfl <| WD_pure (fun _ => (Run_assign (Opd.t rfl))) rfl rfl rfl rfl <| ?_
              refine WD_nil ?_
              refine At_then ?_
              refine WC_seq ?_
              refine WC_seq ?_
              refine WC_region_mixed [0, 0, 3, 4, 8, 8, 56, 72, 136, 256, 768, 256, 2304, 4352, 9472, 16640, 33792, 65536, 196608, 65536, 851968, 1376256, 2162688] (.q 0 0 (.q 1 1 (.q 2 3 (.q 3 7 (.q 4 15 (.q 5 31 (.q 6 63 (.q 7 127 (.q 8 255 (.q 9 511 (.q 11 1023 (.q 12 3071 (.q 13 7167 (.l 10 15359 (.q 14 16383 (.q 15 32767 (.q 16 65535 (.q 17 131071 (.q 19 262143 (.l 18 786431 (.l 20 1048575 (.q 21 2097151 (.q 22 4194303 .nil))))))))))))))))))))))) (by kernel_rfl) (by kernel_rfl) ?_
              intro w229 hx230
              replace hs := hs.ext hx230
              refine WD_pure (fun _ => (Run_move (Opd.t rfl))) rfl rfl rfl rfl <| WD_pure (fun _ => (Run_move (Opd.t rfl))) rfl rfl rfl rfl <| ?_
              obtain ⟨b231, e232, hm⟩ := letv_some hm
              refine WD_pure (fun _ => (Run.eqB (Run_neB Try.underlying4 (Opd.t rfl) (Opd.t rfl)) e232)) rfl rfl rfl rfl <| WD_pure (fun _ => (Run_move (Opd.t rfl))) rfl rfl rfl rfl <| WD_pureG rfl rfl rfl rfl guard_neg (fun _ => (Run_move (Opd.t rfl))) rfl rfl rfl <| WD_pureG rfl rfl rfl rfl guard_neg (fun _ => (Run_move (Opd.t rfl))) rfl rfl rfl <| ?_
              obtain ⟨b233, e234, hm⟩ := letv_some hm
              refine WD_pureG rfl rfl rfl rfl guard_neg (fun _ => (Run.eqB (Run_neI (Opd.g rfl id) (Opd.g rfl id)) e234)) rfl rfl rfl <| ?_
              obtain ⟨b235, e236, hm⟩ := letv_some hm
              refine WD_pure (fun _ => (Run.eqB (Run_or (Opd.t rfl) (Opd.g rfl id)) e236)) rfl rfl rfl rfl <| WD_pure (fun _ => (Run_move (Opd.t rfl))) rfl rfl rfl rfl <| WD_opG (fun w => CellsAt w ⟨b162, 0, none⟩ [(.int .i64 r164.1.1), (sl v166), (.int .i64 r164.1.2.2.1), (.int .i64 r164.1.2.2.2.1), (sl v167)]) ((hs.box (i := 6) rfl).part 0 rfl) rfl rfl rfl rfl guard_neg (fun _ hJ => (Run_loadA (vs := [(.int .i64 r164.1.1), (sl v166), (.int .i64 r164.1.2.2.1), (.int .i64 r164.1.2.2.2.1), (sl v167)]) Try.underlying29 rfl ti29 (Opd.t rfl) (fun _ => hJ) rfl)) rfl rfl rfl <| WD_pureG rfl rfl rfl rfl guard_neg (fun _ => (Run_fieldAddr fo34_1 (Opd.t rfl))) rfl rfl rfl <| WD_opG (fun w => CellsAt w ⟨b222, 1, none⟩ [(sl v226)]) ((hs.box (i := 1) rfl).part 1 rfl) rfl rfl rfl rfl guard_neg (fun _ hJ => (Run_load1 (v := (sl v226)) Try.underlying22 rfl (Opd.g rfl id) (fun _ => hJ))) rfl rfl rfl <| WD_pureG rfl rfl rfl rfl guard_neg (fun _ => (Run_lenSlG Try.underlying22 (Opd.g rfl id) (fun hg => (hs.sl (i := 0) rfl).len))) rfl rfl rfl <| ?_
              refine WD_loud (pend' := [(12, fun w => CellsAt w ⟨b222, 1, none⟩ [(sl v226)])]) rfl (by kernel_rfl) ?_
              obtain ⟨r237, hr238, -, hm⟩ := callG_some hm
              refine WL_callG rfl rfl rfl guard_neg (f := 15) (first := []) (cap := []) (xs := [(.tmp 80)]) (vs := [(.agg #[(.int .i64 r164.1.1), (sl v166), (.int .i64 r164.1.2.2.1), (.int .i64 r164.1.2.2.2.1), (sl v167)])]) (args := [(.agg #[(.int .i64 r164.1.1), (sl v166), (.int .i64 r164.1.2.2.1), (.int .i64 r164.1.2.2.2.1), (sl v167)])]) Try.call15 Opd.f (.cons (Opd.g rfl id) .nil) rfl rfl (fun hg => dfa_Many_ok (hs.re 16 [4, 5, 0, 1, 2, 3, 4, 5, 6, 7, 8, 9, 10, 11, 12, 13, 14, 15] rfl) (hr238 hg)) ?_
              intro v240 w239 hv241 hz242
              replace hs := Sat.ofG (fun hg => (hv241 hg).2.re 16 [0, 1, 2, 3, 4, 5, 6, 7, 8, 9, 10, 11, 12, 13, 14, 15] rfl) hz242 hs
              refine WL_sub1 (v := (.int .i64 r237)) (fun hg => (hv241 hg).1) ?_
              replace hs := Sat.n16 (Γ := Φ) hs rfl
              refine WL_nil ?_
              refine At_QK (allJ_cons ((hs.box (i := 1) rfl).part 1 rfl) allJ_nil) ?_
              obtain ⟨b243, e244, hm⟩ := letv_some hm
              refine WD_pureG rfl rfl rfl rfl guard_neg (fun _ => (Run.eqB (Run_neI (Opd.g rfl id) (Opd.g rfl id)) e244)) rfl rfl rfl <| ?_
              obtain ⟨b245, e246, hm⟩ := letv_some hm
              refine WD_pure (fun _ => (Run.eqB (Run_or (Opd.t rfl) (Opd.g rfl id)) e246)) rfl rfl rfl rfl <| WD_pure (fun _ => (Run_move (Opd.t rfl))) rfl rfl rfl rfl <| WD_opG (fun w => CellsAt w ⟨b162, 0, none⟩ [(.int .i64 r164.1.1), (sl v166), (.int .i64 r164.1.2.2.1), (.int .i64 r164.1.2.2.2.1), (sl v167)]) ((hs.box (i := 6) rfl).part 0 rfl) rfl rfl rfl rfl guard_neg (fun _ hJ => (Run_loadA (vs := [(.int .i64 r164.1.1), (sl v166), (.int .i64 r164.1.2.2.1), (.int .i64 r164.1.2.2.2.1), (sl v167)]) Try.underlying29 rfl ti29 (Opd.t rfl) (fun _ => hJ) rfl)) rfl rfl rfl <| WD_opG (fun w => CellsAt w ⟨b222, 0, none⟩ [(.int .i64 r224.1.1), (sl v226)]) ((hs.box (i := 1) rfl).part 0 rfl) rfl rfl rfl rfl guard_neg (fun _ hJ => (Run_loadA (vs := [(.int .i64 r224.1.1), (sl v226)]) Try.underlying34 rfl ti34 (Opd.t rfl) (fun _ => hJ) rfl)) rfl rfl rfl <| ?_
              refine WD_loud (pend' := [(19, fun w => CellsAt w ⟨b222, 0, none⟩ [(.int .i64 r224.1.1), (sl v226)]), (12, fun w => CellsAt w ⟨b222, 1, none⟩ [(sl v226)])]) rfl (by kernel_rfl) ?_
              obtain ⟨r247, hr248, -, hm⟩ := callG_some hm
              refine WL_callG rfl rfl rfl guard_neg (f := 16) (first := []) (cap := []) (xs := [(.tmp 88)]) (vs := [(.agg #[(.int .i64 r164.1.1), (sl v166), (.int .i64 r164.1.2.2.1), (.int .i64 r164.1.2.2.2.1), (sl v167)])]) (args := [(.agg #[(.int .i64 r164.1.1), (sl v166), (.int .i64 r164.1.2.2.1), (.int .i64 r164.1.2.2.2.1), (sl v167)])]) Try.call16 Opd.f (.cons (Opd.g rfl id) .nil) rfl rfl (fun hg => dfa_Size_ok (hs.re 16 [4, 5, 0, 1, 2, 3, 4, 5, 6, 7, 8, 9, 10, 11, 12, 13, 14, 15] rfl) (hr248 hg)) ?_
              intro v250 w249 hv251 hz252
              replace hs := Sat.ofG (fun hg => (hv251 hg).2.re 16 [0, 1, 2, 3, 4, 5, 6, 7, 8, 9, 10, 11, 12, 13, 14, 15] rfl) hz252 hs
              refine WL_sub1 (v := (.int .i64 r247)) (fun hg => (hv251 hg).1) ?_
              replace hs := Sat.n16 (Γ := Φ) hs rfl
              refine WL_nil ?_
              refine At_QK (allJ_cons ((hs.box (i := 1) rfl).part 0 rfl) (allJ_cons ((hs.box (i := 1) rfl).part 1 rfl) allJ_nil)) ?_
              refine WD_loud (pend' := [(12, fun w => CellsAt w ⟨b222, 1, none⟩ [(sl v226)])]) rfl (by kernel_rfl) ?_
              obtain ⟨r253, hr254, -, hm⟩ := callG_some hm
              refine WL_callG rfl rfl rfl guard_neg (f := 17) (first := []) (cap := []) (xs := [(.tmp 90)]) (vs := [(.agg #[(.int .i64 r224.1.1), (sl v226)])]) (args := [(.agg #[(.int .i64 r224.1.1), (sl v226)])]) Try.call17 Opd.f (.cons (Opd.g rfl id) .nil) rfl rfl (fun hg => scrutinyref09_Size_ok (hs.re 16 [0, 0, 1, 2, 3, 4, 5, 6, 7, 8, 9, 10, 11, 12, 13, 14, 15] rfl) (hr254 hg)) ?_
              intro v256 w255 hv257 hz258
              replace hs := Sat.ofG (fun hg => (hv257 hg).2.re 16 [0, 1, 2, 3, 4, 5, 6, 7, 8, 9, 10, 11, 12, 13, 14, 15] rfl) hz258 hs
              refine WL_sub1 (v := (.int .i64 r253)) (fun hg => (hv257 hg).1) ?_
              replace hs := Sat.n16 (Γ := Φ) hs rfl
              refine WL_nil ?_
              refine At_QK (allJ_cons ((hs.box (i := 1) rfl).part 1 rfl) allJ_nil) ?_
              obtain ⟨b259, e260, hm⟩ := letv_some hm
              refine WD_pureG rfl rfl rfl rfl guard_neg (fun _ => (Run.eqB (Run_neI (Opd.g rfl id) (Opd.g rfl id)) e260)) rfl rfl rfl <| ?_
              obtain ⟨b261, e262, hm⟩ := letv_some hm
              refine WD_pure (fun _ => (Run.eqB (Run_or (Opd.t rfl) (Opd.g rfl id)) e262)) rfl rfl rfl rfl <| ?_
              refine WD_nil ?_
              refine At_then ?_
              refine WC_cond (Opd.t rfl) (fun hc263 => ?_) (fun hc263 => ?_)
              ·
                replace hm := bif_t hc263 hm
                refine WC_seq ?_
                refine WC_region ?_
                refine WL_op (Run_assign Opd.c) rfl rfl rfl rfl <| ?_
                refine WL_nil ?_
                refine At_then ?_
                refine WC_ret ?_
                refine At_then_ret <| At_blk_ret <| At_then_ret <| At_then_ret <| At_blk_ret <| At_then_ret <| ?_
                refine At_r1 rfl (ResIs.t rfl) ?_
                cases hm
                exact ⟨rfl, (hs.re 16 [] rfl)⟩
              ·
                replace hm := bif_f hc263 hm
                refine WC_skip ?_
                refine At_then ?_
                refine WC_seq ?_
                refine WC_region ?_
                refine WL_op (Run_loadA (vs := [(.int .i64 r164.1.1), (sl v166), (.int .i64 r164.1.2.2.1), (.int .i64 r164.1.2.2.2.1), (sl v167)]) Try.underlying29 rfl ti29 (Opd.t rfl) (fun _ => (hs.box (i := 6) rfl).part 0 rfl) rfl) rfl rfl rfl rfl <| ?_
                refine WS_store (us := [(.int .i64 r164.1.1), (sl v166), (.int .i64 r164.1.2.2.1), (.int .i64 r164.1.2.2.2.1), (sl v167)]) (vs' := [(.int .i64 r164.1.1), (sl v166), (.int .i64 r164.1.2.2.1), (.int .i64 r164.1.2.2.2.1), (sl v167)]) hs 11 rfl ti29 (Opd.t rfl) (Opd.t rfl) rfl rfl rfl rfl rfl ?_
                intro w264 hs
                replace hs := Sat.n16 (Γ := Φ) hs rfl
                refine WL_nil ?_
                refine At_then ?_
                refine WC_region ?_
                refine WL_op (Run_loadA (vs := [(.int .i64 r224.1.1), (sl v226)]) Try.underlying34 rfl ti34 (Opd.t rfl) (fun _ => (hs.box (i := 1) rfl).part 0 rfl) rfl) rfl rfl rfl rfl <| ?_
                refine WS_store (us := [(.int .i64 r224.1.1), (sl v226)]) (vs' := [(.int .i64 r224.1.1), (sl v226)]) hs 14 rfl ti34 (Opd.t rfl) (Opd.t rfl) rfl rfl rfl rfl rfl ?_
                intro w265 hs
                replace hs := Sat.n16 (Γ := Φ) hs rfl
                refine WL_nil ?_
                refine At_blk_normal ?_
                refine At_then ?_
                refine WC_region ?_
                refine WL_op (Run_move (Opd.t rfl)) rfl rfl rfl rfl <| WL_op (Run_add (Opd.t rfl) Opd.c) rfl rfl rfl rfl <| WL_op (Run_assign (Opd.t rfl)) rfl rfl rfl rfl <| ?_
                refine WL_nil ?_
                exact At_again (r164.1.1, r164.1.2.1, r164.1.2.2.1, r164.1.2.2.2.1, r164.1.2.2.2.2, r224.1.1, r224.1.2, (IntKind.i64.wrap (i47 + 1))) (v166, v167, v226) hm (hs.re 16 [9, 10, 11, 4, 5, 14, 0] rfl) rfl
        ·
          replace hm := bif_f hc49 hm
          refine WC_exit ?_
          refine At_then_exit <| At_then_exit <| At_blk_here <| ?_
          refine At_then ?_
          refine WC_seq ?_
          refine WC_region_mixed [0, 1, 2, 6, 2, 18, 42, 66, 192, 256, 256, 1792, 256, 256, 14592, 18688, 33024, 131071] (.q 0 0 (.q 1 1 (.q 2 3 (.q 4 7 (.q 5 23 (.l 3 55 (.l 6 63 (.q 7 127 (.q 8 255 (.q 9 511 (.q 10 1023 (.q 12 2047 (.q 13 6143 (.l 11 14335 (.l 14 16383 (.q 15 32767 (.q 16 65535 (.q 17 131071 .nil)))))))))))))))))) (by kernel_rfl) (by kernel_rfl) ?_
          intro w266 hx267
          replace hs := hs.ext hx267
          refine WD_pure (fun _ => (Run_move (Opd.t rfl))) rfl rfl rfl rfl <| WD_pure (fun _ => (Run_move (Opd.t rfl))) rfl rfl rfl rfl <| WD_opG (fun w => CellsAt w ⟨b23, 0, none⟩ [(.int .i64 c37), (sl v39), (.int .i64 c40), (.int .i64 c41), (sl v43)]) ((hs.box (i := 2) rfl).part 0 rfl) rfl rfl rfl rfl guard_pos (fun _ hJ => (Run_loadA (vs := [(.int .i64 c37), (sl v39), (.int .i64 c40), (.int .i64 c41), (sl v43)]) Try.underlying29 rfl ti29 (Opd.t rfl) (fun _ => hJ) rfl)) rfl rfl rfl <| WD_pureG rfl rfl rfl rfl guard_pos (fun _ => (Run_fieldAddr fo34_1 (Opd.t rfl))) rfl rfl rfl <| WD_opG (fun w => CellsAt w ⟨b31, 1, none⟩ [(sl v46)]) ((hs.box (i := 5) rfl).part 1 rfl) rfl rfl rfl rfl guard_pos (fun _ hJ => (Run_load1 (v := (sl v46)) Try.underlying22 rfl (Opd.g rfl id) (fun _ => hJ))) rfl rfl rfl <| ?_
          refine WD_loud (pend' := [(5, fun w => CellsAt w ⟨b31, 1, none⟩ [(sl v46)])]) rfl (by kernel_rfl) ?_
          obtain ⟨r268, hr269, -, hm⟩ := callG_some hm
          refine WL_callG rfl rfl rfl guard_pos (f := 19) (first := []) (cap := []) (xs := [(.tmp 98)]) (vs := [(.agg #[(.int .i64 c37), (sl v39), (.int .i64 c40), (.int .i64 c41), (sl v43)])]) (args := [(.agg #[(.int .i64 c37), (sl v39), (.int .i64 c40), (.int .i64 c41), (sl v43)])]) Try.call19 Opd.f (.cons (Opd.g rfl id) .nil) rfl rfl (fun hg => dfa_Words_ok (d := (c37, c38, c40, c41, c42)) (hs.re 7 [3, 4, 0, 1, 2, 3, 4, 5, 6] rfl) (hr269 hg)) ?_
          intro v273 w272 hv274 hz275
          obtain ⟨v270, hw276, hs⟩ : ∃ v270 : SLV, (r3 = true → v273 = (sl v270)) ∧ Sat (immG r3 (RSl (RSl (RI .u8))) [sl v270] r268 :: imm (RSl (RSl (RI .u8))) [sl v1] l :: imm (RSl (RI .u8)) [sl v4] w3 :: box b23 29 [(.int .i64 c37), (sl v39), (.int .i64 c40), (.int .i64 c41), (sl v43)] :: imm (RSl (RP (RSl (RP (RI .u8) (RI .i64))) (RI .i64))) [sl v39] c38 :: imm (RSl (RI .i64)) [sl v43] c42 :: box b31 34 [(.int .i64 c44), (sl v46)] :: imm (RSl (RSl (RI .u8))) [sl v46] c45 :: Φ) w272 := by
            cases hg : r3
            · rw [hz275 hg]; exact ⟨(none, 0, 0), (fun h => by cases h), (sat_addG0 hs rfl)⟩
            · obtain ⟨v270, R271, hq, hs⟩ := hv274 hg
              replace hs := hs.freeze (i := 0) rfl
              replace hs := hs.re 8 [0, 1, 2, 3, 4, 5, 6, 7] rfl
              replace hs := sat_gate hs (i := 0) rfl true
              exact ⟨v270, (fun _ => hq), hs⟩
          refine WL_sub1 (v := (sl v270)) hw276 ?_
          refine WL_nil ?_
          refine At_QK (allJ_cons ((hs.box (i := 6) rfl).part 1 rfl) allJ_nil) ?_
          refine WD_loud (pend' := []) rfl (by kernel_rfl) ?_
          obtain ⟨r277, hr278, -, hm⟩ := callG_some hm
          refine WL_callG rfl rfl rfl guard_pos (f := 18) (first := []) (cap := []) (xs := [(.tmp 99), (.tmp 101)]) (vs := [(sl v270), (sl v46)]) (args := [(sl v270), (sl v46)]) Try.call18 Opd.f (.cons (Opd.g rfl id) (.cons (Opd.g rfl id) .nil)) rfl rfl (fun hg => scrutinyref04_Rows_ok ((hs.dupS (i := 0) rfl hg).re 9 [0, 8, 1, 2, 3, 4, 5, 6, 7, 8] rfl) (hr278 hg)) ?_
          intro v280 w279 hv281 hz282
          replace hs := Sat.ofG (fun hg => (hv281 hg).2.re 8 [0, 1, 2, 3, 4, 5, 6, 7] rfl) hz282 hs
          refine WL_sub1 (v := (.bool r277)) (fun hg => (hv281 hg).1) ?_
          replace hs := Sat.n8 (Γ := Φ) hs rfl
          refine WL_nil ?_
          refine At_QK allJ_nil ?_
          obtain ⟨b283, e284, hm⟩ := letv_some hm
          refine WD_pure (fun _ => (Run.eqB (Run_and (Opd.t rfl) (Opd.g rfl id)) e284)) rfl rfl rfl rfl <| WD_pure (fun _ => (Run_move (Opd.t rfl))) rfl rfl rfl rfl <| WD_opG (fun w => CellsAt w ⟨b23, 0, none⟩ [(.int .i64 c37), (sl v39), (.int .i64 c40), (.int .i64 c41), (sl v43)]) ((hs.box (i := 3) rfl).part 0 rfl) rfl rfl rfl rfl guard_pos (fun _ hJ => (Run_loadA (vs := [(.int .i64 c37), (sl v39), (.int .i64 c40), (.int .i64 c41), (sl v43)]) Try.underlying29 rfl ti29 (Opd.t rfl) (fun _ => hJ) rfl)) rfl rfl rfl <| WD_pureG rfl rfl rfl rfl guard_pos (fun _ => (Run_move (Opd.t rfl))) rfl rfl rfl <| WD_opG (fun w => CellsAt w ⟨b31, 0, none⟩ [(.int .i64 c44), (sl v46)]) ((hs.box (i := 6) rfl).part 0 rfl) rfl rfl rfl rfl guard_pos (fun _ hJ => (Run_loadA (vs := [(.int .i64 c44), (sl v46)]) Try.underlying34 rfl ti34 (Opd.t rfl) (fun _ => hJ) rfl)) rfl rfl rfl <| WD_pureG rfl rfl rfl rfl guard_pos (fun _ => (Run_move (Opd.t rfl))) rfl rfl rfl <| ?_
          refine WD_loud (pend' := [(12, fun w => CellsAt w ⟨b31, 0, none⟩ [(.int .i64 c44), (sl v46)])]) rfl (by kernel_rfl) ?_
          obtain ⟨r285, hr286, -, hm⟩ := callG_some hm
          refine WL_callG rfl rfl rfl guard_pos (f := 20) (first := []) (cap := []) (xs := [(.tmp 105), (.tmp 106)]) (vs := [(.agg #[(.int .i64 c37), (sl v39), (.int .i64 c40), (.int .i64 c41), (sl v43)]), (sl v4)]) (args := [(.agg #[(.int .i64 c37), (sl v39), (.int .i64 c40), (.int .i64 c41), (sl v43)]), (sl v4)]) Try.call20 Opd.f (.cons (Opd.g rfl id) (.cons (Opd.g rfl id) .nil)) rfl rfl (fun hg => dfa_Has_ok (d := (c37, c38, c40, c41, c42)) (hs.re 8 [4, 5, 2, 0, 1, 2, 3, 4, 5, 6, 7] rfl) (hr286 hg)) ?_
          intro v288 w287 hv289 hz290
          replace hs := Sat.ofG (fun hg => (hv289 hg).2.re 8 [0, 1, 2, 3, 4, 5, 6, 7] rfl) hz290 hs
          refine WL_sub1 (v := (.bool r285)) (fun hg => (hv289 hg).1) ?_
          replace hs := Sat.n8 (Γ := Φ) hs rfl
          refine WL_nil ?_
          refine At_QK (allJ_cons ((hs.box (i := 6) rfl).part 0 rfl) allJ_nil) ?_
          refine WD_loud (pend' := []) rfl (by kernel_rfl) ?_
          obtain ⟨r291, hr292, -, hm⟩ := callG_some hm
          refine WL_callG rfl rfl rfl guard_pos (f := 21) (first := []) (cap := []) (xs := [(.tmp 108), (.tmp 109)]) (vs := [(.agg #[(.int .i64 c44), (sl v46)]), (sl v4)]) (args := [(.agg #[(.int .i64 c44), (sl v46)]), (sl v4)]) Try.call21 Opd.f (.cons (Opd.g rfl id) (.cons (Opd.g rfl id) .nil)) rfl rfl (fun hg => scrutinyref09_Has_ok (s := (c44, c45)) (hs.re 8 [7, 2, 0, 1, 2, 3, 4, 5, 6, 7] rfl) (hr292 hg)) ?_
          intro v294 w293 hv295 hz296
          replace hs := Sat.ofG (fun hg => (hv295 hg).2.re 8 [0, 1, 2, 3, 4, 5, 6, 7] rfl) hz296 hs
          refine WL_sub1 (v := (.bool r291)) (fun hg => (hv295 hg).1) ?_
          replace hs := Sat.n8 (Γ := Φ) hs rfl
          refine WL_nil ?_
          refine At_QK allJ_nil ?_
          obtain ⟨b297, e298, hm⟩ := letv_some hm
          refine WD_pureG rfl rfl rfl rfl guard_pos (fun _ => (Run.eqB (Run_eqB Try.underlying4 (Opd.g rfl id) (Opd.g rfl id)) e298)) rfl rfl rfl <| ?_
          obtain ⟨b299, e300, hm⟩ := letv_some hm
          refine WD_pure (fun _ => (Run.eqB (Run_and (Opd.t rfl) (Opd.g rfl id)) e300)) rfl rfl rfl rfl <| WD_pure (fun _ => (Run_assign (Opd.t rfl))) rfl rfl rfl rfl <| ?_
          refine WD_nil ?_
          refine At_then ?_
          refine WC_ret ?_
          refine At_r1 rfl (ResIs.t rfl) ?_
          cases hm
          exact ⟨rfl, (hs.re 8 [] rfl)⟩

end Go.Proofs.Ytjappdgehmjomaa
