/- Printed by a program: the walks. -/
import Derived.Test.YtjappdgehmjomaaTypes
import Derived.Test.YtjappdgehmjomaaWalk1
import Derived.Test.YtjappdgehmjomaaWalk2
import Derived.Test.YtjappdgehmjomaaWalk8
import Derived.Test.YtjappdgehmjomaaWalk9
import Derived.Test.YtjappdgehmjomaaWalk10
import Derived.Test.YtjappdgehmjomaaWalk14
namespace Go.Proofs.Ytjappdgehmjomaa
open Go.Proofs

set_option maxRecDepth 100000 in
set_option maxHeartbeats 4000000 in
theorem scrutinylaw09_DfaOld_ok {Φ : Ctx} {w : World} {l : (List (List Int))} {w3 : (List Int)} {other : (List Int)} {v1 : SLV} {v4 : SLV} {v6 : SLV} {r : Bool} (hs : Sat (imm (RSl (RSl (RI .u8))) [sl v1] l :: imm (RSl (RI .u8)) [sl v4] w3 :: imm (RSl (RI .u8)) [sl v6] other :: Φ) w) (hm : scrutinylaw09_DfaOld l w3 other = some r) :
    CallsR Try.prog 5 [(sl v1), (sl v4), (sl v6)] w (fun v w' => v = (.bool r) ∧ Sat (Φ) w') := by
  refine CallsX_enter Try.func5 rfl Try.ntmps5 rfl ?_
  unfold scrutinylaw09_DfaOld at hm
  refine WC_seq ?_
  refine WC_region ?_
  refine WL_op (Run_assign Opd.c) rfl rfl rfl rfl <| ?_
  refine WL_nil ?_
  refine At_then ?_
  refine WC_seq ?_
  refine WC_region ?_
  obtain ⟨r3, hr4, hm⟩ := bind_some' hm
  refine WL_call (f := 9) (first := []) (cap := []) (xs := []) (vs := []) (args := []) Try.call9 Opd.f .nil rfl rfl (scrutinylaw09_shown_ok (hs.re 3 [0, 1, 2] rfl) hr4) ?_
  rintro _ w5 ⟨rfl, hs⟩
  replace hs := Sat.n3 (Γ := Φ) hs rfl
  refine WL_op (Run_assign (Opd.t rfl)) rfl rfl rfl rfl <| ?_
  refine WL_nil ?_
  refine At_then ?_
  refine WC_seq ?_
  refine WC_region ?_
  refine WL_op (Run_move (Opd.t rfl)) rfl rfl rfl rfl <| WL_op (Run_lenSlG Try.underlying23 (Opd.t rfl) (fun hg => (hs.sl (i := 1) rfl).len)) rfl rfl rfl rfl <| WL_op (Run_assign (Opd.t rfl)) rfl rfl rfl rfl <| ?_
  refine WL_nil ?_
  refine At_then ?_
  refine WC_seq ?_
  refine WC_seq ?_
  refine WC_region ?_
  refine WL_op (Run_move (Opd.t rfl)) rfl rfl rfl rfl <| WL_op (Run_lenSlG Try.underlying22 (Opd.t rfl) (fun hg => (hs.sl (i := 0) rfl).len)) rfl rfl rfl rfl <| ?_
  obtain ⟨b6, e7, hm⟩ := letv_some hm
  refine WL_op (Run.eqB (Run_gtI (Opd.t rfl) Opd.c) e7) rfl rfl rfl rfl <| WL_op (Run_move (Opd.t rfl)) rfl rfl rfl rfl <| WL_opG rfl rfl rfl rfl guard_neg (Run_move (Opd.t rfl)) rfl rfl rfl <| ?_
  obtain ⟨b8, e9, hm⟩ := letv_some hm
  refine WL_opG rfl rfl rfl rfl guard_neg (Run.eqB (Run_ltI (Opd.g rfl id) Opd.c) e9) rfl rfl rfl <| ?_
  obtain ⟨b10, e11, hm⟩ := letv_some hm
  refine WL_op (Run.eqB (Run_or (Opd.t rfl) (Opd.g rfl id)) e11) rfl rfl rfl rfl <| WL_op (Run_move (Opd.t rfl)) rfl rfl rfl rfl <| WL_opG rfl rfl rfl rfl guard_neg (Run_move (Opd.t rfl)) rfl rfl rfl <| ?_
  obtain ⟨b12, e13, hm⟩ := letv_some hm
  refine WL_opG rfl rfl rfl rfl guard_neg (Run.eqB (Run_gtI (Opd.g rfl id) Opd.c) e13) rfl rfl rfl <| ?_
  obtain ⟨b14, e15, hm⟩ := letv_some hm
  refine WL_op (Run.eqB (Run_or (Opd.t rfl) (Opd.g rfl id)) e15) rfl rfl rfl rfl <| WL_op (Run_move (Opd.t rfl)) rfl rfl rfl rfl <| WL_opG rfl rfl rfl rfl guard_neg (Run_move (Opd.t rfl)) rfl rfl rfl <| WL_opG rfl rfl rfl rfl guard_neg (Run_lenSlG Try.underlying23 (Opd.g rfl id) (fun hg => (hs.sl (i := 2) rfl).len)) rfl rfl rfl <| ?_
  obtain ⟨b16, e17, hm⟩ := letv_some hm
  refine WL_opG rfl rfl rfl rfl guard_neg (Run.eqB (Run_gtI (Opd.g rfl id) Opd.c) e17) rfl rfl rfl <| ?_
  obtain ⟨b18, e19, hm⟩ := letv_some hm
  refine WL_op (Run.eqB (Run_or (Opd.t rfl) (Opd.g rfl id)) e19) rfl rfl rfl rfl <| ?_
  refine WL_nil ?_
  refine At_then ?_
  refine WC_cond (Opd.t rfl) (fun hc20 => ?_) (fun hc20 => ?_)
  ·
    replace hm := bif_t hc20 hm
    refine WC_seq ?_
    refine WC_region ?_
    refine WL_op (Run_move (Opd.t rfl)) rfl rfl rfl rfl <| WL_op (Run_assign (Opd.t rfl)) rfl rfl rfl rfl <| ?_
    refine WL_nil ?_
    refine At_then ?_
    refine WC_ret ?_
    refine At_then_ret <| ?_
    refine At_r1 rfl (ResIs.t rfl) ?_
    cases hm
    exact ⟨rfl, (hs.re 3 [] rfl)⟩
  ·
    replace hm := bif_f hc20 hm
    refine WC_skip ?_
    refine At_then ?_
    refine WC_seq ?_
    refine WC_region ?_
    refine WL_op (Run_move (Opd.t rfl)) rfl rfl rfl rfl <| ?_
    obtain ⟨r21, hr22, hm⟩ := bind_some' hm
    refine WL_call (f := 11) (first := []) (cap := []) (xs := [(.tmp 43)]) (vs := [(.int .i64 (List.length w3 : Int))]) (args := [(.int .i64 (List.length w3 : Int))]) Try.call11 Opd.f (.cons (Opd.t rfl) .nil) rfl rfl (dfa_New_ok (hs.re 3 [0, 1, 2] rfl) hr22) ?_
    rintro _ w27 ⟨v23, R24, v25, R26, rfl, hs⟩
    replace hs := Sat.n5 (Γ := Φ) hs rfl
    refine WL_op (Run_move (Opd.t rfl)) rfl rfl rfl rfl <| WL_op (Run_extract (vs := [(.agg #[(.int .i64 r21.1.1), (sl v23), (.int .i64 r21.1.2.2.1), (.int .i64 r21.1.2.2.2.1), (sl v25)]), (.int .i64 r21.2)]) (Opd.t rfl) rfl) rfl rfl rfl rfl <| WL_op (Run_extract (vs := [(.agg #[(.int .i64 r21.1.1), (sl v23), (.int .i64 r21.1.2.2.1), (.int .i64 r21.1.2.2.2.1), (sl v25)]), (.int .i64 r21.2)]) (Opd.t rfl) rfl) rfl rfl rfl rfl <| ?_
    refine WS_alloc (zs := [(.int .i64 0), (sl (none, 0, 0)), (.int .i64 0), (.int .i64 0), (sl (none, 0, 0))]) hs ti29 rfl rfl ?_
    intro b28 w29 hs
    replace hs := Sat.n6 (Γ := Φ) hs rfl
    refine WS_store (us := [(.int .i64 r21.1.1), (sl v23), (.int .i64 r21.1.2.2.1), (.int .i64 r21.1.2.2.2.1), (sl v25)]) (vs' := [(.int .i64 r21.1.1), (sl v23), (.int .i64 r21.1.2.2.1), (.int .i64 r21.1.2.2.2.1), (sl v25)]) hs 0 rfl ti29 (Opd.t rfl) (Opd.t rfl) rfl rfl rfl rfl rfl ?_
    intro w30 hs
    replace hs := Sat.n6 (Γ := Φ) hs rfl
    refine WL_op (Run_assign (Opd.t rfl)) rfl rfl rfl rfl <| ?_
    refine WL_nil ?_
    refine At_then ?_
    refine WC_seq ?_
    refine WC_seq ?_
    refine WC_region ?_
    refine WL_op (Run_assign Opd.c) rfl rfl rfl rfl <| ?_
    refine WL_nil ?_
    refine At_then ?_
    refine WC_block ?_
    replace hs := hs.freeze (i := 1) rfl
    replace hs := hs.freeze (i := 2) rfl
    refine WC_loop (σ := Int × (List ((List (Int × Int)) × Int)) × Int × Int × (List Int) × Int) (γ := SLV × SLV) (F := (scrutinylaw09_DfaOld_L1 l w3 other r3 r21)) (N := FUEL) (s0 := (r21.1.1, r21.1.2.1, r21.1.2.2.1, r21.1.2.2.2.1, r21.1.2.2.2.2, 0)) (r := r) (fun ⟨c32, c33, c35, c36, c37, i39⟩ ⟨v34, v38⟩ w31 => Sat (imm (RSl (RSl (RI .u8))) [sl v1] l :: imm (RSl (RI .u8)) [sl v4] w3 :: imm (RSl (RI .u8)) [sl v6] other :: box b28 29 [(.int .i64 c32), (sl v34), (.int .i64 c35), (.int .i64 c36), (sl v38)] :: imm (RSl (RP (RSl (RP (RI .u8) (RI .i64))) (RI .i64))) [sl v34] c33 :: imm (RSl (RI .i64)) [sl v38] c37 :: Φ) w31) (fun ⟨c32, c33, c35, c36, c37, i39⟩ ⟨v34, v38⟩ => [(0, true, (sl v1)), (1, true, (sl v4)), (2, true, (sl v6)), (7, true, (.bool r3)), (8, true, (.int .i64 (List.length w3 : Int))), (9, true, (.pointer (some ⟨b28, 0, none⟩))), (10, true, (.int .i64 r21.2)), (11, true, (.int .i64 i39))]) hm (v23, v25) (hs.re 6 [3, 4, 5, 0, 1, 2] rfl) rfl ?_
    rintro again40 ⟨c32, c33, c35, c36, c37, i39⟩ ⟨v34, v38⟩ w31 hm hs
    unfold scrutinylaw09_DfaOld_L1 at hm
    dsimp only at hm
    refine WC_seq ?_
    refine WC_seq ?_
    refine WC_region ?_
    refine WL_op (Run_move (Opd.t rfl)) rfl rfl rfl rfl <| WL_op (Run_move (Opd.t rfl)) rfl rfl rfl rfl <| WL_op (Run_lenSlG Try.underlying22 (Opd.t rfl) (fun hg => (hs.sl (i := 0) rfl).len)) rfl rfl rfl rfl <| WL_op (Run_ltI (Opd.t rfl) (Opd.t rfl)) rfl rfl rfl rfl <| ?_
    refine WL_nil ?_
    refine At_then ?_
    refine WC_cond (Opd.t rfl) (fun hc41 => ?_) (fun hc41 => ?_)
    ·
      replace hm := bif_t hc41 hm
      refine WC_skip ?_
      refine At_then ?_
      refine WC_seq ?_
      refine WC_block ?_
      refine WC_seq ?_
      refine WC_seq ?_
      refine WC_region ?_
      refine WL_op (Run_move (Opd.t rfl)) rfl rfl rfl rfl <| WL_op (Run_move (Opd.t rfl)) rfl rfl rfl rfl <| ?_
      obtain ⟨e42, he43, hm⟩ := bind_some' hm
      obtain ⟨v44, hC45, hN46, hR47⟩ := cellsM23 (g := true) (fun hg => (hs.sl (i := 0) rfl)) (fun hg => he43)
      replace hs := hs.addL [elem true (elA (sl v1) i39 1) [(sl v44)], imm (RSl (RI .u8)) [sl v44] e42] rfl ⟨fun hg => ⟨hN46 hg, hC45 hg⟩, ⟨_, rfl, hR47 rfl⟩, trivial⟩
      replace hs := Sat.n8 (Γ := Φ) hs rfl
      refine WL_op (Run_idxAddr (p := (elA (sl v1) i39 1)) Try.underlying22 ti23 (Opd.t rfl) (Opd.t rfl) (fun hg => (SRd.atA (A := (RSl (RI .u8))) (v := (sl v1)) (hs.sl (i := 2) rfl) he43).1)) rfl rfl rfl rfl <| WL_op (Run_load1 (v := (sl v44)) Try.underlying23 rfl (Opd.t rfl) (fun hg => ((hs.elem (i := 0) rfl) hg).sub 0 rfl)) rfl rfl rfl rfl <| WL_op (Run_lenSlG Try.underlying23 (Opd.t rfl) (fun hg => (hs.sl (i := 1) rfl).len)) rfl rfl rfl rfl <| WL_op (Run_move (Opd.t rfl)) rfl rfl rfl rfl <| WL_op (Run_neI (Opd.t rfl) (Opd.t rfl)) rfl rfl rfl rfl <| ?_
      refine WL_nil ?_
      refine At_then ?_
      refine WC_cond (Opd.t rfl) (fun hc48 => ?_) (fun hc48 => ?_)
      ·
        replace hm := bif_t hc48 hm
        refine WC_seq ?_
        refine WC_region ?_
        refine WL_op (Run_move (Opd.t rfl)) rfl rfl rfl rfl <| WL_op (Run_assign (Opd.t rfl)) rfl rfl rfl rfl <| ?_
        refine WL_nil ?_
        refine At_then ?_
        refine WC_ret ?_
        refine At_then_ret <| At_blk_ret <| At_then_ret <| At_then_ret <| At_blk_ret <| At_then_ret <| ?_
        refine At_r1 rfl (ResIs.t rfl) ?_
        cases hm
        exact ⟨rfl, (hs.re 8 [] rfl)⟩
      ·
        replace hm := bif_f hc48 hm
        refine WC_skip ?_
        refine At_then ?_
        refine WC_seq ?_
        refine WC_region_mixed [0, 0, 0, 6, 8, 17, 32, 64, 64, 64, 0, 1279, 3583, 8191] (.q 0 0 (.q 1 1 (.q 2 3 (.q 3 7 (.q 4 15 (.l2 31 5 (.q 6 63 (.q 7 127 (.q 8 255 (.q 9 511 (.l 10 1023 (.l 11 2047 (.q 12 4095 (.q 13 8191 .nil)))))))) 10 (.l 5 1055 (.q 6 1087 (.q 7 1151 (.q 8 1279 (.q 9 1535 (.l 11 2047 (.q 12 4095 (.q 13 8191 .nil)))))))))))))) (by kernel_rfl) (by kernel_rfl) ?_
        intro w49 hx50
        replace hs := hs.ext hx50
        refine WD_op (fun w => CellsAt w ⟨b28, 0, none⟩ [(.int .i64 c32), (sl v34), (.int .i64 c35), (.int .i64 c36), (sl v38)]) ((hs.box (i := 5) rfl).part 0 rfl) (fun _ hJ => (Run_loadA (vs := [(.int .i64 c32), (sl v34), (.int .i64 c35), (.int .i64 c36), (sl v38)]) Try.underlying29 rfl ti29 (Opd.t rfl) (fun _ => hJ) rfl)) rfl rfl rfl rfl <| WD_pure (fun _ => (Run_move (Opd.t rfl))) rfl rfl rfl rfl <| WD_pure (fun _ => (Run_move (Opd.t rfl))) rfl rfl rfl rfl <| ?_
        obtain ⟨e51, he52, hm⟩ := bind_some' hm
        obtain ⟨v53, hC54, hN55, hR56⟩ := cellsM23 (g := true) (fun hg => (hs.sl (i := 2) rfl)) (fun hg => he52)
        replace hs := hs.addL [elem true (elA (sl v1) i39 1) [(sl v53)], imm (RSl (RI .u8)) [sl v53] e51] rfl ⟨fun hg => ⟨hN55 hg, hC54 hg⟩, ⟨_, rfl, hR56 rfl⟩, trivial⟩
        replace hs := Sat.n10 (Γ := Φ) hs rfl
        refine WD_pure (fun _ => (Run_idxAddr (p := (elA (sl v1) i39 1)) Try.underlying22 ti23 (Opd.t rfl) (Opd.t rfl) (fun hg => (SRd.atA (A := (RSl (RI .u8))) (v := (sl v1)) (hs.sl (i := 4) rfl) he52).1))) rfl rfl rfl rfl <| WD_op (fun w => true = true → CellsAt w (elA (sl v1) i39 1) [(sl v53)]) (fun hg => ((hs.elem (i := 0) rfl) hg).sub 0 rfl) (fun _ hJ => (Run_load1 (v := (sl v53)) Try.underlying23 rfl (Opd.t rfl) hJ)) rfl rfl rfl rfl <| ?_
        refine WD_loud2 ?_ ?_
        ·
          refine WD_loud (pend' := []) rfl (by kernel_rfl) ?_
          obtain ⟨r57, hr58, hm⟩ := bind_some' hm
          refine WL_call (f := 13) (first := []) (cap := []) (xs := [(.tmp 62), (.tmp 66)]) (vs := [(.agg #[(.int .i64 c32), (sl v34), (.int .i64 c35), (.int .i64 c36), (sl v38)]), (sl v53)]) (args := [(.agg #[(.int .i64 c32), (sl v34), (.int .i64 c35), (.int .i64 c36), (sl v38)]), (sl v53)]) Try.call13 Opd.f (.cons (Opd.t rfl) (.cons (Opd.t rfl) .nil)) rfl rfl (dfa_Insert_ok (d := (c32, c33, c35, c36, c37)) (hs.re 10 [8, 9, 1, 0, 1, 2, 3, 4, 5, 6, 7, 8, 9] rfl) hr58) ?_
          rintro _ w61 ⟨v59, v60, rfl, hs⟩
          replace hs := Sat.n12 (Γ := Φ) hs rfl
          refine WL_nil ?_
          refine At_QK allJ_nil ?_
          refine WD_pure (fun _ => (Run_move (Opd.t rfl))) rfl rfl rfl rfl <| WD_pure (fun _ => (Run_extract (vs := [(.agg #[(.int .i64 r57.1.1), (sl v59), (.int .i64 r57.1.2.2.1), (.int .i64 r57.1.2.2.2.1), (sl v60)]), (.bool r57.2.1), (.int .i64 r57.2.2)]) (Opd.t rfl) rfl)) rfl rfl rfl rfl <| WD_pure (fun _ => (Run_extract (vs := [(.agg #[(.int .i64 r57.1.1), (sl v59), (.int .i64 r57.1.2.2.1), (.int .i64 r57.1.2.2.2.1), (sl v60)]), (.bool r57.2.1), (.int .i64 r57.2.2)]) (Opd.t rfl) rfl)) rfl rfl rfl rfl <| WD_pure (fun _ => (Run_extract (vs := [(.agg #[(.int .i64 r57.1.1), (sl v59), (.int .i64 r57.1.2.2.1), (.int .i64 r57.1.2.2.2.1), (sl v60)]), (.bool r57.2.1), (.int .i64 r57.2.2)]) (Opd.t rfl) rfl)) rfl rfl rfl rfl <| ?_
          refine WD_loud (pend' := []) rfl (by kernel_rfl) ?_
          refine WS_alloc (zs := [(.int .i64 0), (sl (none, 0, 0)), (.int .i64 0), (.int .i64 0), (sl (none, 0, 0))]) hs ti29 rfl rfl ?_
          intro b62 w63 hs
          replace hs := Sat.n13 (Γ := Φ) hs rfl
          refine WL_nil ?_
          refine At_QK allJ_nil ?_
          refine WD_loud (pend' := []) rfl (by kernel_rfl) ?_
          refine WS_store (us := [(.int .i64 r57.1.1), (sl v59), (.int .i64 r57.1.2.2.1), (.int .i64 r57.1.2.2.2.1), (sl v60)]) (vs' := [(.int .i64 r57.1.1), (sl v59), (.int .i64 r57.1.2.2.1), (.int .i64 r57.1.2.2.2.1), (sl v60)]) hs 0 rfl ti29 (Opd.t rfl) (Opd.t rfl) rfl rfl rfl rfl rfl ?_
          intro w64 hs
          replace hs := Sat.n13 (Γ := Φ) hs rfl
          refine WL_nil ?_
          refine At_QK allJ_nil ?_
          refine WD_pure (fun _ => (Run_assign (Opd.t rfl))) rfl rfl rfl rfl <| WD_pure (fun _ => (Run_assign (Opd.t rfl))) rfl rfl rfl rfl <| ?_
          refine WD_nil ?_
          refine At_then ?_
          refine WC_seq ?_
          refine WC_seq ?_
          refine WC_region ?_
          refine WL_op (Run_move (Opd.t rfl)) rfl rfl rfl rfl <| WL_op (Run_neI (Opd.t rfl) Opd.c) rfl rfl rfl rfl <| ?_
          refine WL_nil ?_
          refine At_then ?_
          refine WC_cond (Opd.t rfl) (fun hc65 => ?_) (fun hc65 => ?_)
          ·
            replace hm := bif_t hc65 hm
            refine WC_seq ?_
            refine WC_region ?_
            refine WL_op (Run_assign Opd.c) rfl rfl rfl rfl <| ?_
            refine WL_nil ?_
            refine At_then ?_
            refine WC_ret ?_
            refine At_then_ret <| At_blk_ret <| At_then_ret <| At_then_ret <| At_blk_ret <| At_then_ret <| ?_
            refine At_r1 rfl (ResIs.t rfl) ?_
            cases hm
            exact ⟨rfl, (hs.re 13 [] rfl)⟩
          ·
            replace hm := bif_f hc65 hm
            refine WC_skip ?_
            refine At_then ?_
            refine WC_region ?_
            refine WL_op (Run_loadA (vs := [(.int .i64 r57.1.1), (sl v59), (.int .i64 r57.1.2.2.1), (.int .i64 r57.1.2.2.2.1), (sl v60)]) Try.underlying29 rfl ti29 (Opd.t rfl) (fun _ => (hs.box (i := 0) rfl).part 0 rfl) rfl) rfl rfl rfl rfl <| ?_
            refine WS_store (us := [(.int .i64 r57.1.1), (sl v59), (.int .i64 r57.1.2.2.1), (.int .i64 r57.1.2.2.2.1), (sl v60)]) (vs' := [(.int .i64 r57.1.1), (sl v59), (.int .i64 r57.1.2.2.1), (.int .i64 r57.1.2.2.2.1), (sl v60)]) hs 10 rfl ti29 (Opd.t rfl) (Opd.t rfl) rfl rfl rfl rfl rfl ?_
            intro w66 hs
            replace hs := Sat.n13 (Γ := Φ) hs rfl
            refine WL_nil ?_
            refine At_blk_normal ?_
            refine At_then ?_
            refine WC_region ?_
            refine WL_op (Run_move (Opd.t rfl)) rfl rfl rfl rfl <| WL_op (Run_add (Opd.t rfl) Opd.c) rfl rfl rfl rfl <| WL_op (Run_assign (Opd.t rfl)) rfl rfl rfl rfl <| ?_
            refine WL_nil ?_
            exact At_again (r57.1.1, r57.1.2.1, r57.1.2.2.1, r57.1.2.2.2.1, r57.1.2.2.2.2, (IntKind.i64.wrap (i39 + 1))) (v59, v60) hm (hs.re 13 [7, 8, 9, 10, 1, 2] rfl) rfl
        ·
          refine WD_loud (pend' := [(4, fun w => true = true → CellsAt w (elA (sl v1) i39 1) [(sl v53)]), (0, fun w => CellsAt w ⟨b28, 0, none⟩ [(.int .i64 c32), (sl v34), (.int .i64 c35), (.int .i64 c36), (sl v38)])]) rfl (by kernel_rfl) ?_
          refine WS_alloc (zs := [(.int .i64 0), (sl (none, 0, 0)), (.int .i64 0), (.int .i64 0), (sl (none, 0, 0))]) hs ti29 rfl rfl ?_
          intro b67 w68 hs
          replace hs := Sat.n11 (Γ := Φ) hs rfl
          refine WL_nil ?_
          refine At_QK (allJ_cons (fun hg => ((hs.elem (i := 1) rfl) hg).sub 0 rfl) (allJ_cons ((hs.box (i := 8) rfl).part 0 rfl) allJ_nil)) ?_
          refine WD_loud (pend' := []) rfl (by kernel_rfl) ?_
          obtain ⟨r69, hr70, hm⟩ := bind_some' hm
          refine WL_call (f := 13) (first := []) (cap := []) (xs := [(.tmp 62), (.tmp 66)]) (vs := [(.agg #[(.int .i64 c32), (sl v34), (.int .i64 c35), (.int .i64 c36), (sl v38)]), (sl v53)]) (args := [(.agg #[(.int .i64 c32), (sl v34), (.int .i64 c35), (.int .i64 c36), (sl v38)]), (sl v53)]) Try.call13 Opd.f (.cons (Opd.t rfl) (.cons (Opd.t rfl) .nil)) rfl rfl (dfa_Insert_ok (d := (c32, c33, c35, c36, c37)) (hs.re 11 [9, 10, 2, 0, 1, 2, 3, 4, 5, 6, 7, 8, 9, 10] rfl) hr70) ?_
          rintro _ w73 ⟨v71, v72, rfl, hs⟩
          replace hs := Sat.n13 (Γ := Φ) hs rfl
          refine WL_nil ?_
          refine At_QK allJ_nil ?_
          refine WD_pure (fun _ => (Run_move (Opd.t rfl))) rfl rfl rfl rfl <| WD_pure (fun _ => (Run_extract (vs := [(.agg #[(.int .i64 r69.1.1), (sl v71), (.int .i64 r69.1.2.2.1), (.int .i64 r69.1.2.2.2.1), (sl v72)]), (.bool r69.2.1), (.int .i64 r69.2.2)]) (Opd.t rfl) rfl)) rfl rfl rfl rfl <| WD_pure (fun _ => (Run_extract (vs := [(.agg #[(.int .i64 r69.1.1), (sl v71), (.int .i64 r69.1.2.2.1), (.int .i64 r69.1.2.2.2.1), (sl v72)]), (.bool r69.2.1), (.int .i64 r69.2.2)]) (Opd.t rfl) rfl)) rfl rfl rfl rfl <| WD_pure (fun _ => (Run_extract (vs := [(.agg #[(.int .i64 r69.1.1), (sl v71), (.int .i64 r69.1.2.2.1), (.int .i64 r69.1.2.2.2.1), (sl v72)]), (.bool r69.2.1), (.int .i64 r69.2.2)]) (Opd.t rfl) rfl)) rfl rfl rfl rfl <| ?_
          refine WD_loud (pend' := []) rfl (by kernel_rfl) ?_
          refine WS_store (us := [(.int .i64 r69.1.1), (sl v71), (.int .i64 r69.1.2.2.1), (.int .i64 r69.1.2.2.2.1), (sl v72)]) (vs' := [(.int .i64 r69.1.1), (sl v71), (.int .i64 r69.1.2.2.1), (.int .i64 r69.1.2.2.2.1), (sl v72)]) hs 2 rfl ti29 (Opd.t rfl) (Opd.t rfl) rfl rfl rfl rfl rfl ?_
          intro w74 hs
          replace hs := Sat.n13 (Γ := Φ) hs rfl
          refine WL_nil ?_
          refine At_QK allJ_nil ?_
          refine WD_pure (fun _ => (Run_assign (Opd.t rfl))) rfl rfl rfl rfl <| WD_pure (fun _ => (Run_assign (Opd.t rfl))) rfl rfl rfl rfl <| ?_
          refine WD_nil ?_
          refine At_then ?_
          refine WC_seq ?_
          refine WC_seq ?_
          refine WC_region ?_
          refine WL_op (Run_move (Opd.t rfl)) rfl rfl rfl rfl <| WL_op (Run_neI (Opd.t rfl) Opd.c) rfl rfl rfl rfl <| ?_
          refine WL_nil ?_
          refine At_then ?_
          refine WC_cond (Opd.t rfl) (fun hc75 => ?_) (fun hc75 => ?_)
          ·
            replace hm := bif_t hc75 hm
            refine WC_seq ?_
            refine WC_region ?_
            refine WL_op (Run_assign Opd.c) rfl rfl rfl rfl <| ?_
            refine WL_nil ?_
            refine At_then ?_
            refine WC_ret ?_
            refine At_then_ret <| At_blk_ret <| At_then_ret <| At_then_ret <| At_blk_ret <| At_then_ret <| ?_
            refine At_r1 rfl (ResIs.t rfl) ?_
            cases hm
            exact ⟨rfl, (hs.re 13 [] rfl)⟩
          ·
            replace hm := bif_f hc75 hm
            refine WC_skip ?_
            refine At_then ?_
            refine WC_region ?_
            refine WL_op (Run_loadA (vs := [(.int .i64 r69.1.1), (sl v71), (.int .i64 r69.1.2.2.1), (.int .i64 r69.1.2.2.2.1), (sl v72)]) Try.underlying29 rfl ti29 (Opd.t rfl) (fun _ => (hs.box (i := 2) rfl).part 0 rfl) rfl) rfl rfl rfl rfl <| ?_
            refine WS_store (us := [(.int .i64 r69.1.1), (sl v71), (.int .i64 r69.1.2.2.1), (.int .i64 r69.1.2.2.2.1), (sl v72)]) (vs' := [(.int .i64 r69.1.1), (sl v71), (.int .i64 r69.1.2.2.1), (.int .i64 r69.1.2.2.2.1), (sl v72)]) hs 10 rfl ti29 (Opd.t rfl) (Opd.t rfl) rfl rfl rfl rfl rfl ?_
            intro w76 hs
            replace hs := Sat.n13 (Γ := Φ) hs rfl
            refine WL_nil ?_
            refine At_blk_normal ?_
            refine At_then ?_
            refine WC_region ?_
            refine WL_op (Run_move (Opd.t rfl)) rfl rfl rfl rfl <| WL_op (Run_add (Opd.t rfl) Opd.c) rfl rfl rfl rfl <| WL_op (Run_assign (Opd.t rfl)) rfl rfl rfl rfl <| ?_
            refine WL_nil ?_
            exact At_again (r69.1.1, r69.1.2.1, r69.1.2.2.1, r69.1.2.2.2.1, r69.1.2.2.2.2, (IntKind.i64.wrap (i39 + 1))) (v71, v72) hm (hs.re 13 [7, 8, 9, 10, 0, 1] rfl) rfl
    ·
      replace hm := bif_f hc41 hm
      refine WC_exit ?_
      refine At_then_exit <| At_then_exit <| At_blk_here <| ?_
      refine At_then ?_
      refine WC_seq ?_
      refine WC_region ?_
      refine WL_op (Run_loadA (vs := [(.int .i64 c32), (sl v34), (.int .i64 c35), (.int .i64 c36), (sl v38)]) Try.underlying29 rfl ti29 (Opd.t rfl) (fun _ => (hs.box (i := 3) rfl).part 0 rfl) rfl) rfl rfl rfl rfl <| ?_
      obtain ⟨r77, hr78, hm⟩ := bind_some' hm
      refine WL_call (f := 19) (first := []) (cap := []) (xs := [(.tmp 74)]) (vs := [(.agg #[(.int .i64 c32), (sl v34), (.int .i64 c35), (.int .i64 c36), (sl v38)])]) (args := [(.agg #[(.int .i64 c32), (sl v34), (.int .i64 c35), (.int .i64 c36), (sl v38)])]) Try.call19 Opd.f (.cons (Opd.t rfl) .nil) rfl rfl (dfa_Words_ok (d := (c32, c33, c35, c36, c37)) (hs.re 6 [4, 5, 0, 1, 2, 3, 4, 5] rfl) hr78) ?_
      rintro _ w81 ⟨v79, R80, rfl, hs⟩
      replace hs := Sat.n7 (Γ := Φ) hs rfl
      refine WL_op (Run_assign (Opd.t rfl)) rfl rfl rfl rfl <| ?_
      refine WL_nil ?_
      refine At_then ?_
      refine WC_seq ?_
      refine WC_region ?_
      refine WL_op (Run_loadA (vs := [(.int .i64 c32), (sl v34), (.int .i64 c35), (.int .i64 c36), (sl v38)]) Try.underlying29 rfl ti29 (Opd.t rfl) (fun _ => (hs.box (i := 4) rfl).part 0 rfl) rfl) rfl rfl rfl rfl <| ?_
      obtain ⟨r82, hr83, hm⟩ := bind_some' hm
      refine WL_call (f := 16) (first := []) (cap := []) (xs := [(.tmp 76)]) (vs := [(.agg #[(.int .i64 c32), (sl v34), (.int .i64 c35), (.int .i64 c36), (sl v38)])]) (args := [(.agg #[(.int .i64 c32), (sl v34), (.int .i64 c35), (.int .i64 c36), (sl v38)])]) Try.call16 Opd.f (.cons (Opd.t rfl) .nil) rfl rfl (dfa_Size_ok (d := (c32, c33, c35, c36, c37)) (hs.re 7 [5, 6, 0, 1, 2, 3, 4, 5, 6] rfl) hr83) ?_
      rintro _ w84 ⟨rfl, hs⟩
      replace hs := Sat.n7 (Γ := Φ) hs rfl
      refine WL_op (Run_assign (Opd.t rfl)) rfl rfl rfl rfl <| ?_
      refine WL_nil ?_
      refine At_then ?_
      refine WC_seq ?_
      refine WC_region ?_
      refine WL_op (Run_loadA (vs := [(.int .i64 c32), (sl v34), (.int .i64 c35), (.int .i64 c36), (sl v38)]) Try.underlying29 rfl ti29 (Opd.t rfl) (fun _ => (hs.box (i := 4) rfl).part 0 rfl) rfl) rfl rfl rfl rfl <| WL_op (Run_move (Opd.t rfl)) rfl rfl rfl rfl <| ?_
      obtain ⟨r85, hr86, hm⟩ := bind_some' hm
      refine WL_call (f := 20) (first := []) (cap := []) (xs := [(.tmp 78), (.tmp 79)]) (vs := [(.agg #[(.int .i64 c32), (sl v34), (.int .i64 c35), (.int .i64 c36), (sl v38)]), (sl v4)]) (args := [(.agg #[(.int .i64 c32), (sl v34), (.int .i64 c35), (.int .i64 c36), (sl v38)]), (sl v4)]) Try.call20 Opd.f (.cons (Opd.t rfl) (.cons (Opd.t rfl) .nil)) rfl rfl (dfa_Has_ok (d := (c32, c33, c35, c36, c37)) (hs.re 7 [5, 6, 2, 0, 1, 2, 3, 4, 5, 6] rfl) hr86) ?_
      rintro _ w87 ⟨rfl, hs⟩
      replace hs := Sat.n7 (Γ := Φ) hs rfl
      refine WL_op (Run_assign (Opd.t rfl)) rfl rfl rfl rfl <| ?_
      refine WL_nil ?_
      refine At_then ?_
      refine WC_seq ?_
      refine WC_region ?_
      refine WL_op (Run_loadA (vs := [(.int .i64 c32), (sl v34), (.int .i64 c35), (.int .i64 c36), (sl v38)]) Try.underlying29 rfl ti29 (Opd.t rfl) (fun _ => (hs.box (i := 4) rfl).part 0 rfl) rfl) rfl rfl rfl rfl <| WL_op (Run_move (Opd.t rfl)) rfl rfl rfl rfl <| ?_
      obtain ⟨r88, hr89, hm⟩ := bind_some' hm
      refine WL_call (f := 20) (first := []) (cap := []) (xs := [(.tmp 81), (.tmp 82)]) (vs := [(.agg #[(.int .i64 c32), (sl v34), (.int .i64 c35), (.int .i64 c36), (sl v38)]), (sl v6)]) (args := [(.agg #[(.int .i64 c32), (sl v34), (.int .i64 c35), (.int .i64 c36), (sl v38)]), (sl v6)]) Try.call20 Opd.f (.cons (Opd.t rfl) (.cons (Opd.t rfl) .nil)) rfl rfl (dfa_Has_ok (d := (c32, c33, c35, c36, c37)) (hs.re 7 [5, 6, 3, 0, 1, 2, 3, 4, 5, 6] rfl) hr89) ?_
      rintro _ w90 ⟨rfl, hs⟩
      replace hs := Sat.n7 (Γ := Φ) hs rfl
      refine WL_op (Run_assign (Opd.t rfl)) rfl rfl rfl rfl <| ?_
      refine WL_nil ?_
      refine At_then ?_
      refine WC_seq ?_
      refine WC_region ?_
      refine WL_op (Run_loadA (vs := [(.int .i64 c32), (sl v34), (.int .i64 c35), (.int .i64 c36), (sl v38)]) Try.underlying29 rfl ti29 (Opd.t rfl) (fun _ => (hs.box (i := 4) rfl).part 0 rfl) rfl) rfl rfl rfl rfl <| WL_op (Run_move (Opd.t rfl)) rfl rfl rfl rfl <| ?_
      obtain ⟨r91, hr92, hm⟩ := bind_some' hm
      refine WL_call (f := 13) (first := []) (cap := []) (xs := [(.tmp 85), (.tmp 86)]) (vs := [(.agg #[(.int .i64 c32), (sl v34), (.int .i64 c35), (.int .i64 c36), (sl v38)]), (sl v4)]) (args := [(.agg #[(.int .i64 c32), (sl v34), (.int .i64 c35), (.int .i64 c36), (sl v38)]), (sl v4)]) Try.call13 Opd.f (.cons (Opd.t rfl) (.cons (Opd.t rfl) .nil)) rfl rfl (dfa_Insert_ok (d := (c32, c33, c35, c36, c37)) (hs.re 7 [5, 6, 2, 0, 1, 2, 3, 4, 5, 6] rfl) hr92) ?_
      rintro _ w95 ⟨v93, v94, rfl, hs⟩
      replace hs := Sat.n9 (Γ := Φ) hs rfl
      refine WL_op (Run_move (Opd.t rfl)) rfl rfl rfl rfl <| WL_op (Run_extract (vs := [(.agg #[(.int .i64 r91.1.1), (sl v93), (.int .i64 r91.1.2.2.1), (.int .i64 r91.1.2.2.2.1), (sl v94)]), (.bool r91.2.1), (.int .i64 r91.2.2)]) (Opd.t rfl) rfl) rfl rfl rfl rfl <| WL_op (Run_extract (vs := [(.agg #[(.int .i64 r91.1.1), (sl v93), (.int .i64 r91.1.2.2.1), (.int .i64 r91.1.2.2.2.1), (sl v94)]), (.bool r91.2.1), (.int .i64 r91.2.2)]) (Opd.t rfl) rfl) rfl rfl rfl rfl <| WL_op (Run_extract (vs := [(.agg #[(.int .i64 r91.1.1), (sl v93), (.int .i64 r91.1.2.2.1), (.int .i64 r91.1.2.2.2.1), (sl v94)]), (.bool r91.2.1), (.int .i64 r91.2.2)]) (Opd.t rfl) rfl) rfl rfl rfl rfl <| ?_
      refine WS_alloc (zs := [(.int .i64 0), (sl (none, 0, 0)), (.int .i64 0), (.int .i64 0), (sl (none, 0, 0))]) hs ti29 rfl rfl ?_
      intro b96 w97 hs
      replace hs := Sat.n10 (Γ := Φ) hs rfl
      refine WS_store (us := [(.int .i64 r91.1.1), (sl v93), (.int .i64 r91.1.2.2.1), (.int .i64 r91.1.2.2.2.1), (sl v94)]) (vs' := [(.int .i64 r91.1.1), (sl v93), (.int .i64 r91.1.2.2.1), (.int .i64 r91.1.2.2.2.1), (sl v94)]) hs 0 rfl ti29 (Opd.t rfl) (Opd.t rfl) rfl rfl rfl rfl rfl ?_
      intro w98 hs
      replace hs := Sat.n10 (Γ := Φ) hs rfl
      refine WL_op (Run_assign (Opd.t rfl)) rfl rfl rfl rfl <| WL_op (Run_assign (Opd.t rfl)) rfl rfl rfl rfl <| ?_
      refine WL_nil ?_
      refine At_then ?_
      refine WC_seq ?_
      refine WC_region ?_
      refine WL_op (Run_move (Opd.t rfl)) rfl rfl rfl rfl <| WL_op (Run_move (Opd.t rfl)) rfl rfl rfl rfl <| WL_opG rfl rfl rfl rfl guard_pos (Run_move (Opd.t rfl)) rfl rfl rfl <| ?_
      obtain ⟨b99, e100, hm⟩ := letv_some hm
      refine WL_opG rfl rfl rfl rfl guard_pos (Run.eqB (Run_eqI (Opd.g rfl id) Opd.c) e100) rfl rfl rfl <| ?_
      obtain ⟨b101, e102, hm⟩ := letv_some hm
      refine WL_op (Run.eqB (Run_and (Opd.t rfl) (Opd.g rfl id)) e102) rfl rfl rfl rfl <| WL_op (Run_move (Opd.t rfl)) rfl rfl rfl rfl <| WL_opG rfl rfl rfl rfl guard_pos (Run_move (Opd.t rfl)) rfl rfl rfl <| ?_
      obtain ⟨b103, e104, hm⟩ := letv_some hm
      refine WL_opG rfl rfl rfl rfl guard_pos (Run.eqB (Run_eqI (Opd.g rfl id) Opd.c) e104) rfl rfl rfl <| ?_
      obtain ⟨b105, e106, hm⟩ := letv_some hm
      refine WL_op (Run.eqB (Run_and (Opd.t rfl) (Opd.g rfl id)) e106) rfl rfl rfl rfl <| WL_op (Run_move (Opd.t rfl)) rfl rfl rfl rfl <| WL_opG rfl rfl rfl rfl guard_pos (Run_move (Opd.t rfl)) rfl rfl rfl <| WL_opG rfl rfl rfl rfl guard_pos (Run_move (Opd.t rfl)) rfl rfl rfl <| ?_
      obtain ⟨b107, e108, hm⟩ := letv_some hm
      refine WL_opG rfl rfl rfl rfl guard_pos (Run.eqB (Run_notB (Opd.g rfl id)) e108) rfl rfl rfl <| ?_
      obtain ⟨b109, e110, hm⟩ := letv_some hm
      refine WL_opG rfl rfl rfl rfl guard_pos (Run.eqB (Run_eqB Try.underlying4 (Opd.g rfl id) (Opd.g rfl id)) e110) rfl rfl rfl <| ?_
      obtain ⟨b111, e112, hm⟩ := letv_some hm
      refine WL_op (Run.eqB (Run_and (Opd.t rfl) (Opd.g rfl id)) e112) rfl rfl rfl rfl <| WL_op (Run_move (Opd.t rfl)) rfl rfl rfl rfl <| WL_opG rfl rfl rfl rfl guard_pos (Run_loadA (vs := [(.int .i64 c32), (sl v34), (.int .i64 c35), (.int .i64 c36), (sl v38)]) Try.underlying29 rfl ti29 (Opd.t rfl) (fun _ => (hs.box (i := 7) rfl).part 0 rfl) rfl) rfl rfl rfl <| ?_
      obtain ⟨r113, hr114, -, hm⟩ := callG_some hm
      refine WL_callG rfl rfl rfl guard_pos (f := 19) (first := []) (cap := []) (xs := [(.tmp 107)]) (vs := [(.agg #[(.int .i64 c32), (sl v34), (.int .i64 c35), (.int .i64 c36), (sl v38)])]) (args := [(.agg #[(.int .i64 c32), (sl v34), (.int .i64 c35), (.int .i64 c36), (sl v38)])]) Try.call19 Opd.f (.cons (Opd.g rfl id) .nil) rfl rfl (fun hg => dfa_Words_ok (d := (c32, c33, c35, c36, c37)) (hs.re 10 [8, 9, 0, 1, 2, 3, 4, 5, 6, 7, 8, 9] rfl) (hr114 hg)) ?_
      intro v118 w117 hv119 hz120
      obtain ⟨v115, hw121, hs⟩ : ∃ v115 : SLV, (b111 = true → v118 = (sl v115)) ∧ Sat (immG b111 (RSl (RSl (RI .u8))) [sl v115] r113 :: box b96 29 [(.int .i64 r91.1.1), (sl v93), (.int .i64 r91.1.2.2.1), (.int .i64 r91.1.2.2.2.1), (sl v94)] :: imm (RSl (RP (RSl (RP (RI .u8) (RI .i64))) (RI .i64))) [sl v93] r91.1.2.1 :: imm (RSl (RI .i64)) [sl v94] r91.1.2.2.2.2 :: osl (RSl (RI .u8)) 23 (sl v79) r77 R80 :: imm (RSl (RSl (RI .u8))) [sl v1] l :: imm (RSl (RI .u8)) [sl v4] w3 :: imm (RSl (RI .u8)) [sl v6] other :: box b28 29 [(.int .i64 c32), (sl v34), (.int .i64 c35), (.int .i64 c36), (sl v38)] :: imm (RSl (RP (RSl (RP (RI .u8) (RI .i64))) (RI .i64))) [sl v34] c33 :: imm (RSl (RI .i64)) [sl v38] c37 :: Φ) w117 := by
        cases hg : b111
        · rw [hz120 hg]; exact ⟨(none, 0, 0), (fun h => by cases h), (sat_addG0 hs rfl)⟩
        · obtain ⟨v115, R116, hq, hs⟩ := hv119 hg
          replace hs := hs.freeze (i := 0) rfl
          replace hs := hs.re 11 [0, 1, 2, 3, 4, 5, 6, 7, 8, 9, 10] rfl
          replace hs := sat_gate hs (i := 0) rfl true
          exact ⟨v115, (fun _ => hq), hs⟩
      refine WL_sub1 (v := (sl v115)) hw121 ?_
      refine WL_opG rfl rfl rfl rfl guard_pos (Run_move (Opd.t rfl)) rfl rfl rfl <| ?_
      replace hs := hs.freeze (i := 4) rfl
      obtain ⟨r122, hr123, -, hm⟩ := callG_some hm
      refine WL_callG rfl rfl rfl guard_pos (f := 18) (first := []) (cap := []) (xs := [(.tmp 108), (.tmp 109)]) (vs := [(sl v115), (sl v79)]) (args := [(sl v115), (sl v79)]) Try.call18 Opd.f (.cons (Opd.g rfl id) (.cons (Opd.g rfl id) .nil)) rfl rfl (fun hg => scrutinyref04_Rows_ok ((hs.dupS (i := 0) rfl hg).re 12 [0, 5, 1, 2, 3, 4, 5, 6, 7, 8, 9, 10, 11] rfl) (hr123 hg)) ?_
      intro v125 w124 hv126 hz127
      replace hs := Sat.ofG (fun hg => (hv126 hg).2.re 11 [0, 1, 2, 3, 4, 5, 6, 7, 8, 9, 10] rfl) hz127 hs
      refine WL_sub1 (v := (.bool r122)) (fun hg => (hv126 hg).1) ?_
      replace hs := Sat.n11 (Γ := Φ) hs rfl
      obtain ⟨b128, e129, hm⟩ := letv_some hm
      refine WL_op (Run.eqB (Run_and (Opd.t rfl) (Opd.g rfl id)) e129) rfl rfl rfl rfl <| WL_op (Run_move (Opd.t rfl)) rfl rfl rfl rfl <| WL_opG rfl rfl rfl rfl guard_pos (Run_loadA (vs := [(.int .i64 c32), (sl v34), (.int .i64 c35), (.int .i64 c36), (sl v38)]) Try.underlying29 rfl ti29 (Opd.t rfl) (fun _ => (hs.box (i := 8) rfl).part 0 rfl) rfl) rfl rfl rfl <| ?_
      obtain ⟨r130, hr131, -, hm⟩ := callG_some hm
      refine WL_callG rfl rfl rfl guard_pos (f := 16) (first := []) (cap := []) (xs := [(.tmp 113)]) (vs := [(.agg #[(.int .i64 c32), (sl v34), (.int .i64 c35), (.int .i64 c36), (sl v38)])]) (args := [(.agg #[(.int .i64 c32), (sl v34), (.int .i64 c35), (.int .i64 c36), (sl v38)])]) Try.call16 Opd.f (.cons (Opd.g rfl id) .nil) rfl rfl (fun hg => dfa_Size_ok (d := (c32, c33, c35, c36, c37)) (hs.re 11 [9, 10, 0, 1, 2, 3, 4, 5, 6, 7, 8, 9, 10] rfl) (hr131 hg)) ?_
      intro v133 w132 hv134 hz135
      replace hs := Sat.ofG (fun hg => (hv134 hg).2.re 11 [0, 1, 2, 3, 4, 5, 6, 7, 8, 9, 10] rfl) hz135 hs
      refine WL_sub1 (v := (.int .i64 r130)) (fun hg => (hv134 hg).1) ?_
      replace hs := Sat.n11 (Γ := Φ) hs rfl
      refine WL_opG rfl rfl rfl rfl guard_pos (Run_move (Opd.t rfl)) rfl rfl rfl <| ?_
      obtain ⟨b136, e137, hm⟩ := letv_some hm
      refine WL_opG rfl rfl rfl rfl guard_pos (Run.eqB (Run_eqI (Opd.g rfl id) (Opd.g rfl id)) e137) rfl rfl rfl <| ?_
      obtain ⟨b138, e139, hm⟩ := letv_some hm
      refine WL_op (Run.eqB (Run_and (Opd.t rfl) (Opd.g rfl id)) e139) rfl rfl rfl rfl <| WL_op (Run_move (Opd.t rfl)) rfl rfl rfl rfl <| WL_opG rfl rfl rfl rfl guard_pos (Run_loadA (vs := [(.int .i64 c32), (sl v34), (.int .i64 c35), (.int .i64 c36), (sl v38)]) Try.underlying29 rfl ti29 (Opd.t rfl) (fun _ => (hs.box (i := 8) rfl).part 0 rfl) rfl) rfl rfl rfl <| WL_opG rfl rfl rfl rfl guard_pos (Run_move (Opd.t rfl)) rfl rfl rfl <| ?_
      obtain ⟨r140, hr141, -, hm⟩ := callG_some hm
      refine WL_callG rfl rfl rfl guard_pos (f := 20) (first := []) (cap := []) (xs := [(.tmp 119), (.tmp 120)]) (vs := [(.agg #[(.int .i64 c32), (sl v34), (.int .i64 c35), (.int .i64 c36), (sl v38)]), (sl v4)]) (args := [(.agg #[(.int .i64 c32), (sl v34), (.int .i64 c35), (.int .i64 c36), (sl v38)]), (sl v4)]) Try.call20 Opd.f (.cons (Opd.g rfl id) (.cons (Opd.g rfl id) .nil)) rfl rfl (fun hg => dfa_Has_ok (d := (c32, c33, c35, c36, c37)) (hs.re 11 [9, 10, 6, 0, 1, 2, 3, 4, 5, 6, 7, 8, 9, 10] rfl) (hr141 hg)) ?_
      intro v143 w142 hv144 hz145
      replace hs := Sat.ofG (fun hg => (hv144 hg).2.re 11 [0, 1, 2, 3, 4, 5, 6, 7, 8, 9, 10] rfl) hz145 hs
      refine WL_sub1 (v := (.bool r140)) (fun hg => (hv144 hg).1) ?_
      replace hs := Sat.n11 (Γ := Φ) hs rfl
      refine WL_opG rfl rfl rfl rfl guard_pos (Run_move (Opd.t rfl)) rfl rfl rfl <| ?_
      obtain ⟨b146, e147, hm⟩ := letv_some hm
      refine WL_opG rfl rfl rfl rfl guard_pos (Run.eqB (Run_eqB Try.underlying4 (Opd.g rfl id) (Opd.g rfl id)) e147) rfl rfl rfl <| ?_
      obtain ⟨b148, e149, hm⟩ := letv_some hm
      refine WL_op (Run.eqB (Run_and (Opd.t rfl) (Opd.g rfl id)) e149) rfl rfl rfl rfl <| WL_op (Run_move (Opd.t rfl)) rfl rfl rfl rfl <| WL_opG rfl rfl rfl rfl guard_pos (Run_loadA (vs := [(.int .i64 r91.1.1), (sl v93), (.int .i64 r91.1.2.2.1), (.int .i64 r91.1.2.2.2.1), (sl v94)]) Try.underlying29 rfl ti29 (Opd.t rfl) (fun _ => (hs.box (i := 1) rfl).part 0 rfl) rfl) rfl rfl rfl <| WL_opG rfl rfl rfl rfl guard_pos (Run_move (Opd.t rfl)) rfl rfl rfl <| ?_
      obtain ⟨r150, hr151, -, hm⟩ := callG_some hm
      refine WL_callG rfl rfl rfl guard_pos (f := 20) (first := []) (cap := []) (xs := [(.tmp 126), (.tmp 127)]) (vs := [(.agg #[(.int .i64 r91.1.1), (sl v93), (.int .i64 r91.1.2.2.1), (.int .i64 r91.1.2.2.2.1), (sl v94)]), (sl v4)]) (args := [(.agg #[(.int .i64 r91.1.1), (sl v93), (.int .i64 r91.1.2.2.1), (.int .i64 r91.1.2.2.2.1), (sl v94)]), (sl v4)]) Try.call20 Opd.f (.cons (Opd.g rfl id) (.cons (Opd.g rfl id) .nil)) rfl rfl (fun hg => dfa_Has_ok (hs.re 11 [2, 3, 6, 0, 1, 2, 3, 4, 5, 6, 7, 8, 9, 10] rfl) (hr151 hg)) ?_
      intro v153 w152 hv154 hz155
      replace hs := Sat.ofG (fun hg => (hv154 hg).2.re 11 [0, 1, 2, 3, 4, 5, 6, 7, 8, 9, 10] rfl) hz155 hs
      refine WL_sub1 (v := (.bool r150)) (fun hg => (hv154 hg).1) ?_
      replace hs := Sat.n11 (Γ := Φ) hs rfl
      obtain ⟨b156, e157, hm⟩ := letv_some hm
      refine WL_op (Run.eqB (Run_and (Opd.t rfl) (Opd.g rfl id)) e157) rfl rfl rfl rfl <| WL_op (Run_move (Opd.t rfl)) rfl rfl rfl rfl <| WL_opG rfl rfl rfl rfl guard_pos (Run_loadA (vs := [(.int .i64 r91.1.1), (sl v93), (.int .i64 r91.1.2.2.1), (.int .i64 r91.1.2.2.2.1), (sl v94)]) Try.underlying29 rfl ti29 (Opd.t rfl) (fun _ => (hs.box (i := 1) rfl).part 0 rfl) rfl) rfl rfl rfl <| WL_opG rfl rfl rfl rfl guard_pos (Run_move (Opd.t rfl)) rfl rfl rfl <| ?_
      obtain ⟨r158, hr159, -, hm⟩ := callG_some hm
      refine WL_callG rfl rfl rfl guard_pos (f := 20) (first := []) (cap := []) (xs := [(.tmp 131), (.tmp 132)]) (vs := [(.agg #[(.int .i64 r91.1.1), (sl v93), (.int .i64 r91.1.2.2.1), (.int .i64 r91.1.2.2.2.1), (sl v94)]), (sl v6)]) (args := [(.agg #[(.int .i64 r91.1.1), (sl v93), (.int .i64 r91.1.2.2.1), (.int .i64 r91.1.2.2.2.1), (sl v94)]), (sl v6)]) Try.call20 Opd.f (.cons (Opd.g rfl id) (.cons (Opd.g rfl id) .nil)) rfl rfl (fun hg => dfa_Has_ok (hs.re 11 [2, 3, 7, 0, 1, 2, 3, 4, 5, 6, 7, 8, 9, 10] rfl) (hr159 hg)) ?_
      intro v161 w160 hv162 hz163
      replace hs := Sat.ofG (fun hg => (hv162 hg).2.re 11 [0, 1, 2, 3, 4, 5, 6, 7, 8, 9, 10] rfl) hz163 hs
      refine WL_sub1 (v := (.bool r158)) (fun hg => (hv162 hg).1) ?_
      replace hs := Sat.n11 (Γ := Φ) hs rfl
      refine WL_opG rfl rfl rfl rfl guard_pos (Run_move (Opd.t rfl)) rfl rfl rfl <| WL_opG rfl rfl rfl rfl guard_pos (Run_move (Opd.g rfl id)) rfl rfl rfl <| WL_opG rfl rfl rfl rfl guard_neg' (Run_move (Opd.t rfl)) rfl rfl rfl <| WL_opG rfl rfl rfl rfl guard_neg' (Run_b2s Try.underlying23 Try.underlying5 Try.underlying9 (Opd.g rfl id) (fun _ => hs.sl (i := 7) rfl)) rfl rfl rfl <| WL_opG rfl rfl rfl rfl guard_neg' (Run_move (Opd.t rfl)) rfl rfl rfl <| WL_opG rfl rfl rfl rfl guard_neg' (Run_b2s Try.underlying23 Try.underlying5 Try.underlying9 (Opd.g rfl id) (fun _ => hs.sl (i := 6) rfl)) rfl rfl rfl <| ?_
      obtain ⟨b164, e165, hm⟩ := letv_some hm
      refine WL_opG rfl rfl rfl rfl guard_neg' (Run.eqB (Run_eqS (Opd.g rfl id) (Opd.g rfl id)) e165) rfl rfl rfl <| ?_
      obtain ⟨b166, e167, hm⟩ := letv_some hm
      refine WL_opG rfl rfl rfl rfl guard_pos (Run.eqB (Run_or (Opd.g rfl id) (Opd.g rfl id)) e167) rfl rfl rfl <| ?_
      obtain ⟨b168, e169, hm⟩ := letv_some hm
      refine WL_opG rfl rfl rfl rfl guard_pos (Run.eqB (Run_eqB Try.underlying4 (Opd.g rfl id) (Opd.g rfl id)) e169) rfl rfl rfl <| ?_
      obtain ⟨b170, e171, hm⟩ := letv_some hm
      refine WL_op (Run.eqB (Run_and (Opd.t rfl) (Opd.g rfl id)) e171) rfl rfl rfl rfl <| WL_op (Run_move (Opd.t rfl)) rfl rfl rfl rfl <| WL_opG rfl rfl rfl rfl guard_pos (Run_loadA (vs := [(.int .i64 r91.1.1), (sl v93), (.int .i64 r91.1.2.2.1), (.int .i64 r91.1.2.2.2.1), (sl v94)]) Try.underlying29 rfl ti29 (Opd.t rfl) (fun _ => (hs.box (i := 1) rfl).part 0 rfl) rfl) rfl rfl rfl <| ?_
      obtain ⟨r172, hr173, -, hm⟩ := callG_some hm
      refine WL_callG rfl rfl rfl guard_pos (f := 19) (first := []) (cap := []) (xs := [(.tmp 145)]) (vs := [(.agg #[(.int .i64 r91.1.1), (sl v93), (.int .i64 r91.1.2.2.1), (.int .i64 r91.1.2.2.2.1), (sl v94)])]) (args := [(.agg #[(.int .i64 r91.1.1), (sl v93), (.int .i64 r91.1.2.2.1), (.int .i64 r91.1.2.2.2.1), (sl v94)])]) Try.call19 Opd.f (.cons (Opd.g rfl id) .nil) rfl rfl (fun hg => dfa_Words_ok (hs.re 11 [2, 3, 0, 1, 2, 3, 4, 5, 6, 7, 8, 9, 10] rfl) (hr173 hg)) ?_
      intro v177 w176 hv178 hz179
      obtain ⟨v174, hw180, hs⟩ : ∃ v174 : SLV, (b170 = true → v177 = (sl v174)) ∧ Sat (immG b170 (RSl (RSl (RI .u8))) [sl v174] r172 :: immG b111 (RSl (RSl (RI .u8))) [sl v115] r113 :: box b96 29 [(.int .i64 r91.1.1), (sl v93), (.int .i64 r91.1.2.2.1), (.int .i64 r91.1.2.2.2.1), (sl v94)] :: imm (RSl (RP (RSl (RP (RI .u8) (RI .i64))) (RI .i64))) [sl v93] r91.1.2.1 :: imm (RSl (RI .i64)) [sl v94] r91.1.2.2.2.2 :: imm (RSl (RSl (RI .u8))) [sl v79] r77 :: imm (RSl (RSl (RI .u8))) [sl v1] l :: imm (RSl (RI .u8)) [sl v4] w3 :: imm (RSl (RI .u8)) [sl v6] other :: box b28 29 [(.int .i64 c32), (sl v34), (.int .i64 c35), (.int .i64 c36), (sl v38)] :: imm (RSl (RP (RSl (RP (RI .u8) (RI .i64))) (RI .i64))) [sl v34] c33 :: imm (RSl (RI .i64)) [sl v38] c37 :: Φ) w176 := by
        cases hg : b170
        · rw [hz179 hg]; exact ⟨(none, 0, 0), (fun h => by cases h), (sat_addG0 hs rfl)⟩
        · obtain ⟨v174, R175, hq, hs⟩ := hv178 hg
          replace hs := hs.freeze (i := 0) rfl
          replace hs := hs.re 12 [0, 1, 2, 3, 4, 5, 6, 7, 8, 9, 10, 11] rfl
          replace hs := sat_gate hs (i := 0) rfl true
          exact ⟨v174, (fun _ => hq), hs⟩
      refine WL_sub1 (v := (sl v174)) hw180 ?_
      refine WL_opG rfl rfl rfl rfl guard_pos (Run_lenSlG Try.underlying22 (Opd.g rfl id) (fun hg => ((hs.slG (i := 0) rfl) hg).len)) rfl rfl rfl <| WL_opG rfl rfl rfl rfl guard_pos (Run_move (Opd.t rfl)) rfl rfl rfl <| WL_opG rfl rfl rfl rfl guard_pos (Run_lenSlG Try.underlying22 (Opd.g rfl id) (fun hg => (hs.sl (i := 5) rfl).len)) rfl rfl rfl <| WL_opG rfl rfl rfl rfl guard_pos (Run_move (Opd.t rfl)) rfl rfl rfl <| ?_
      obtain ⟨r181, hr182, -, hm⟩ := callG_some hm
      refine WL_callG rfl rfl rfl guard_pos (f := 22) (first := []) (cap := []) (xs := [(.tmp 150)]) (vs := [(.bool r91.2.1)]) (args := [(.bool r91.2.1)]) Try.call22 Opd.f (.cons (Opd.g rfl id) .nil) rfl rfl (fun hg => scrutinylaw09_flag_ok (hs.re 12 [0, 1, 2, 3, 4, 5, 6, 7, 8, 9, 10, 11] rfl) (hr182 hg)) ?_
      intro v184 w183 hv185 hz186
      replace hs := Sat.ofG (fun hg => (hv185 hg).2.re 12 [0, 1, 2, 3, 4, 5, 6, 7, 8, 9, 10, 11] rfl) hz186 hs
      refine WL_sub1 (v := (.int .i64 r181)) (fun hg => (hv185 hg).1) ?_
      replace hs := Sat.n12 (Γ := Φ) hs rfl
      refine WL_opG rfl rfl rfl rfl guard_pos (Run_add (Opd.g rfl id) (Opd.g rfl id)) rfl rfl rfl <| ?_
      obtain ⟨b187, e188, hm⟩ := letv_some hm
      refine WL_opG rfl rfl rfl rfl guard_pos (Run.eqB (Run_eqI (Opd.g rfl id) (Opd.g rfl id)) e188) rfl rfl rfl <| ?_
      obtain ⟨b189, e190, hm⟩ := letv_some hm
      refine WL_op (Run.eqB (Run_and (Opd.t rfl) (Opd.g rfl id)) e190) rfl rfl rfl rfl <| WL_op (Run_assign (Opd.t rfl)) rfl rfl rfl rfl <| ?_
      refine WL_nil ?_
      refine At_then ?_
      refine WC_ret ?_
      refine At_r1 rfl (ResIs.t rfl) ?_
      cases hm
      exact ⟨rfl, (hs.re 12 [] rfl)⟩

end Go.Proofs.Ytjappdgehmjomaa
