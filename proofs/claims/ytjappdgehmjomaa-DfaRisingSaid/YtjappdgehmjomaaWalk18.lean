/- Printed by a program: the walks. -/
import Derived.Test.YtjappdgehmjomaaTypes
import Derived.Test.YtjappdgehmjomaaWalk1
import Derived.Test.YtjappdgehmjomaaWalk2
import Derived.Test.YtjappdgehmjomaaWalk8
import Derived.Test.YtjappdgehmjomaaWalk9
import Derived.Test.YtjappdgehmjomaaWalk10
namespace Go.Proofs.Ytjappdgehmjomaa
open Go.Proofs

set_option maxRecDepth 100000 in
set_option maxHeartbeats 4000000 in
theorem scrutinylaw09_DfaRising_ok {Φ : Ctx} {w : World} {l : (List (List Int))} {c : Int} {v1 : SLV} {r : Bool} (hs : Sat (imm (RSl (RSl (RI .u8))) [sl v1] l :: Φ) w) (hm : scrutinylaw09_DfaRising l c = some r) :
    CallsR Try.prog 8 [(sl v1), (.int .u8 c)] w (fun v w' => v = (.bool r) ∧ Sat (Φ) w') := by
  refine CallsX_enter Try.func8 rfl Try.ntmps8 rfl ?_
  unfold scrutinylaw09_DfaRising at hm
  refine WC_seq ?_
  refine WC_region ?_
  refine WL_op (Run_assign Opd.c) rfl rfl rfl rfl <| ?_
  refine WL_nil ?_
  refine At_then ?_
  refine WC_seq ?_
  refine WC_region ?_
  obtain ⟨r3, hr4, hm⟩ := bind_some' hm
  refine WL_call (f := 9) (first := []) (cap := []) (xs := []) (vs := []) (args := []) Try.call9 Opd.f .nil rfl rfl (scrutinylaw09_shown_ok (hs.re 1 [0] rfl) hr4) ?_
  rintro _ w5 ⟨rfl, hs⟩
  replace hs := Sat.n1 (Γ := Φ) hs rfl
  refine WL_op (Run_assign (Opd.t rfl)) rfl rfl rfl rfl <| ?_
  refine WL_nil ?_
  refine At_then ?_
  refine WC_seq ?_
  refine WC_seq ?_
  refine WC_region ?_
  refine WL_op (Run_move (Opd.t rfl)) rfl rfl rfl rfl <| WL_op (Run_lenSlG Try.underlying22 (Opd.t rfl) (fun hg => (hs.sl (i := 0) rfl).len)) rfl rfl rfl rfl <| ?_
  obtain ⟨b6, e7, hm⟩ := letv_some hm
  refine WL_op (Run.eqB (Run_ltI (Opd.t rfl) Opd.c) e7) rfl rfl rfl rfl <| WL_op (Run_move (Opd.t rfl)) rfl rfl rfl rfl <| WL_opG rfl rfl rfl rfl guard_neg (Run_move (Opd.t rfl)) rfl rfl rfl <| WL_opG rfl rfl rfl rfl guard_neg (Run_lenSlG Try.underlying22 (Opd.g rfl id) (fun hg => (hs.sl (i := 0) rfl).len)) rfl rfl rfl <| ?_
  obtain ⟨b8, e9, hm⟩ := letv_some hm
  refine WL_opG rfl rfl rfl rfl guard_neg (Run.eqB (Run_gtI (Opd.g rfl id) Opd.c) e9) rfl rfl rfl <| ?_
  obtain ⟨b10, e11, hm⟩ := letv_some hm
  refine WL_op (Run.eqB (Run_or (Opd.t rfl) (Opd.g rfl id)) e11) rfl rfl rfl rfl <| ?_
  refine WL_nil ?_
  refine At_then ?_
  refine WC_cond (Opd.t rfl) (fun hc12 => ?_) (fun hc12 => ?_)
  ·
    replace hm := bif_t hc12 hm
    refine WC_seq ?_
    refine WC_region ?_
    refine WL_op (Run_move (Opd.t rfl)) rfl rfl rfl rfl <| WL_op (Run_assign (Opd.t rfl)) rfl rfl rfl rfl <| ?_
    refine WL_nil ?_
    refine At_then ?_
    refine WC_ret ?_
    refine At_then_ret <| ?_
    refine At_r1 rfl (ResIs.t rfl) ?_
    cases hm
    exact ⟨rfl, (hs.re 1 [] rfl)⟩
  ·
    replace hm := bif_f hc12 hm
    refine WC_skip ?_
    refine At_then ?_
    refine WC_seq ?_
    refine WC_region ?_
    refine WL_op (Run_move (Opd.t rfl)) rfl rfl rfl rfl <| ?_
    obtain ⟨e13, he14, hm⟩ := bind_some' hm
    obtain ⟨v15, hC16, hN17, hR18⟩ := cellsM23 (g := true) (fun hg => (hs.sl (i := 0) rfl)) (fun hg => he14)
    replace hs := hs.addL [elem true (elA (sl v1) 0 1) [(sl v15)], imm (RSl (RI .u8)) [sl v15] e13] rfl ⟨fun hg => ⟨hN17 hg, hC16 hg⟩, ⟨_, rfl, hR18 rfl⟩, trivial⟩
    replace hs := Sat.n3 (Γ := Φ) hs rfl
    refine WL_op (Run_idxAddr (p := (elA (sl v1) 0 1)) Try.underlying22 ti23 (Opd.t rfl) Opd.c (fun hg => (SRd.atA (A := (RSl (RI .u8))) (v := (sl v1)) (hs.sl (i := 2) rfl) he14).1)) rfl rfl rfl rfl <| WL_op (Run_load1 (v := (sl v15)) Try.underlying23 rfl (Opd.t rfl) (fun hg => ((hs.elem (i := 0) rfl) hg).sub 0 rfl)) rfl rfl rfl rfl <| WL_op (Run_lenSlG Try.underlying23 (Opd.t rfl) (fun hg => (hs.sl (i := 1) rfl).len)) rfl rfl rfl rfl <| WL_op (Run_assign (Opd.t rfl)) rfl rfl rfl rfl <| ?_
    refine WL_nil ?_
    refine At_then ?_
    refine WC_seq ?_
    refine WC_seq ?_
    refine WC_region ?_
    refine WL_op (Run_move (Opd.t rfl)) rfl rfl rfl rfl <| ?_
    obtain ⟨b19, e20, hm⟩ := letv_some hm
    refine WL_op (Run.eqB (Run_ltI (Opd.t rfl) Opd.c) e20) rfl rfl rfl rfl <| WL_op (Run_move (Opd.t rfl)) rfl rfl rfl rfl <| WL_opG rfl rfl rfl rfl guard_neg (Run_move (Opd.t rfl)) rfl rfl rfl <| ?_
    obtain ⟨b21, e22, hm⟩ := letv_some hm
    refine WL_opG rfl rfl rfl rfl guard_neg (Run.eqB (Run_gtI (Opd.g rfl id) Opd.c) e22) rfl rfl rfl <| ?_
    obtain ⟨b23, e24, hm⟩ := letv_some hm
    refine WL_op (Run.eqB (Run_or (Opd.t rfl) (Opd.g rfl id)) e24) rfl rfl rfl rfl <| ?_
    refine WL_nil ?_
    refine At_then ?_
    refine WC_cond (Opd.t rfl) (fun hc25 => ?_) (fun hc25 => ?_)
    ·
      replace hm := bif_t hc25 hm
      refine WC_seq ?_
      refine WC_region ?_
      refine WL_op (Run_move (Opd.t rfl)) rfl rfl rfl rfl <| WL_op (Run_assign (Opd.t rfl)) rfl rfl rfl rfl <| ?_
      refine WL_nil ?_
      refine At_then ?_
      refine WC_ret ?_
      refine At_then_ret <| ?_
      refine At_r1 rfl (ResIs.t rfl) ?_
      cases hm
      exact ⟨rfl, (hs.re 3 [] rfl)⟩
    ·
      replace hm := bif_f hc25 hm
      refine WC_skip ?_
      refine At_then ?_
      refine WC_seq ?_
      refine WC_region ?_
      refine WL_op (Run_move (Opd.t rfl)) rfl rfl rfl rfl <| ?_
      obtain ⟨r26, hr27, hm⟩ := bind_some' hm
      refine WL_call (f := 11) (first := []) (cap := []) (xs := [(.tmp 40)]) (vs := [(.int .i64 (List.length e13 : Int))]) (args := [(.int .i64 (List.length e13 : Int))]) Try.call11 Opd.f (.cons (Opd.t rfl) .nil) rfl rfl (dfa_New_ok (hs.re 3 [0, 1, 2] rfl) hr27) ?_
      rintro _ w32 ⟨v28, R29, v30, R31, rfl, hs⟩
      replace hs := Sat.n5 (Γ := Φ) hs rfl
      refine WL_op (Run_move (Opd.t rfl)) rfl rfl rfl rfl <| WL_op (Run_extract (vs := [(.agg #[(.int .i64 r26.1.1), (sl v28), (.int .i64 r26.1.2.2.1), (.int .i64 r26.1.2.2.2.1), (sl v30)]), (.int .i64 r26.2)]) (Opd.t rfl) rfl) rfl rfl rfl rfl <| WL_op (Run_extract (vs := [(.agg #[(.int .i64 r26.1.1), (sl v28), (.int .i64 r26.1.2.2.1), (.int .i64 r26.1.2.2.2.1), (sl v30)]), (.int .i64 r26.2)]) (Opd.t rfl) rfl) rfl rfl rfl rfl <| ?_
      refine WS_alloc (zs := [(.int .i64 0), (sl (none, 0, 0)), (.int .i64 0), (.int .i64 0), (sl (none, 0, 0))]) hs ti29 rfl rfl ?_
      intro b33 w34 hs
      replace hs := Sat.n6 (Γ := Φ) hs rfl
      refine WS_store (us := [(.int .i64 r26.1.1), (sl v28), (.int .i64 r26.1.2.2.1), (.int .i64 r26.1.2.2.2.1), (sl v30)]) (vs' := [(.int .i64 r26.1.1), (sl v28), (.int .i64 r26.1.2.2.1), (.int .i64 r26.1.2.2.2.1), (sl v30)]) hs 0 rfl ti29 (Opd.t rfl) (Opd.t rfl) rfl rfl rfl rfl rfl ?_
      intro w35 hs
      replace hs := Sat.n6 (Γ := Φ) hs rfl
      refine WL_op (Run_assign (Opd.t rfl)) rfl rfl rfl rfl <| ?_
      refine WL_nil ?_
      refine At_then ?_
      refine WC_seq ?_
      refine WC_seq ?_
      refine WC_region ?_
      refine WL_op (Run_assign Opd.c) rfl rfl rfl rfl <| ?_
      refine WL_nil ?_
      refine At_then ?_
      refine WC_block ?_
      replace hs := hs.freeze (i := 1) rfl
      replace hs := hs.freeze (i := 2) rfl
      refine WC_loop (σ := Int × (List ((List (Int × Int)) × Int)) × Int × Int × (List Int) × Int) (γ := SLV × SLV) (F := (scrutinylaw09_DfaRising_L1 l c r3 e13)) (N := FUEL) (s0 := (r26.1.1, r26.1.2.1, r26.1.2.2.1, r26.1.2.2.2.1, r26.1.2.2.2.2, 0)) (r := r) (fun ⟨c37, c38, c40, c41, c42, i44⟩ ⟨v39, v43⟩ w36 => Sat (imm (RSl (RSl (RI .u8))) [sl v1] l :: box b33 29 [(.int .i64 c37), (sl v39), (.int .i64 c40), (.int .i64 c41), (sl v43)] :: imm (RSl (RP (RSl (RP (RI .u8) (RI .i64))) (RI .i64))) [sl v39] c38 :: imm (RSl (RI .i64)) [sl v43] c42 :: Φ) w36) (fun ⟨c37, c38, c40, c41, c42, i44⟩ ⟨v39, v43⟩ => [(0, true, (sl v1)), (1, true, (.int .u8 c)), (5, true, (.bool r3)), (6, true, (.int .i64 (List.length e13 : Int))), (7, true, (.pointer (some ⟨b33, 0, none⟩))), (9, true, (.int .i64 i44))]) hm (v28, v30) (hs.re 6 [5, 0, 1, 2] rfl) rfl ?_
      rintro again45 ⟨c37, c38, c40, c41, c42, i44⟩ ⟨v39, v43⟩ w36 hm hs
      unfold scrutinylaw09_DfaRising_L1 at hm
      dsimp only at hm
      refine WC_seq ?_
      refine WC_seq ?_
      refine WC_region ?_
      refine WL_op (Run_move (Opd.t rfl)) rfl rfl rfl rfl <| WL_op (Run_move (Opd.t rfl)) rfl rfl rfl rfl <| WL_op (Run_lenSlG Try.underlying22 (Opd.t rfl) (fun hg => (hs.sl (i := 0) rfl).len)) rfl rfl rfl rfl <| WL_op (Run_ltI (Opd.t rfl) (Opd.t rfl)) rfl rfl rfl rfl <| ?_
      refine WL_nil ?_
      refine At_then ?_
      refine WC_cond (Opd.t rfl) (fun hc46 => ?_) (fun hc46 => ?_)
      ·
        replace hm := bif_t hc46 hm
        refine WC_skip ?_
        refine At_then ?_
        refine WC_seq ?_
        refine WC_block ?_
        refine WC_seq ?_
        refine WC_seq ?_
        refine WC_region ?_
        refine WL_op (Run_move (Opd.t rfl)) rfl rfl rfl rfl <| WL_op (Run_move (Opd.t rfl)) rfl rfl rfl rfl <| ?_
        obtain ⟨e47, he48, hm⟩ := bind_some' hm
        obtain ⟨v49, hC50, hN51, hR52⟩ := cellsM23 (g := true) (fun hg => (hs.sl (i := 0) rfl)) (fun hg => he48)
        replace hs := hs.addL [elem true (elA (sl v1) i44 1) [(sl v49)], imm (RSl (RI .u8)) [sl v49] e47] rfl ⟨fun hg => ⟨hN51 hg, hC50 hg⟩, ⟨_, rfl, hR52 rfl⟩, trivial⟩
        replace hs := Sat.n6 (Γ := Φ) hs rfl
        refine WL_op (Run_idxAddr (p := (elA (sl v1) i44 1)) Try.underlying22 ti23 (Opd.t rfl) (Opd.t rfl) (fun hg => (SRd.atA (A := (RSl (RI .u8))) (v := (sl v1)) (hs.sl (i := 2) rfl) he48).1)) rfl rfl rfl rfl <| WL_op (Run_load1 (v := (sl v49)) Try.underlying23 rfl (Opd.t rfl) (fun hg => ((hs.elem (i := 0) rfl) hg).sub 0 rfl)) rfl rfl rfl rfl <| WL_op (Run_lenSlG Try.underlying23 (Opd.t rfl) (fun hg => (hs.sl (i := 1) rfl).len)) rfl rfl rfl rfl <| WL_op (Run_move (Opd.t rfl)) rfl rfl rfl rfl <| WL_op (Run_neI (Opd.t rfl) (Opd.t rfl)) rfl rfl rfl rfl <| ?_
        refine WL_nil ?_
        refine At_then ?_
        refine WC_cond (Opd.t rfl) (fun hc53 => ?_) (fun hc53 => ?_)
        ·
          replace hm := bif_t hc53 hm
          refine WC_seq ?_
          refine WC_region ?_
          refine WL_op (Run_move (Opd.t rfl)) rfl rfl rfl rfl <| WL_op (Run_assign (Opd.t rfl)) rfl rfl rfl rfl <| ?_
          refine WL_nil ?_
          refine At_then ?_
          refine WC_ret ?_
          refine At_then_ret <| At_blk_ret <| At_then_ret <| At_then_ret <| At_blk_ret <| At_then_ret <| ?_
          refine At_r1 rfl (ResIs.t rfl) ?_
          cases hm
          exact ⟨rfl, (hs.re 6 [] rfl)⟩
        ·
          replace hm := bif_f hc53 hm
          refine WC_skip ?_
          refine At_then ?_
          refine WC_seq ?_
          refine WC_region_mixed [0, 0, 0, 6, 8, 17, 32, 64, 64, 64, 0, 1279, 3583, 8191] (.q 0 0 (.q 1 1 (.q 2 3 (.q 3 7 (.q 4 15 (.l2 31 5 (.q 6 63 (.q 7 127 (.q 8 255 (.q 9 511 (.l 10 1023 (.l 11 2047 (.q 12 4095 (.q 13 8191 .nil)))))))) 10 (.l 5 1055 (.q 6 1087 (.q 7 1151 (.q 8 1279 (.q 9 1535 (.l 11 2047 (.q 12 4095 (.q 13 8191 .nil)))))))))))))) (by kernel_rfl) (by kernel_rfl) ?_
          intro w54 hx55
          replace hs := hs.ext hx55
          refine WD_op (fun w => CellsAt w ⟨b33, 0, none⟩ [(.int .i64 c37), (sl v39), (.int .i64 c40), (.int .i64 c41), (sl v43)]) ((hs.box (i := 3) rfl).part 0 rfl) (fun _ hJ => (Run_loadA (vs := [(.int .i64 c37), (sl v39), (.int .i64 c40), (.int .i64 c41), (sl v43)]) Try.underlying29 rfl ti29 (Opd.t rfl) (fun _ => hJ) rfl)) rfl rfl rfl rfl <| WD_pure (fun _ => (Run_move (Opd.t rfl))) rfl rfl rfl rfl <| WD_pure (fun _ => (Run_move (Opd.t rfl))) rfl rfl rfl rfl <| ?_
          obtain ⟨e56, he57, hm⟩ := bind_some' hm
          obtain ⟨v58, hC59, hN60, hR61⟩ := cellsM23 (g := true) (fun hg => (hs.sl (i := 2) rfl)) (fun hg => he57)
          replace hs := hs.addL [elem true (elA (sl v1) i44 1) [(sl v58)], imm (RSl (RI .u8)) [sl v58] e56] rfl ⟨fun hg => ⟨hN60 hg, hC59 hg⟩, ⟨_, rfl, hR61 rfl⟩, trivial⟩
          replace hs := Sat.n8 (Γ := Φ) hs rfl
          refine WD_pure (fun _ => (Run_idxAddr (p := (elA (sl v1) i44 1)) Try.underlying22 ti23 (Opd.t rfl) (Opd.t rfl) (fun hg => (SRd.atA (A := (RSl (RI .u8))) (v := (sl v1)) (hs.sl (i := 4) rfl) he57).1))) rfl rfl rfl rfl <| WD_op (fun w => true = true → CellsAt w (elA (sl v1) i44 1) [(sl v58)]) (fun hg => ((hs.elem (i := 0) rfl) hg).sub 0 rfl) (fun _ hJ => (Run_load1 (v := (sl v58)) Try.underlying23 rfl (Opd.t rfl) hJ)) rfl rfl rfl rfl <| ?_
          refine WD_loud2 ?_ ?_
          ·
            refine WD_loud (pend' := []) rfl (by kernel_rfl) ?_
            obtain ⟨r62, hr63, hm⟩ := bind_some' hm
            refine WL_call (f := 13) (first := []) (cap := []) (xs := [(.tmp 59), (.tmp 63)]) (vs := [(.agg #[(.int .i64 c37), (sl v39), (.int .i64 c40), (.int .i64 c41), (sl v43)]), (sl v58)]) (args := [(.agg #[(.int .i64 c37), (sl v39), (.int .i64 c40), (.int .i64 c41), (sl v43)]), (sl v58)]) Try.call13 Opd.f (.cons (Opd.t rfl) (.cons (Opd.t rfl) .nil)) rfl rfl (dfa_Insert_ok (d := (c37, c38, c40, c41, c42)) (hs.re 8 [6, 7, 1, 0, 1, 2, 3, 4, 5, 6, 7] rfl) hr63) ?_
            rintro _ w66 ⟨v64, v65, rfl, hs⟩
            replace hs := Sat.n10 (Γ := Φ) hs rfl
            refine WL_nil ?_
            refine At_QK allJ_nil ?_
            refine WD_pure (fun _ => (Run_move (Opd.t rfl))) rfl rfl rfl rfl <| WD_pure (fun _ => (Run_extract (vs := [(.agg #[(.int .i64 r62.1.1), (sl v64), (.int .i64 r62.1.2.2.1), (.int .i64 r62.1.2.2.2.1), (sl v65)]), (.bool r62.2.1), (.int .i64 r62.2.2)]) (Opd.t rfl) rfl)) rfl rfl rfl rfl <| WD_pure (fun _ => (Run_extract (vs := [(.agg #[(.int .i64 r62.1.1), (sl v64), (.int .i64 r62.1.2.2.1), (.int .i64 r62.1.2.2.2.1), (sl v65)]), (.bool r62.2.1), (.int .i64 r62.2.2)]) (Opd.t rfl) rfl)) rfl rfl rfl rfl <| WD_pure (fun _ => (Run_extract (vs := [(.agg #[(.int .i64 r62.1.1), (sl v64), (.int .i64 r62.1.2.2.1), (.int .i64 r62.1.2.2.2.1), (sl v65)]), (.bool r62.2.1), (.int .i64 r62.2.2)]) (Opd.t rfl) rfl)) rfl rfl rfl rfl <| ?_
            refine WD_loud (pend' := []) rfl (by kernel_rfl) ?_
            refine WS_alloc (zs := [(.int .i64 0), (sl (none, 0, 0)), (.int .i64 0), (.int .i64 0), (sl (none, 0, 0))]) hs ti29 rfl rfl ?_
            intro b67 w68 hs
            replace hs := Sat.n11 (Γ := Φ) hs rfl
            refine WL_nil ?_
            refine At_QK allJ_nil ?_
            refine WD_loud (pend' := []) rfl (by kernel_rfl) ?_
            refine WS_store (us := [(.int .i64 r62.1.1), (sl v64), (.int .i64 r62.1.2.2.1), (.int .i64 r62.1.2.2.2.1), (sl v65)]) (vs' := [(.int .i64 r62.1.1), (sl v64), (.int .i64 r62.1.2.2.1), (.int .i64 r62.1.2.2.2.1), (sl v65)]) hs 0 rfl ti29 (Opd.t rfl) (Opd.t rfl) rfl rfl rfl rfl rfl ?_
            intro w69 hs
            replace hs := Sat.n11 (Γ := Φ) hs rfl
            refine WL_nil ?_
            refine At_QK allJ_nil ?_
            refine WD_pure (fun _ => (Run_assign (Opd.t rfl))) rfl rfl rfl rfl <| WD_pure (fun _ => (Run_assign (Opd.t rfl))) rfl rfl rfl rfl <| ?_
            refine WD_nil ?_
            refine At_then ?_
            refine WC_seq ?_
            refine WC_seq ?_
            refine WC_region ?_
            refine WL_op (Run_move (Opd.t rfl)) rfl rfl rfl rfl <| WL_op (Run_neI (Opd.t rfl) Opd.c) rfl rfl rfl rfl <| ?_
            refine WL_nil ?_
            refine At_then ?_
            refine WC_cond (Opd.t rfl) (fun hc70 => ?_) (fun hc70 => ?_)
            ·
              replace hm := bif_t hc70 hm
              refine WC_seq ?_
              refine WC_region ?_
              refine WL_op (Run_assign Opd.c) rfl rfl rfl rfl <| ?_
              refine WL_nil ?_
              refine At_then ?_
              refine WC_ret ?_
              refine At_then_ret <| At_blk_ret <| At_then_ret <| At_then_ret <| At_blk_ret <| At_then_ret <| ?_
              refine At_r1 rfl (ResIs.t rfl) ?_
              cases hm
              exact ⟨rfl, (hs.re 11 [] rfl)⟩
            ·
              replace hm := bif_f hc70 hm
              refine WC_skip ?_
              refine At_then ?_
              refine WC_region ?_
              refine WL_op (Run_loadA (vs := [(.int .i64 r62.1.1), (sl v64), (.int .i64 r62.1.2.2.1), (.int .i64 r62.1.2.2.2.1), (sl v65)]) Try.underlying29 rfl ti29 (Opd.t rfl) (fun _ => (hs.box (i := 0) rfl).part 0 rfl) rfl) rfl rfl rfl rfl <| ?_
              refine WS_store (us := [(.int .i64 r62.1.1), (sl v64), (.int .i64 r62.1.2.2.1), (.int .i64 r62.1.2.2.2.1), (sl v65)]) (vs' := [(.int .i64 r62.1.1), (sl v64), (.int .i64 r62.1.2.2.1), (.int .i64 r62.1.2.2.2.1), (sl v65)]) hs 8 rfl ti29 (Opd.t rfl) (Opd.t rfl) rfl rfl rfl rfl rfl ?_
              intro w71 hs
              replace hs := Sat.n11 (Γ := Φ) hs rfl
              refine WL_nil ?_
              refine At_blk_normal ?_
              refine At_then ?_
              refine WC_region ?_
              refine WL_op (Run_move (Opd.t rfl)) rfl rfl rfl rfl <| WL_op (Run_add (Opd.t rfl) Opd.c) rfl rfl rfl rfl <| WL_op (Run_assign (Opd.t rfl)) rfl rfl rfl rfl <| ?_
              refine WL_nil ?_
              exact At_again (r62.1.1, r62.1.2.1, r62.1.2.2.1, r62.1.2.2.2.1, r62.1.2.2.2.2, (IntKind.i64.wrap (i44 + 1))) (v64, v65) hm (hs.re 11 [7, 8, 1, 2] rfl) rfl
          ·
            refine WD_loud (pend' := [(4, fun w => true = true → CellsAt w (elA (sl v1) i44 1) [(sl v58)]), (0, fun w => CellsAt w ⟨b33, 0, none⟩ [(.int .i64 c37), (sl v39), (.int .i64 c40), (.int .i64 c41), (sl v43)])]) rfl (by kernel_rfl) ?_
            refine WS_alloc (zs := [(.int .i64 0), (sl (none, 0, 0)), (.int .i64 0), (.int .i64 0), (sl (none, 0, 0))]) hs ti29 rfl rfl ?_
            intro b72 w73 hs
            replace hs := Sat.n9 (Γ := Φ) hs rfl
            refine WL_nil ?_
            refine At_QK (allJ_cons (fun hg => ((hs.elem (i := 1) rfl) hg).sub 0 rfl) (allJ_cons ((hs.box (i := 6) rfl).part 0 rfl) allJ_nil)) ?_
            refine WD_loud (pend' := []) rfl (by kernel_rfl) ?_
            obtain ⟨r74, hr75, hm⟩ := bind_some' hm
            refine WL_call (f := 13) (first := []) (cap := []) (xs := [(.tmp 59), (.tmp 63)]) (vs := [(.agg #[(.int .i64 c37), (sl v39), (.int .i64 c40), (.int .i64 c41), (sl v43)]), (sl v58)]) (args := [(.agg #[(.int .i64 c37), (sl v39), (.int .i64 c40), (.int .i64 c41), (sl v43)]), (sl v58)]) Try.call13 Opd.f (.cons (Opd.t rfl) (.cons (Opd.t rfl) .nil)) rfl rfl (dfa_Insert_ok (d := (c37, c38, c40, c41, c42)) (hs.re 9 [7, 8, 2, 0, 1, 2, 3, 4, 5, 6, 7, 8] rfl) hr75) ?_
            rintro _ w78 ⟨v76, v77, rfl, hs⟩
            replace hs := Sat.n11 (Γ := Φ) hs rfl
            refine WL_nil ?_
            refine At_QK allJ_nil ?_
            refine WD_pure (fun _ => (Run_move (Opd.t rfl))) rfl rfl rfl rfl <| WD_pure (fun _ => (Run_extract (vs := [(.agg #[(.int .i64 r74.1.1), (sl v76), (.int .i64 r74.1.2.2.1), (.int .i64 r74.1.2.2.2.1), (sl v77)]), (.bool r74.2.1), (.int .i64 r74.2.2)]) (Opd.t rfl) rfl)) rfl rfl rfl rfl <| WD_pure (fun _ => (Run_extract (vs := [(.agg #[(.int .i64 r74.1.1), (sl v76), (.int .i64 r74.1.2.2.1), (.int .i64 r74.1.2.2.2.1), (sl v77)]), (.bool r74.2.1), (.int .i64 r74.2.2)]) (Opd.t rfl) rfl)) rfl rfl rfl rfl <| WD_pure (fun _ => (Run_extract (vs := [(.agg #[(.int .i64 r74.1.1), (sl v76), (.int .i64 r74.1.2.2.1), (.int .i64 r74.1.2.2.2.1), (sl v77)]), (.bool r74.2.1), (.int .i64 r74.2.2)]) (Opd.t rfl) rfl)) rfl rfl rfl rfl <| ?_
            refine WD_loud (pend' := []) rfl (by kernel_rfl) ?_
            refine WS_store (us := [(.int .i64 r74.1.1), (sl v76), (.int .i64 r74.1.2.2.1), (.int .i64 r74.1.2.2.2.1), (sl v77)]) (vs' := [(.int .i64 r74.1.1), (sl v76), (.int .i64 r74.1.2.2.1), (.int .i64 r74.1.2.2.2.1), (sl v77)]) hs 2 rfl ti29 (Opd.t rfl) (Opd.t rfl) rfl rfl rfl rfl rfl ?_
            intro w79 hs
            replace hs := Sat.n11 (Γ := Φ) hs rfl
            refine WL_nil ?_
            refine At_QK allJ_nil ?_
            refine WD_pure (fun _ => (Run_assign (Opd.t rfl))) rfl rfl rfl rfl <| WD_pure (fun _ => (Run_assign (Opd.t rfl))) rfl rfl rfl rfl <| ?_
            refine WD_nil ?_
            refine At_then ?_
            refine WC_seq ?_
            refine WC_seq ?_
            refine WC_region ?_
            refine WL_op (Run_move (Opd.t rfl)) rfl rfl rfl rfl <| WL_op (Run_neI (Opd.t rfl) Opd.c) rfl rfl rfl rfl <| ?_
            refine WL_nil ?_
            refine At_then ?_
            refine WC_cond (Opd.t rfl) (fun hc80 => ?_) (fun hc80 => ?_)
            ·
              replace hm := bif_t hc80 hm
              refine WC_seq ?_
              refine WC_region ?_
              refine WL_op (Run_assign Opd.c) rfl rfl rfl rfl <| ?_
              refine WL_nil ?_
              refine At_then ?_
              refine WC_ret ?_
              refine At_then_ret <| At_blk_ret <| At_then_ret <| At_then_ret <| At_blk_ret <| At_then_ret <| ?_
              refine At_r1 rfl (ResIs.t rfl) ?_
              cases hm
              exact ⟨rfl, (hs.re 11 [] rfl)⟩
            ·
              replace hm := bif_f hc80 hm
              refine WC_skip ?_
              refine At_then ?_
              refine WC_region ?_
              refine WL_op (Run_loadA (vs := [(.int .i64 r74.1.1), (sl v76), (.int .i64 r74.1.2.2.1), (.int .i64 r74.1.2.2.2.1), (sl v77)]) Try.underlying29 rfl ti29 (Opd.t rfl) (fun _ => (hs.box (i := 2) rfl).part 0 rfl) rfl) rfl rfl rfl rfl <| ?_
              refine WS_store (us := [(.int .i64 r74.1.1), (sl v76), (.int .i64 r74.1.2.2.1), (.int .i64 r74.1.2.2.2.1), (sl v77)]) (vs' := [(.int .i64 r74.1.1), (sl v76), (.int .i64 r74.1.2.2.1), (.int .i64 r74.1.2.2.2.1), (sl v77)]) hs 8 rfl ti29 (Opd.t rfl) (Opd.t rfl) rfl rfl rfl rfl rfl ?_
              intro w81 hs
              replace hs := Sat.n11 (Γ := Φ) hs rfl
              refine WL_nil ?_
              refine At_blk_normal ?_
              refine At_then ?_
              refine WC_region ?_
              refine WL_op (Run_move (Opd.t rfl)) rfl rfl rfl rfl <| WL_op (Run_add (Opd.t rfl) Opd.c) rfl rfl rfl rfl <| WL_op (Run_assign (Opd.t rfl)) rfl rfl rfl rfl <| ?_
              refine WL_nil ?_
              exact At_again (r74.1.1, r74.1.2.1, r74.1.2.2.1, r74.1.2.2.2.1, r74.1.2.2.2.2, (IntKind.i64.wrap (i44 + 1))) (v76, v77) hm (hs.re 11 [7, 8, 0, 1] rfl) rfl
      ·
        replace hm := bif_f hc46 hm
        refine WC_exit ?_
        refine At_then_exit <| At_then_exit <| At_blk_here <| ?_
        refine At_then ?_
        refine WC_seq ?_
        refine WC_region ?_
        refine WL_op (Run_loadA (vs := [(.int .i64 c37), (sl v39), (.int .i64 c40), (.int .i64 c41), (sl v43)]) Try.underlying29 rfl ti29 (Opd.t rfl) (fun _ => (hs.box (i := 1) rfl).part 0 rfl) rfl) rfl rfl rfl rfl <| ?_
        obtain ⟨r82, hr83, hm⟩ := bind_some' hm
        refine WL_call (f := 19) (first := []) (cap := []) (xs := [(.tmp 71)]) (vs := [(.agg #[(.int .i64 c37), (sl v39), (.int .i64 c40), (.int .i64 c41), (sl v43)])]) (args := [(.agg #[(.int .i64 c37), (sl v39), (.int .i64 c40), (.int .i64 c41), (sl v43)])]) Try.call19 Opd.f (.cons (Opd.t rfl) .nil) rfl rfl (dfa_Words_ok (d := (c37, c38, c40, c41, c42)) (hs.re 4 [2, 3, 0, 1, 2, 3] rfl) hr83) ?_
        rintro _ w86 ⟨v84, R85, rfl, hs⟩
        replace hs := Sat.n5 (Γ := Φ) hs rfl
        refine WL_op (Run_assign (Opd.t rfl)) rfl rfl rfl rfl <| ?_
        refine WL_nil ?_
        refine At_then ?_
        refine WC_seq ?_
        refine WC_seq ?_
        refine WC_region ?_
        refine WL_op (Run_move (Opd.t rfl)) rfl rfl rfl rfl <| WL_op (Run_lenSlG Try.underlying22 (Opd.t rfl) (fun _ => (hs.own (i := 0) rfl).len)) rfl rfl rfl rfl <| WL_op (Run_loadA (vs := [(.int .i64 c37), (sl v39), (.int .i64 c40), (.int .i64 c41), (sl v43)]) Try.underlying29 rfl ti29 (Opd.t rfl) (fun _ => (hs.box (i := 2) rfl).part 0 rfl) rfl) rfl rfl rfl rfl <| ?_
        obtain ⟨r87, hr88, hm⟩ := bind_some' hm
        refine WL_call (f := 15) (first := []) (cap := []) (xs := [(.tmp 75)]) (vs := [(.agg #[(.int .i64 c37), (sl v39), (.int .i64 c40), (.int .i64 c41), (sl v43)])]) (args := [(.agg #[(.int .i64 c37), (sl v39), (.int .i64 c40), (.int .i64 c41), (sl v43)])]) Try.call15 Opd.f (.cons (Opd.t rfl) .nil) rfl rfl (dfa_Many_ok (d := (c37, c38, c40, c41, c42)) (hs.re 5 [3, 4, 0, 1, 2, 3, 4] rfl) hr88) ?_
        rintro _ w89 ⟨rfl, hs⟩
        replace hs := Sat.n5 (Γ := Φ) hs rfl
        refine WL_op (Run_neI (Opd.t rfl) (Opd.t rfl)) rfl rfl rfl rfl <| ?_
        refine WL_nil ?_
        refine At_then ?_
        refine WC_cond (Opd.t rfl) (fun hc90 => ?_) (fun hc90 => ?_)
        ·
          replace hm := bif_t hc90 hm
          refine WC_seq ?_
          refine WC_region ?_
          refine WL_op (Run_assign Opd.c) rfl rfl rfl rfl <| ?_
          refine WL_nil ?_
          refine At_then ?_
          refine WC_ret ?_
          refine At_then_ret <| ?_
          refine At_r1 rfl (ResIs.t rfl) ?_
          cases hm
          exact ⟨rfl, (hs.re 5 [] rfl)⟩
        ·
          replace hm := bif_f hc90 hm
          refine WC_skip ?_
          refine At_then ?_
          refine WC_seq ?_
          refine WC_seq ?_
          refine WC_region ?_
          refine WL_op (Run_assign Opd.c) rfl rfl rfl rfl <| ?_
          refine WL_nil ?_
          refine At_then ?_
          refine WC_block ?_
          replace hs := hs.freeze (i := 0) rfl
          refine WC_loop (σ := Int) (γ := Unit) (F := (scrutinylaw09_DfaRising_L2 c r3 e13 c37 c38 c40 c41 c42 r82)) (N := FUEL) (s0 := 0) (r := r) (fun i92 (_ : Unit) w91 => Sat (box b33 29 [(.int .i64 c37), (sl v39), (.int .i64 c40), (.int .i64 c41), (sl v43)] :: imm (RSl (RP (RSl (RP (RI .u8) (RI .i64))) (RI .i64))) [sl v39] c38 :: imm (RSl (RI .i64)) [sl v43] c42 :: imm (RSl (RSl (RI .u8))) [sl v84] r82 :: Φ) w91) (fun i92 (_ : Unit) => [(1, true, (.int .u8 c)), (5, true, (.bool r3)), (6, true, (.int .i64 (List.length e13 : Int))), (7, true, (.pointer (some ⟨b33, 0, none⟩))), (13, true, (sl v84)), (14, true, (.int .i64 i92))]) hm () (hs.re 5 [2, 3, 4, 0] rfl) rfl ?_
          rintro again93 i92 _ w91 hm hs
          unfold scrutinylaw09_DfaRising_L2 at hm
          refine WC_seq ?_
          refine WC_seq ?_
          refine WC_region ?_
          refine WL_op (Run_move (Opd.t rfl)) rfl rfl rfl rfl <| WL_op (Run_move (Opd.t rfl)) rfl rfl rfl rfl <| WL_op (Run_lenSlG Try.underlying22 (Opd.t rfl) (fun hg => (hs.sl (i := 3) rfl).len)) rfl rfl rfl rfl <| WL_op (Run_ltI (Opd.t rfl) (Opd.t rfl)) rfl rfl rfl rfl <| ?_
          refine WL_nil ?_
          refine At_then ?_
          refine WC_cond (Opd.t rfl) (fun hc94 => ?_) (fun hc94 => ?_)
          ·
            replace hm := bif_t hc94 hm
            refine WC_skip ?_
            refine At_then ?_
            refine WC_seq ?_
            refine WC_block ?_
            refine WC_seq ?_
            refine WC_seq ?_
            refine WC_region_mixed [0, 0, 3, 4, 8, 0, 48, 64, 128, 384, 640, 1024, 1024, 7168, 9216, 17408, 1024, 1024, 132096, 328704, 525312, 1049600, 2130944, 4195456, 8388736, 16778240, 33554432, 33554432, 33554432, 436207616, 570425344, 1174405120, 2181038080, 4328521728] (.q 0 0 (.q 1 1 (.q 2 3 (.q 3 7 (.q 4 15 (.q 5 31 (.q 6 63 (.q 7 127 (.q 8 255 (.q 9 511 (.q 10 1023 (.q 11 2047 (.q 12 4095 (.q 13 8191 (.q 14 16383 (.q 15 32767 (.q 16 65535 (.q 17 131071 (.q 18 262143 (.q 19 524287 (.q 20 1048575 (.q 21 2097151 (.q 22 4194303 (.q 23 8388607 (.q 24 16777215 (.q 25 33554431 (.q 26 67108863 (.q 27 134217727 (.q 28 268435455 (.q 29 536870911 (.q 30 1073741823 (.l 31 2147483647 (.q 32 4294967295 (.q 33 8589934591 .nil)))))))))))))))))))))))))))))))))) (by kernel_rfl) (by kernel_rfl) ?_
            intro w95 hx96
            replace hs := hs.ext hx96
            refine WD_pure (fun _ => (Run_move (Opd.t rfl))) rfl rfl rfl rfl <| WD_pure (fun _ => (Run_move (Opd.t rfl))) rfl rfl rfl rfl <| ?_
            obtain ⟨e97, he98, hm⟩ := bind_some' hm
            obtain ⟨v99, hC100, hN101, hR102⟩ := cellsM23 (g := true) (fun hg => (hs.sl (i := 3) rfl)) (fun hg => he98)
            replace hs := hs.addL [elem true (elA (sl v84) i92 1) [(sl v99)], imm (RSl (RI .u8)) [sl v99] e97] rfl ⟨fun hg => ⟨hN101 hg, hC100 hg⟩, ⟨_, rfl, hR102 rfl⟩, trivial⟩
            replace hs := Sat.n6 (Γ := Φ) hs rfl
            refine WD_pure (fun _ => (Run_idxAddr (p := (elA (sl v84) i92 1)) Try.underlying22 ti23 (Opd.t rfl) (Opd.t rfl) (fun hg => (SRd.atA (A := (RSl (RI .u8))) (v := (sl v84)) (hs.sl (i := 5) rfl) he98).1))) rfl rfl rfl rfl <| WD_op (fun w => true = true → CellsAt w (elA (sl v84) i92 1) [(sl v99)]) (fun hg => ((hs.elem (i := 0) rfl) hg).sub 0 rfl) (fun _ hJ => (Run_load1 (v := (sl v99)) Try.underlying23 rfl (Opd.t rfl) hJ)) rfl rfl rfl rfl <| WD_pure (fun _ => (Run_lenSlG Try.underlying23 (Opd.t rfl) (fun hg => (hs.sl (i := 1) rfl).len))) rfl rfl rfl rfl <| WD_pure (fun _ => (Run_move (Opd.t rfl))) rfl rfl rfl rfl <| ?_
            obtain ⟨b103, e104, hm⟩ := letv_some hm
            refine WD_pure (fun _ => (Run.eqB (Run_neI (Opd.t rfl) (Opd.t rfl)) e104)) rfl rfl rfl rfl <| WD_pure (fun _ => (Run_move (Opd.t rfl))) rfl rfl rfl rfl <| WD_pureG rfl rfl rfl rfl guard_neg (fun _ => (Run_move (Opd.t rfl))) rfl rfl rfl <| ?_
            obtain ⟨b105, e106, hm⟩ := letv_some hm
            refine WD_pureG rfl rfl rfl rfl guard_neg (fun _ => (Run.eqB (Run_gtI (Opd.g rfl id) Opd.c) e106)) rfl rfl rfl <| WD_pureG rfl rfl rfl rfl guard_neg (fun _ => (Run_move (Opd.g rfl id))) rfl rfl rfl <| WD_pureG rfl rfl rfl rfl guard_pos' (fun _ => (Run_move (Opd.t rfl))) rfl rfl rfl <| WD_pureG rfl rfl rfl rfl guard_pos' (fun _ => (Run_move (Opd.t rfl))) rfl rfl rfl <| ?_
            obtain ⟨e107, he108, -, hm⟩ := callG_some hm
            obtain ⟨v109, hC110, hN111, hR112⟩ := cellsM23 (g := ((!b103) && b105)) (fun hg => (hs.sl (i := 5) rfl)) (fun hg => (he108 hg))
            replace hs := hs.addL [elem ((!b103) && b105) (elA (sl v84) i92 1) [(sl v109)], immG ((!b103) && b105) (RSl (RI .u8)) [sl v109] e107] rfl ⟨fun hg => ⟨hN111 hg, hC110 hg⟩, fun hg => ⟨_, rfl, hR112 hg⟩, trivial⟩
            replace hs := Sat.n8 (Γ := Φ) hs rfl
            refine WD_pureG rfl rfl rfl rfl guard_pos' (fun _ => (Run_idxAddr (p := (elA (sl v84) i92 1)) Try.underlying22 ti23 (Opd.g rfl id) (Opd.g rfl id) (fun hg => (SRd.atA (A := (RSl (RI .u8))) (v := (sl v84)) (hs.sl (i := 7) rfl) (he108 hg)).1))) rfl rfl rfl <| WD_opG (fun w => ((!b103) && b105) = true → CellsAt w (elA (sl v84) i92 1) [(sl v109)]) (fun hg => ((hs.elem (i := 0) rfl) hg).sub 0 rfl) rfl rfl rfl rfl guard_pos' (fun _ hJ => (Run_load1 (v := (sl v109)) Try.underlying23 rfl (Opd.g rfl id) hJ)) rfl rfl rfl <| WD_opG (fun w => ((!b103) && b105) = true → SRd (RI .u8) (fun _ => False) w (sl v109) e107) (fun hg => ((hs.slG (i := 1) rfl) hg).mv (Mv.weaken _ (fun _ h => h.elim))) rfl rfl rfl rfl guard_pos' (fun _ hJ => (Run_b2s Try.underlying23 Try.underlying5 Try.underlying9 (Opd.g rfl id) hJ)) rfl rfl rfl <| WD_pureG rfl rfl rfl rfl guard_pos' (fun _ => (Run_move (Opd.t rfl))) rfl rfl rfl <| WD_pureG rfl rfl rfl rfl guard_pos' (fun _ => (Run_move (Opd.t rfl))) rfl rfl rfl <| WD_pureG rfl rfl rfl rfl guard_pos' (fun _ => (Run_sub (Opd.g rfl id) Opd.c)) rfl rfl rfl <| ?_
            obtain ⟨e113, he114, -, hm⟩ := callG_some hm
            obtain ⟨v115, hC116, hN117, hR118⟩ := cellsM23 (g := ((!b103) && b105)) (fun hg => (hs.sl (i := 7) rfl)) (fun hg => (he114 hg))
            replace hs := hs.addL [elem ((!b103) && b105) (elA (sl v84) (IntKind.i64.wrap (i92 - 1)) 1) [(sl v115)], immG ((!b103) && b105) (RSl (RI .u8)) [sl v115] e113] rfl ⟨fun hg => ⟨hN117 hg, hC116 hg⟩, fun hg => ⟨_, rfl, hR118 hg⟩, trivial⟩
            replace hs := Sat.n10 (Γ := Φ) hs rfl
            refine WD_pureG rfl rfl rfl rfl guard_pos' (fun _ => (Run_idxAddr (p := (elA (sl v84) (IntKind.i64.wrap (i92 - 1)) 1)) Try.underlying22 ti23 (Opd.g rfl id) (Opd.g rfl id) (fun hg => (SRd.atA (A := (RSl (RI .u8))) (v := (sl v84)) (hs.sl (i := 9) rfl) (he114 hg)).1))) rfl rfl rfl <| WD_opG (fun w => ((!b103) && b105) = true → CellsAt w (elA (sl v84) (IntKind.i64.wrap (i92 - 1)) 1) [(sl v115)]) (fun hg => ((hs.elem (i := 0) rfl) hg).sub 0 rfl) rfl rfl rfl rfl guard_pos' (fun _ hJ => (Run_load1 (v := (sl v115)) Try.underlying23 rfl (Opd.g rfl id) hJ)) rfl rfl rfl <| WD_opG (fun w => ((!b103) && b105) = true → SRd (RI .u8) (fun _ => False) w (sl v115) e113) (fun hg => ((hs.slG (i := 1) rfl) hg).mv (Mv.weaken _ (fun _ h => h.elim))) rfl rfl rfl rfl guard_pos' (fun _ hJ => (Run_b2s Try.underlying23 Try.underlying5 Try.underlying9 (Opd.g rfl id) hJ)) rfl rfl rfl <| ?_
            obtain ⟨b119, e120, hm⟩ := letv_some hm
            refine WD_pureG rfl rfl rfl rfl guard_pos' (fun _ => (Run.eqB (Run_leS (Opd.g rfl id) (Opd.g rfl id)) e120)) rfl rfl rfl <| ?_
            obtain ⟨b121, e122, hm⟩ := letv_some hm
            refine WD_pureG rfl rfl rfl rfl guard_neg (fun _ => (Run.eqB (Run_and (Opd.g rfl id) (Opd.g rfl id)) e122)) rfl rfl rfl <| ?_
            obtain ⟨b123, e124, hm⟩ := letv_some hm
            refine WD_pure (fun _ => (Run.eqB (Run_or (Opd.t rfl) (Opd.g rfl id)) e124)) rfl rfl rfl rfl <| WD_pure (fun _ => (Run_move (Opd.t rfl))) rfl rfl rfl rfl <| WD_opG (fun w => CellsAt w ⟨b33, 0, none⟩ [(.int .i64 c37), (sl v39), (.int .i64 c40), (.int .i64 c41), (sl v43)]) ((hs.box (i := 6) rfl).part 0 rfl) rfl rfl rfl rfl guard_neg (fun _ hJ => (Run_loadA (vs := [(.int .i64 c37), (sl v39), (.int .i64 c40), (.int .i64 c41), (sl v43)]) Try.underlying29 rfl ti29 (Opd.t rfl) (fun _ => hJ) rfl)) rfl rfl rfl <| WD_pureG rfl rfl rfl rfl guard_neg (fun _ => (Run_move (Opd.t rfl))) rfl rfl rfl <| WD_pureG rfl rfl rfl rfl guard_neg (fun _ => (Run_move (Opd.t rfl))) rfl rfl rfl <| ?_
            obtain ⟨e125, he126, -, hm⟩ := callG_some hm
            obtain ⟨v127, hC128, hN129, hR130⟩ := cellsM23 (g := (!b123)) (fun hg => (hs.sl (i := 9) rfl)) (fun hg => (he126 hg))
            replace hs := hs.addL [elem (!b123) (elA (sl v84) i92 1) [(sl v127)], immG (!b123) (RSl (RI .u8)) [sl v127] e125] rfl ⟨fun hg => ⟨hN129 hg, hC128 hg⟩, fun hg => ⟨_, rfl, hR130 hg⟩, trivial⟩
            replace hs := Sat.n12 (Γ := Φ) hs rfl
            refine WD_pureG rfl rfl rfl rfl guard_neg (fun _ => (Run_idxAddr (p := (elA (sl v84) i92 1)) Try.underlying22 ti23 (Opd.g rfl id) (Opd.g rfl id) (fun hg => (SRd.atA (A := (RSl (RI .u8))) (v := (sl v84)) (hs.sl (i := 11) rfl) (he126 hg)).1))) rfl rfl rfl <| WD_opG (fun w => (!b123) = true → CellsAt w (elA (sl v84) i92 1) [(sl v127)]) (fun hg => ((hs.elem (i := 0) rfl) hg).sub 0 rfl) rfl rfl rfl rfl guard_neg (fun _ hJ => (Run_load1 (v := (sl v127)) Try.underlying23 rfl (Opd.g rfl id) hJ)) rfl rfl rfl <| ?_
            refine WD_loud (pend' := [(21, fun w => ((!b103) && b105) = true → SRd (RI .u8) (fun _ => False) w (sl v115) e113), (20, fun w => ((!b103) && b105) = true → CellsAt w (elA (sl v84) (IntKind.i64.wrap (i92 - 1)) 1) [(sl v115)]), (15, fun w => ((!b103) && b105) = true → SRd (RI .u8) (fun _ => False) w (sl v109) e107), (14, fun w => ((!b103) && b105) = true → CellsAt w (elA (sl v84) i92 1) [(sl v109)]), (3, fun w => true = true → CellsAt w (elA (sl v84) i92 1) [(sl v99)])]) rfl (by kernel_rfl) ?_
            obtain ⟨r131, hr132, -, hm⟩ := callG_some hm
            refine WL_callG rfl rfl rfl guard_neg (f := 20) (first := []) (cap := []) (xs := [(.tmp 110), (.tmp 114)]) (vs := [(.agg #[(.int .i64 c37), (sl v39), (.int .i64 c40), (.int .i64 c41), (sl v43)]), (sl v127)]) (args := [(.agg #[(.int .i64 c37), (sl v39), (.int .i64 c40), (.int .i64 c41), (sl v43)]), (sl v127)]) Try.call20 Opd.f (.cons (Opd.g rfl id) (.cons (Opd.g rfl id) .nil)) rfl rfl (fun hg => dfa_Has_ok (d := (c37, c38, c40, c41, c42)) ((hs.dupS (i := 1) rfl hg).re 13 [10, 11, 0, 1, 2, 3, 4, 5, 6, 7, 8, 9, 10, 11, 12] rfl) (hr132 hg)) ?_
            intro v134 w133 hv135 hz136
            replace hs := Sat.ofG (fun hg => (hv135 hg).2.re 12 [0, 1, 2, 3, 4, 5, 6, 7, 8, 9, 10, 11] rfl) hz136 hs
            refine WL_sub1 (v := (.bool r131)) (fun hg => (hv135 hg).1) ?_
            replace hs := Sat.n12 (Γ := Φ) hs rfl
            refine WL_nil ?_
            refine At_QK (allJ_cons (fun hg => ((hs.slG (i := 3) rfl) hg).mv (Mv.weaken _ (fun _ h => h.elim))) (allJ_cons (fun hg => ((hs.elem (i := 2) rfl) hg).sub 0 rfl) (allJ_cons (fun hg => ((hs.slG (i := 5) rfl) hg).mv (Mv.weaken _ (fun _ h => h.elim))) (allJ_cons (fun hg => ((hs.elem (i := 4) rfl) hg).sub 0 rfl) (allJ_cons (fun hg => ((hs.elem (i := 6) rfl) hg).sub 0 rfl) allJ_nil))))) ?_
            obtain ⟨b137, e138, hm⟩ := letv_some hm
            refine WD_pureG rfl rfl rfl rfl guard_neg (fun _ => (Run.eqB (Run_notB (Opd.g rfl id)) e138)) rfl rfl rfl <| ?_
            obtain ⟨b139, e140, hm⟩ := letv_some hm
            refine WD_pure (fun _ => (Run.eqB (Run_or (Opd.t rfl) (Opd.g rfl id)) e140)) rfl rfl rfl rfl <| ?_
            refine WD_nil ?_
            refine At_then ?_
            refine WC_cond (Opd.t rfl) (fun hc141 => ?_) (fun hc141 => ?_)
            ·
              replace hm := bif_t hc141 hm
              refine WC_seq ?_
              refine WC_region ?_
              refine WL_op (Run_assign Opd.c) rfl rfl rfl rfl <| ?_
              refine WL_nil ?_
              refine At_then ?_
              refine WC_ret ?_
              refine At_then_ret <| At_blk_ret <| At_then_ret <| At_then_ret <| At_blk_ret <| At_then_ret <| ?_
              refine At_r1 rfl (ResIs.t rfl) ?_
              cases hm
              exact ⟨rfl, (hs.re 12 [] rfl)⟩
            ·
              replace hm := bif_f hc141 hm
              refine WC_skip ?_
              refine At_then ?_
              refine WC_seq ?_
              refine WC_region ?_
              refine WS_lit0 (A := (RI .u8)) hs Try.underlying23 ti5 rfl ?_
              intro b142 w143 hs
              replace hs := Sat.n13 (Γ := Φ) hs rfl
              refine WL_op (Run_move (Opd.t rfl)) rfl rfl rfl rfl <| WL_op (Run_move (Opd.t rfl)) rfl rfl rfl rfl <| ?_
              obtain ⟨e144, he145, hm⟩ := bind_some' hm
              obtain ⟨v146, hC147, hN148, hR149⟩ := cellsM23 (g := true) (fun hg => (hs.sl (i := 12) rfl)) (fun hg => he145)
              replace hs := hs.addL [elem true (elA (sl v84) i92 1) [(sl v146)], imm (RSl (RI .u8)) [sl v146] e144] rfl ⟨fun hg => ⟨hN148 hg, hC147 hg⟩, ⟨_, rfl, hR149 rfl⟩, trivial⟩
              replace hs := Sat.n15 (Γ := Φ) hs rfl
              refine WL_op (Run_idxAddr (p := (elA (sl v84) i92 1)) Try.underlying22 ti23 (Opd.t rfl) (Opd.t rfl) (fun hg => (SRd.atA (A := (RSl (RI .u8))) (v := (sl v84)) (hs.sl (i := 14) rfl) he145).1)) rfl rfl rfl rfl <| WL_op (Run_load1 (v := (sl v146)) Try.underlying23 rfl (Opd.t rfl) (fun hg => ((hs.elem (i := 0) rfl) hg).sub 0 rfl)) rfl rfl rfl rfl <| ?_
              obtain ⟨k150, hm⟩ := chk_some hm
              refine WS_append (A := (RI .u8)) hs 2 rfl Try.underlying23 ti5 rfl rfl (Opd.t rfl) (Opd.t rfl) (hs.sl (i := 1) rfl) k150 rfl ?_
              intro v151 R152 w153 hs
              replace hs := Sat.n15 (Γ := Φ) hs rfl
              refine WL_op (Run_assign (Opd.t rfl)) rfl rfl rfl rfl <| ?_
              refine WL_nil ?_
              refine At_then ?_
              refine WC_seq ?_
              refine WC_region ?_
              refine WL_op (Run_move (Opd.t rfl)) rfl rfl rfl rfl <| WL_op (Run_move (Opd.t rfl)) rfl rfl rfl rfl <| WL_op (Run_sub (Opd.t rfl) Opd.c) rfl rfl rfl rfl <| WL_op (Run_move (Opd.t rfl)) rfl rfl rfl rfl <| ?_
              obtain ⟨e154, he155, hm⟩ := bind_some' hm
              refine WL_op (Run_idxAddr (p := (elA (sl v151) (IntKind.i64.wrap ((List.length e13 : Int) - 1)) 1)) Try.underlying23 ti5 (Opd.t rfl) (Opd.t rfl) (fun hg => (Own.atA (A := (RI .u8)) (v := (sl v151)) (hs.own (i := 2) rfl) he155).1)) rfl rfl rfl rfl <| ?_
              refine WS_storeElA (A := (RI .u8)) (us := [(.int .u8 c)]) (u := c) hs 2 rfl ti5 (idx_inB he155 (by simp)) (Opd.t rfl) (Opd.t rfl) rfl rfl rfl rfl rfl ?_
              intro w156 hs
              replace hs := Sat.n15 (Γ := Φ) hs rfl
              refine WL_nil ?_
              refine At_then ?_
              refine WC_seq ?_
              refine WC_region ?_
              refine WL_op (Run_assign Opd.c) rfl rfl rfl rfl <| ?_
              refine WL_nil ?_
              refine At_then ?_
              refine WC_seq ?_
              refine WC_seq ?_
              refine WC_region ?_
              refine WL_op (Run_assign Opd.c) rfl rfl rfl rfl <| ?_
              refine WL_nil ?_
              refine At_then ?_
              refine WC_block ?_
              refine WC_loop (σ := Bool × Int) (γ := Unit) (F := (scrutinylaw09_DfaRising_L3 c e13 c37 c38 c40 c41 c42 r82 i92 again93 e144)) (N := FUEL) (s0 := (false, 0)) (r := r) (fun ⟨told158, k159⟩ (_ : Unit) w157 => Sat (box b33 29 [(.int .i64 c37), (sl v39), (.int .i64 c40), (.int .i64 c41), (sl v43)] :: imm (RSl (RP (RSl (RP (RI .u8) (RI .i64))) (RI .i64))) [sl v39] c38 :: imm (RSl (RI .i64)) [sl v43] c42 :: imm (RSl (RSl (RI .u8))) [sl v84] r82 :: osl (RI .u8) 5 (sl v151) (List.set (([] : List Int) ++ e144) (Int.toNat (IntKind.i64.wrap ((List.length e13 : Int) - 1))) c) R152 :: Φ) w157) (fun ⟨told158, k159⟩ (_ : Unit) => [(1, true, (.int .u8 c)), (5, true, (.bool r3)), (6, true, (.int .i64 (List.length e13 : Int))), (7, true, (.pointer (some ⟨b33, 0, none⟩))), (13, true, (sl v84)), (14, true, (.int .i64 i92)), (15, true, (sl v151)), (16, true, (.bool told158)), (17, true, (.int .i64 k159))]) hm () (hs.re 15 [11, 12, 13, 14, 2] rfl) rfl ?_
              rintro again160 ⟨told158, k159⟩ _ w157 hm hs
              unfold scrutinylaw09_DfaRising_L3 at hm
              dsimp only at hm
              refine WC_seq ?_
              refine WC_seq ?_
              refine WC_region ?_
              refine WL_op (Run_move (Opd.t rfl)) rfl rfl rfl rfl <| WL_op (Run_move (Opd.t rfl)) rfl rfl rfl rfl <| WL_op (Run_lenSlG Try.underlying22 (Opd.t rfl) (fun hg => (hs.sl (i := 3) rfl).len)) rfl rfl rfl rfl <| WL_op (Run_ltI (Opd.t rfl) (Opd.t rfl)) rfl rfl rfl rfl <| ?_
              refine WL_nil ?_
              refine At_then ?_
              refine WC_cond (Opd.t rfl) (fun hc161 => ?_) (fun hc161 => ?_)
              ·
                replace hm := bif_t hc161 hm
                refine WC_skip ?_
                refine At_then ?_
                refine WC_seq ?_
                refine WC_block ?_
                refine WC_region_mixed [0, 1, 2, 2, 14, 18, 34, 2, 130, 322, 514, 2047] (.q 0 0 (.q 1 1 (.q 2 3 (.q 3 7 (.q 4 15 (.q 5 31 (.q 6 63 (.q 7 127 (.q 8 255 (.q 9 511 (.q 10 1023 (.q 11 2047 .nil)))))))))))) (by kernel_rfl) (by kernel_rfl) ?_
                intro w162 hx163
                replace hs := hs.ext hx163
                refine WD_pure (fun _ => (Run_move (Opd.t rfl))) rfl rfl rfl rfl <| WD_pure (fun _ => (Run_move (Opd.t rfl))) rfl rfl rfl rfl <| WD_pureG rfl rfl rfl rfl guard_neg (fun _ => (Run_move (Opd.t rfl))) rfl rfl rfl <| WD_pureG rfl rfl rfl rfl guard_neg (fun _ => (Run_move (Opd.t rfl))) rfl rfl rfl <| ?_
                obtain ⟨e164, he165, -, hm⟩ := callG_some hm
                obtain ⟨v166, hC167, hN168, hR169⟩ := cellsM23 (g := (!told158)) (fun hg => (hs.sl (i := 3) rfl)) (fun hg => (he165 hg))
                replace hs := hs.addL [elem (!told158) (elA (sl v84) k159 1) [(sl v166)], immG (!told158) (RSl (RI .u8)) [sl v166] e164] rfl ⟨fun hg => ⟨hN168 hg, hC167 hg⟩, fun hg => ⟨_, rfl, hR169 hg⟩, trivial⟩
                replace hs := Sat.n7 (Γ := Φ) hs rfl
                refine WD_pureG rfl rfl rfl rfl guard_neg (fun _ => (Run_idxAddr (p := (elA (sl v84) k159 1)) Try.underlying22 ti23 (Opd.g rfl id) (Opd.g rfl id) (fun hg => (SRd.atA (A := (RSl (RI .u8))) (v := (sl v84)) (hs.sl (i := 5) rfl) (he165 hg)).1))) rfl rfl rfl <| WD_opG (fun w => (!told158) = true → CellsAt w (elA (sl v84) k159 1) [(sl v166)]) (fun hg => ((hs.elem (i := 0) rfl) hg).sub 0 rfl) rfl rfl rfl rfl guard_neg (fun _ hJ => (Run_load1 (v := (sl v166)) Try.underlying23 rfl (Opd.g rfl id) hJ)) rfl rfl rfl <| WD_opG (fun w => (!told158) = true → SRd (RI .u8) (fun _ => False) w (sl v166) e164) (fun hg => ((hs.slG (i := 1) rfl) hg).mv (Mv.weaken _ (fun _ h => h.elim))) rfl rfl rfl rfl guard_neg (fun _ hJ => (Run_b2s Try.underlying23 Try.underlying5 Try.underlying9 (Opd.g rfl id) hJ)) rfl rfl rfl <| WD_pureG rfl rfl rfl rfl guard_neg (fun _ => (Run_move (Opd.t rfl))) rfl rfl rfl <| WD_opG (fun w => (!told158) = true → SRd (RI .u8) (fun _ => False) w (sl v151) (List.set (([] : List Int) ++ e144) (Int.toNat (IntKind.i64.wrap ((List.length e13 : Int) - 1))) c)) (fun _ => (hs.own (i := 6) rfl).freeze (fun _ _ h => h) (Mv.weaken _ (fun _ h => h.elim))) rfl rfl rfl rfl guard_neg (fun _ hJ => (Run_b2s Try.underlying23 Try.underlying5 Try.underlying9 (Opd.g rfl id) hJ)) rfl rfl rfl <| ?_
                obtain ⟨b170, e171, hm⟩ := letv_some hm
                refine WD_pureG rfl rfl rfl rfl guard_neg (fun _ => (Run.eqB (Run_eqS (Opd.g rfl id) (Opd.g rfl id)) e171)) rfl rfl rfl <| ?_
                obtain ⟨b172, e173, hm⟩ := letv_some hm
                refine WD_pure (fun _ => (Run.eqB (Run_or (Opd.t rfl) (Opd.g rfl id)) e173)) rfl rfl rfl rfl <| WD_pure (fun _ => (Run_assign (Opd.t rfl))) rfl rfl rfl rfl <| ?_
                refine WD_nil ?_
                refine At_blk_normal ?_
                refine At_then ?_
                refine WC_region ?_
                refine WL_op (Run_move (Opd.t rfl)) rfl rfl rfl rfl <| WL_op (Run_add (Opd.t rfl) Opd.c) rfl rfl rfl rfl <| WL_op (Run_assign (Opd.t rfl)) rfl rfl rfl rfl <| ?_
                refine WL_nil ?_
                exact At_again (b172, (IntKind.i64.wrap (k159 + 1))) () hm (hs.re 7 [2, 3, 4, 5, 6] rfl) rfl
              ·
                replace hm := bif_f hc161 hm
                refine WC_exit ?_
                refine At_then_exit <| At_then_exit <| At_blk_here <| ?_
                refine At_then ?_
                refine WC_seq ?_
                refine WC_region ?_
                refine WL_op (Run_loadA (vs := [(.int .i64 c37), (sl v39), (.int .i64 c40), (.int .i64 c41), (sl v43)]) Try.underlying29 rfl ti29 (Opd.t rfl) (fun _ => (hs.box (i := 0) rfl).part 0 rfl) rfl) rfl rfl rfl rfl <| WL_op (Run_move (Opd.t rfl)) rfl rfl rfl rfl <| ?_
                replace hs := hs.freeze (i := 4) rfl
                obtain ⟨r174, hr175, hm⟩ := bind_some' hm
                refine WL_call (f := 20) (first := []) (cap := []) (xs := [(.tmp 146), (.tmp 147)]) (vs := [(.agg #[(.int .i64 c37), (sl v39), (.int .i64 c40), (.int .i64 c41), (sl v43)]), (sl v151)]) (args := [(.agg #[(.int .i64 c37), (sl v39), (.int .i64 c40), (.int .i64 c41), (sl v43)]), (sl v151)]) Try.call20 Opd.f (.cons (Opd.t rfl) (.cons (Opd.t rfl) .nil)) rfl rfl (dfa_Has_ok (d := (c37, c38, c40, c41, c42)) (hs.re 5 [1, 2, 4, 0, 1, 2, 3, 4] rfl) hr175) ?_
                rintro _ w176 ⟨rfl, hs⟩
                replace hs := Sat.n5 (Γ := Φ) hs rfl
                refine WL_op (Run_move (Opd.t rfl)) rfl rfl rfl rfl <| WL_op (Run_neB Try.underlying4 (Opd.t rfl) (Opd.t rfl)) rfl rfl rfl rfl <| ?_
                refine WL_nil ?_
                refine At_then ?_
                refine WC_cond (Opd.t rfl) (fun hc177 => ?_) (fun hc177 => ?_)
                ·
                  replace hm := bif_t hc177 hm
                  refine WC_seq ?_
                  refine WC_region ?_
                  refine WL_op (Run_assign Opd.c) rfl rfl rfl rfl <| ?_
                  refine WL_nil ?_
                  refine At_then ?_
                  refine WC_ret ?_
                  refine At_blk_ret <| At_then_ret <| At_then_ret <| At_blk_ret <| At_then_ret <| ?_
                  refine At_r1 rfl (ResIs.t rfl) ?_
                  cases hm
                  exact ⟨rfl, (hs.re 5 [] rfl)⟩
                ·
                  replace hm := bif_f hc177 hm
                  refine WC_skip ?_
                  refine At_blk_normal ?_
                  refine At_then ?_
                  refine WC_region ?_
                  refine WL_op (Run_move (Opd.t rfl)) rfl rfl rfl rfl <| WL_op (Run_add (Opd.t rfl) Opd.c) rfl rfl rfl rfl <| WL_op (Run_assign (Opd.t rfl)) rfl rfl rfl rfl <| ?_
                  refine WL_nil ?_
                  exact At_again (IntKind.i64.wrap (i92 + 1)) () hm (hs.re 5 [0, 1, 2, 3] rfl) rfl
          ·
            replace hm := bif_f hc94 hm
            refine WC_exit ?_
            refine At_then_exit <| At_then_exit <| At_blk_here <| ?_
            refine At_then ?_
            refine WC_seq ?_
            refine WC_region ?_
            refine WL_op (Run_move (Opd.t rfl)) rfl rfl rfl rfl <| WL_op (Run_assign (Opd.t rfl)) rfl rfl rfl rfl <| ?_
            refine WL_nil ?_
            refine At_then ?_
            refine WC_ret ?_
            refine At_r1 rfl (ResIs.t rfl) ?_
            cases hm
            exact ⟨rfl, (hs.re 4 [] rfl)⟩

end Go.Proofs.Ytjappdgehmjomaa
