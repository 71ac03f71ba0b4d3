/- Printed by a program: the walks. -/
import Derived.Test.YtmeombbmhpcacaaDoorWalk9
namespace Go.Proofs.YtmeombbmhpcacaaDoor
open Go.Proofs

set_option maxRecDepth 100000 in
set_option maxHeartbeats 4000000 in
theorem expr_Show_F_ok {k_expr_Show : (Ex × (List Str)) → Option Str} (ih_expr_Show : ∀ {Φ : Ctx} {w : World} {e : Ex} {names : (List Str)} {v1 : SLV} {v3 : SLV} {r : Str}, Sat (imm (RSl RExpr) [sl v1] e.l :: imm (RSl RS) [sl v3] names :: gl 1 (textsL.map S) :: gl 2 (pow10L.map (Value.int .u64)) :: Φ) w → k_expr_Show (e, names) = some r → CallsR Tryd.prog 21 [(.agg #[(.int .i64 e.op), (.int .i64 e.n), (.int .i64 e.at_), (sl v1)]), (sl v3)] w (fun v w' => v = (S r) ∧ Sat (Φ) w')) {Φ : Ctx} {w : World} {e : Ex} {names : (List Str)} {v1 : SLV} {v3 : SLV} {r : Str} (hs : Sat (imm (RSl RExpr) [sl v1] e.l :: imm (RSl RS) [sl v3] names :: gl 1 (textsL.map S) :: gl 2 (pow10L.map (Value.int .u64)) :: Φ) w) (hm : expr_Show_F k_expr_Show e names = some r) :
    CallsR Tryd.prog 21 [(.agg #[(.int .i64 e.op), (.int .i64 e.n), (.int .i64 e.at_), (sl v1)]), (sl v3)] w (fun v w' => v = (S r) ∧ Sat (Φ) w') := by
  refine CallsX_enter Tryd.func21 rfl Tryd.ntmps21 rfl ?_
  unfold expr_Show_F at hm
  refine WC_seq ?_
  refine WC_region ?_
  refine WS_box (zs := [(.int .i64 e.op), (.int .i64 e.n), (.int .i64 e.at_), (sl v1)]) hs (Opd.t rfl) rfl rfl ?_
  intro b3 w4 hs
  replace hs := Sat.n5 (Γ := Φ) hs rfl
  refine WL_op (Run_assign Opd.c) rfl rfl rfl rfl <| ?_
  refine WL_nil ?_
  refine At_then ?_
  refine WC_seq ?_
  refine WC_block ?_
  refine WC_seq ?_
  refine WC_region ?_
  refine WL_op (Run_fieldAddr fo24_0 (Opd.t rfl)) rfl rfl rfl rfl <| WL_op (Run_load1 (v := (.int .i64 e.op)) Tryd.underlying3 rfl (Opd.t rfl) (fun _ => (hs.box (i := 0) rfl).part 0 rfl)) rfl rfl rfl rfl <| WL_op (Run_eqI (Opd.t rfl) Opd.c) rfl rfl rfl rfl <| WL_op (Run_assign (Opd.t rfl)) rfl rfl rfl rfl <| ?_
  refine WL_nil ?_
  refine At_then ?_
  refine WC_cond (Opd.t rfl) (fun hc5 => ?_) (fun hc5 => ?_)
  ·
    replace hm := bif_t hc5 hm
    refine WC_seq ?_
    refine WC_region ?_
    refine WL_op (Run_fieldAddr fo24_1 (Opd.t rfl)) rfl rfl rfl rfl <| WL_op (Run_load1 (v := (.int .i64 e.n)) Tryd.underlying3 rfl (Opd.t rfl) (fun _ => (hs.box (i := 0) rfl).part 1 rfl)) rfl rfl rfl rfl <| ?_
    obtain ⟨k6, hm⟩ := chk_some hm
    refine WL_call (f := 36) (first := []) (cap := []) (xs := [(.tmp 10)]) (vs := [(.int .i64 e.n)]) (args := [(.int .i64 e.n)]) Tryd.call36 Opd.f (.cons (Opd.t rfl) .nil) rfl rfl (itoa_ok hs (i := 4) rfl k6) ?_
    rintro _ w7 ⟨rfl, hs⟩
    refine WL_op (Run_assign (Opd.t rfl)) rfl rfl rfl rfl <| ?_
    refine WL_nil ?_
    refine At_then ?_
    refine WC_ret ?_
    refine At_blk_ret <| At_then_ret <| ?_
    refine At_r1 rfl (ResIs.t rfl) ?_
    cases hm
    exact ⟨rfl, (hs.re 5 [] rfl)⟩
  ·
    replace hm := bif_f hc5 hm
    refine WC_seq ?_
    refine WC_region ?_
    refine WL_op (Run_fieldAddr fo24_0 (Opd.t rfl)) rfl rfl rfl rfl <| WL_op (Run_load1 (v := (.int .i64 e.op)) Tryd.underlying3 rfl (Opd.t rfl) (fun _ => (hs.box (i := 0) rfl).part 0 rfl)) rfl rfl rfl rfl <| WL_op (Run_eqI (Opd.t rfl) Opd.c) rfl rfl rfl rfl <| WL_op (Run_assign (Opd.t rfl)) rfl rfl rfl rfl <| ?_
    refine WL_nil ?_
    refine At_then ?_
    refine WC_cond (Opd.t rfl) (fun hc8 => ?_) (fun hc8 => ?_)
    ·
      replace hm := bif_t hc8 hm
      refine WC_seq ?_
      refine WC_region ?_
      refine WL_op (Run_move (Opd.t rfl)) rfl rfl rfl rfl <| WL_op (Run_fieldAddr fo24_1 (Opd.t rfl)) rfl rfl rfl rfl <| WL_op (Run_load1 (v := (.int .i64 e.n)) Tryd.underlying3 rfl (Opd.t rfl) (fun _ => (hs.box (i := 0) rfl).part 1 rfl)) rfl rfl rfl rfl <| ?_
      obtain ⟨e9, he10, hm⟩ := bind_some' hm
      refine WL_op (Run_idxAddr (p := (elA (sl v3) e.n 1)) Tryd.underlying40 ti9 (Opd.t rfl) (Opd.t rfl) (fun hg => (SRd.atA (A := RS) (v := (sl v3)) (hs.sl (i := 2) rfl) he10).1)) rfl rfl rfl rfl <| WL_op (Run_load1 (v := (S e9)) Tryd.underlying9 rfl (Opd.t rfl) (fun hg => (SRd.cellsF (A := RS) (v := (sl v3)) (hs.sl (i := 2) rfl) he10 (fun _ h => openT9 h)).sub 0 rfl)) rfl rfl rfl rfl <| WL_op (Run_assign (Opd.t rfl)) rfl rfl rfl rfl <| ?_
      refine WL_nil ?_
      refine At_then ?_
      refine WC_ret ?_
      refine At_blk_ret <| At_then_ret <| ?_
      refine At_r1 rfl (ResIs.t rfl) ?_
      cases hm
      exact ⟨rfl, (hs.re 5 [] rfl)⟩
    ·
      replace hm := bif_f hc8 hm
      refine WC_seq ?_
      refine WC_region ?_
      refine WL_op (Run_fieldAddr fo24_3 (Opd.t rfl)) rfl rfl rfl rfl <| WL_op (Run_load1 (v := (sl v1)) Tryd.underlying22 rfl (Opd.t rfl) (fun _ => (hs.box (i := 0) rfl).part 3 rfl)) rfl rfl rfl rfl <| WL_op (Run_lenSlG Tryd.underlying22 (Opd.t rfl) (fun hg => (hs.sl (i := 1) rfl).len)) rfl rfl rfl rfl <| WL_op (Run_eqI (Opd.t rfl) Opd.c) rfl rfl rfl rfl <| WL_op (Run_assign (Opd.t rfl)) rfl rfl rfl rfl <| ?_
      refine WL_nil ?_
      refine At_then ?_
      refine WC_cond (Opd.t rfl) (fun hc11 => ?_) (fun hc11 => ?_)
      ·
        replace hm := bif_t hc11 hm
        refine WC_seq ?_
        refine WC_region ?_
        refine WL_op (Run_fieldAddr fo24_0 (Opd.t rfl)) rfl rfl rfl rfl <| WL_op (Run_load1 (v := (.int .i64 e.op)) Tryd.underlying3 rfl (Opd.t rfl) (fun _ => (hs.box (i := 0) rfl).part 0 rfl)) rfl rfl rfl rfl <| ?_
        obtain ⟨e12, he13, hm⟩ := bind_some' hm
        refine WL_op (Run_arrIdx Tryd.underlying65 ti9 Opd.gl (Opd.t rfl) (fun hg => idx_inB (n := 25) he13 rfl)) rfl rfl rfl rfl <| WL_op (Run_load1 (v := (S e12)) Tryd.underlying9 rfl (Opd.t rfl) (fun hg => (gl_at (A := RS) (M := fun _ => False) (hs.gl (i := 3) rfl).2 (ARd_strs _) he13 (fun _ h => openT9 h)).sub 0 rfl)) rfl rfl rfl rfl <| WL_op (Run_assign (Opd.t rfl)) rfl rfl rfl rfl <| ?_
        refine WL_nil ?_
        refine At_then ?_
        refine WC_ret ?_
        refine At_blk_ret <| At_then_ret <| ?_
        refine At_r1 rfl (ResIs.t rfl) ?_
        cases hm
        exact ⟨rfl, (hs.re 5 [] rfl)⟩
      ·
        replace hm := bif_f hc11 hm
        refine WC_seq ?_
        refine WC_region ?_
        refine WL_op (Run_fieldAddr fo24_3 (Opd.t rfl)) rfl rfl rfl rfl <| WL_op (Run_load1 (v := (sl v1)) Tryd.underlying22 rfl (Opd.t rfl) (fun _ => (hs.box (i := 0) rfl).part 3 rfl)) rfl rfl rfl rfl <| WL_op (Run_lenSlG Tryd.underlying22 (Opd.t rfl) (fun hg => (hs.sl (i := 1) rfl).len)) rfl rfl rfl rfl <| WL_op (Run_eqI (Opd.t rfl) Opd.c) rfl rfl rfl rfl <| WL_op (Run_assign (Opd.t rfl)) rfl rfl rfl rfl <| ?_
        refine WL_nil ?_
        refine At_then ?_
        refine WC_cond (Opd.t rfl) (fun hc14 => ?_) (fun hc14 => ?_)
        ·
          replace hm := bif_t hc14 hm
          refine WC_seq ?_
          refine WC_region_mixed [0, 1, 2, 4, 8, 16, 0, 64, 128, 256, 0, 1536, 2080, 4096, 16383] (.q 0 0 (.q 1 1 (.q 2 3 (.q 3 7 (.q 4 15 (.q 5 31 (.q 6 63 (.q 7 127 (.q 8 255 (.q 9 511 (.q 10 1023 (.l 11 2047 (.q 12 4095 (.q 13 8191 (.q 14 16383 .nil))))))))))))))) (by kernel_rfl) (by kernel_rfl) ?_
          intro w15 hx16
          replace hs := hs.ext hx16
          refine WD_pure (fun _ => (Run_fieldAddr fo24_0 (Opd.t rfl))) rfl rfl rfl rfl <| WD_op (fun w => CellsAt w ⟨b3, 0, none⟩ [(.int .i64 e.op)]) ((hs.box (i := 0) rfl).part 0 rfl) (fun _ hJ => (Run_load1 (v := (.int .i64 e.op)) Tryd.underlying3 rfl (Opd.t rfl) (fun _ => hJ))) rfl rfl rfl rfl <| ?_
          obtain ⟨e17, he18, hm⟩ := bind_some' hm
          refine WD_pure (fun _ => (Run_arrIdx Tryd.underlying65 ti9 Opd.gl (Opd.t rfl) (fun hg => idx_inB (n := 25) he18 rfl))) rfl rfl rfl rfl <| WD_op (fun w => true = true → CellsAt w ((⟨1, 0, none⟩ : Addr).add (Int.toNat e.op * 1)) [(S e17)]) (fun hg => (gl_at (A := RS) (M := fun _ => False) (hs.gl (i := 3) rfl).2 (ARd_strs _) he18 (fun _ h => openT9 h)).sub 0 rfl) (fun _ hJ => (Run_load1 (v := (S e17)) Tryd.underlying9 rfl (Opd.t rfl) hJ)) rfl rfl rfl rfl <| ?_
          obtain ⟨k19, hm⟩ := chk_some hm
          refine WD_pure (fun _ => (Run_cat Opd.c (Opd.t rfl) (fun _ => k19))) rfl rfl rfl rfl <| ?_
          obtain ⟨k20, hm⟩ := chk_some hm
          refine WD_pure (fun _ => (Run_cat (Opd.t rfl) Opd.c (fun _ => k20))) rfl rfl rfl rfl <| WD_pure (fun _ => (Run_fieldAddr fo24_3 (Opd.t rfl))) rfl rfl rfl rfl <| WD_op (fun w => CellsAt w ⟨b3, 3, none⟩ [(sl v1)]) ((hs.box (i := 0) rfl).part 3 rfl) (fun _ hJ => (Run_load1 (v := (sl v1)) Tryd.underlying22 rfl (Opd.t rfl) (fun _ => hJ))) rfl rfl rfl rfl <| ?_
          obtain ⟨e21, he22, hm⟩ := bind_some' hm
          obtain ⟨v23, hC24, hN25, hR26⟩ := cellsM24 (g := true) (fun hg => (hs.sl (i := 1) rfl)) (fun hg => he22)
          replace hs := hs.addL [elem true (elA (sl v1) 0 4) [(.int .i64 e21.op), (.int .i64 e21.n), (.int .i64 e21.at_), (sl v23)], imm (RSl RExpr) [sl v23] e21.l] rfl ⟨fun hg => ⟨hN25 hg, hC24 hg⟩, ⟨_, rfl, hR26 rfl⟩, trivial⟩
          replace hs := Sat.n7 (Γ := Φ) hs rfl
          refine WD_pure (fun _ => (Run_idxAddr (p := (elA (sl v1) 0 4)) Tryd.underlying22 ti24 (Opd.t rfl) Opd.c (fun hg => (SRd.atA (A := RExpr) (v := (sl v1)) (hs.sl (i := 3) rfl) he22).1))) rfl rfl rfl rfl <| WD_op (fun w => true = true → CellsAt w (elA (sl v1) 0 4) [(.int .i64 e21.op), (.int .i64 e21.n), (.int .i64 e21.at_), (sl v23)]) (fun hg => ((hs.elem (i := 0) rfl) hg).sub 0 rfl) (fun _ hJ => (Run_loadA (vs := [(.int .i64 e21.op), (.int .i64 e21.n), (.int .i64 e21.at_), (sl v23)]) Tryd.underlying24 rfl ti24 (Opd.t rfl) hJ rfl)) rfl rfl rfl rfl <| WD_pure (fun _ => (Run_move (Opd.t rfl))) rfl rfl rfl rfl <| ?_
          refine WD_loud (pend' := [(7, fun w => CellsAt w ⟨b3, 3, none⟩ [(sl v1)]), (3, fun w => true = true → CellsAt w ((⟨1, 0, none⟩ : Addr).add (Int.toNat e.op * 1)) [(S e17)]), (1, fun w => CellsAt w ⟨b3, 0, none⟩ [(.int .i64 e.op)])]) rfl (by kernel_rfl) ?_
          obtain ⟨r27, hr28, hm⟩ := bind_some' hm
          refine WL_call (f := 21) (first := []) (cap := []) (xs := [(.tmp 44), (.tmp 45)]) (vs := [(.agg #[(.int .i64 e21.op), (.int .i64 e21.n), (.int .i64 e21.at_), (sl v23)]), (sl v3)]) (args := [(.agg #[(.int .i64 e21.op), (.int .i64 e21.n), (.int .i64 e21.at_), (sl v23)]), (sl v3)]) Tryd.call21 Opd.f (.cons (Opd.t rfl) (.cons (Opd.t rfl) .nil)) rfl rfl (ih_expr_Show (hs.re 7 [1, 4, 5, 6, 0, 1, 2, 3, 4, 5, 6] rfl) hr28) ?_
          rintro _ w29 ⟨rfl, hs⟩
          replace hs := Sat.n7 (Γ := Φ) hs rfl
          refine WL_nil ?_
          refine At_QK (allJ_cons ((hs.box (i := 2) rfl).part 3 rfl) (allJ_cons (fun hg => (gl_at (A := RS) (M := fun _ => False) (hs.gl (i := 5) rfl).2 (ARd_strs _) he18 (fun _ h => openT9 h)).sub 0 rfl) (allJ_cons ((hs.box (i := 2) rfl).part 0 rfl) allJ_nil))) ?_
          obtain ⟨k30, hm⟩ := chk_some hm
          refine WD_pure (fun _ => (Run_cat (Opd.t rfl) (Opd.t rfl) (fun _ => k30))) rfl rfl rfl rfl <| ?_
          obtain ⟨k31, hm⟩ := chk_some hm
          refine WD_pure (fun _ => (Run_cat (Opd.t rfl) Opd.c (fun _ => k31))) rfl rfl rfl rfl <| WD_pure (fun _ => (Run_assign (Opd.t rfl))) rfl rfl rfl rfl <| ?_
          refine WD_nil ?_
          refine At_then ?_
          refine WC_ret ?_
          refine At_blk_ret <| At_then_ret <| ?_
          refine At_r1 rfl (ResIs.t rfl) ?_
          cases hm
          exact ⟨rfl, (hs.re 7 [] rfl)⟩
        ·
          replace hm := bif_f hc14 hm
          refine WC_skip ?_
          refine At_blk_normal ?_
          refine At_then ?_
          refine WC_seq ?_
          refine WC_region_mixed [0, 1, 2, 4, 0, 24, 32, 64, 0, 256, 512, 1024, 2176, 4096, 0, 16384, 32768, 65536, 0, 393248, 532480, 1048576, 4194303] (.q 0 0 (.q 1 1 (.q 2 3 (.q 3 7 (.q 4 15 (.q 8 31 (.q 9 287 (.q 10 799 (.q 11 1823 (.q 14 3871 (.q 15 20255 (.q 16 53023 (.q 17 118559 (.q 18 249631 (.l 5 511775 (.q 6 511807 (.q 7 511871 (.q 12 511999 (.q 13 516095 (.l 19 524287 (.q 20 1048575 (.q 21 2097151 (.q 22 4194303 .nil))))))))))))))))))))))) (by kernel_rfl) (by kernel_rfl) ?_
          intro w32 hx33
          replace hs := hs.ext hx33
          refine WD_pure (fun _ => (Run_fieldAddr fo24_3 (Opd.t rfl))) rfl rfl rfl rfl <| WD_op (fun w => CellsAt w ⟨b3, 3, none⟩ [(sl v1)]) ((hs.box (i := 0) rfl).part 3 rfl) (fun _ hJ => (Run_load1 (v := (sl v1)) Tryd.underlying22 rfl (Opd.t rfl) (fun _ => hJ))) rfl rfl rfl rfl <| ?_
          obtain ⟨e34, he35, hm⟩ := bind_some' hm
          obtain ⟨v36, hC37, hN38, hR39⟩ := cellsM24 (g := true) (fun hg => (hs.sl (i := 1) rfl)) (fun hg => he35)
          replace hs := hs.addL [elem true (elA (sl v1) 0 4) [(.int .i64 e34.op), (.int .i64 e34.n), (.int .i64 e34.at_), (sl v36)], imm (RSl RExpr) [sl v36] e34.l] rfl ⟨fun hg => ⟨hN38 hg, hC37 hg⟩, ⟨_, rfl, hR39 rfl⟩, trivial⟩
          replace hs := Sat.n7 (Γ := Φ) hs rfl
          refine WD_pure (fun _ => (Run_idxAddr (p := (elA (sl v1) 0 4)) Tryd.underlying22 ti24 (Opd.t rfl) Opd.c (fun hg => (SRd.atA (A := RExpr) (v := (sl v1)) (hs.sl (i := 3) rfl) he35).1))) rfl rfl rfl rfl <| WD_op (fun w => true = true → CellsAt w (elA (sl v1) 0 4) [(.int .i64 e34.op), (.int .i64 e34.n), (.int .i64 e34.at_), (sl v36)]) (fun hg => ((hs.elem (i := 0) rfl) hg).sub 0 rfl) (fun _ hJ => (Run_loadA (vs := [(.int .i64 e34.op), (.int .i64 e34.n), (.int .i64 e34.at_), (sl v36)]) Tryd.underlying24 rfl ti24 (Opd.t rfl) hJ rfl)) rfl rfl rfl rfl <| WD_pure (fun _ => (Run_move (Opd.t rfl))) rfl rfl rfl rfl <| WD_pure (fun _ => (Run_fieldAddr fo24_0 (Opd.t rfl))) rfl rfl rfl rfl <| WD_op (fun w => CellsAt w ⟨b3, 0, none⟩ [(.int .i64 e.op)]) ((hs.box (i := 2) rfl).part 0 rfl) (fun _ hJ => (Run_load1 (v := (.int .i64 e.op)) Tryd.underlying3 rfl (Opd.t rfl) (fun _ => hJ))) rfl rfl rfl rfl <| ?_
          obtain ⟨e40, he41, hm⟩ := bind_some' hm
          refine WD_pure (fun _ => (Run_arrIdx Tryd.underlying65 ti9 Opd.gl (Opd.t rfl) (fun hg => idx_inB (n := 25) he41 rfl))) rfl rfl rfl rfl <| WD_op (fun w => true = true → CellsAt w ((⟨1, 0, none⟩ : Addr).add (Int.toNat e.op * 1)) [(S e40)]) (fun hg => (gl_at (A := RS) (M := fun _ => False) (hs.gl (i := 5) rfl).2 (ARd_strs _) he41 (fun _ h => openT9 h)).sub 0 rfl) (fun _ hJ => (Run_load1 (v := (S e40)) Tryd.underlying9 rfl (Opd.t rfl) hJ)) rfl rfl rfl rfl <| WD_pure (fun _ => (Run_fieldAddr fo24_3 (Opd.t rfl))) rfl rfl rfl rfl <| WD_op (fun w => CellsAt w ⟨b3, 3, none⟩ [(sl v1)]) ((hs.box (i := 2) rfl).part 3 rfl) (fun _ hJ => (Run_load1 (v := (sl v1)) Tryd.underlying22 rfl (Opd.t rfl) (fun _ => hJ))) rfl rfl rfl rfl <| ?_
          obtain ⟨e42, he43, hm⟩ := bind_some' hm
          obtain ⟨v44, hC45, hN46, hR47⟩ := cellsM24 (g := true) (fun hg => (hs.sl (i := 3) rfl)) (fun hg => he43)
          replace hs := hs.addL [elem true (elA (sl v1) 1 4) [(.int .i64 e42.op), (.int .i64 e42.n), (.int .i64 e42.at_), (sl v44)], imm (RSl RExpr) [sl v44] e42.l] rfl ⟨fun hg => ⟨hN46 hg, hC45 hg⟩, ⟨_, rfl, hR47 rfl⟩, trivial⟩
          replace hs := Sat.n9 (Γ := Φ) hs rfl
          refine WD_pure (fun _ => (Run_idxAddr (p := (elA (sl v1) 1 4)) Tryd.underlying22 ti24 (Opd.t rfl) Opd.c (fun hg => (SRd.atA (A := RExpr) (v := (sl v1)) (hs.sl (i := 5) rfl) he43).1))) rfl rfl rfl rfl <| WD_op (fun w => true = true → CellsAt w (elA (sl v1) 1 4) [(.int .i64 e42.op), (.int .i64 e42.n), (.int .i64 e42.at_), (sl v44)]) (fun hg => ((hs.elem (i := 0) rfl) hg).sub 0 rfl) (fun _ hJ => (Run_loadA (vs := [(.int .i64 e42.op), (.int .i64 e42.n), (.int .i64 e42.at_), (sl v44)]) Tryd.underlying24 rfl ti24 (Opd.t rfl) hJ rfl)) rfl rfl rfl rfl <| WD_pure (fun _ => (Run_move (Opd.t rfl))) rfl rfl rfl rfl <| ?_
          refine WD_loud (pend' := [(17, fun w => true = true → CellsAt w (elA (sl v1) 1 4) [(.int .i64 e42.op), (.int .i64 e42.n), (.int .i64 e42.at_), (sl v44)]), (15, fun w => CellsAt w ⟨b3, 3, none⟩ [(sl v1)]), (11, fun w => true = true → CellsAt w ((⟨1, 0, none⟩ : Addr).add (Int.toNat e.op * 1)) [(S e40)]), (9, fun w => CellsAt w ⟨b3, 0, none⟩ [(.int .i64 e.op)]), (1, fun w => CellsAt w ⟨b3, 3, none⟩ [(sl v1)])]) rfl (by kernel_rfl) ?_
          obtain ⟨r48, hr49, hm⟩ := bind_some' hm
          refine WL_call (f := 21) (first := []) (cap := []) (xs := [(.tmp 52), (.tmp 53)]) (vs := [(.agg #[(.int .i64 e34.op), (.int .i64 e34.n), (.int .i64 e34.at_), (sl v36)]), (sl v3)]) (args := [(.agg #[(.int .i64 e34.op), (.int .i64 e34.n), (.int .i64 e34.at_), (sl v36)]), (sl v3)]) Tryd.call21 Opd.f (.cons (Opd.t rfl) (.cons (Opd.t rfl) .nil)) rfl rfl (ih_expr_Show (hs.re 9 [3, 6, 7, 8, 0, 1, 2, 3, 4, 5, 6, 7, 8] rfl) hr49) ?_
          rintro _ w50 ⟨rfl, hs⟩
          replace hs := Sat.n9 (Γ := Φ) hs rfl
          refine WL_nil ?_
          refine At_QK (allJ_cons (fun hg => ((hs.elem (i := 0) rfl) hg).sub 0 rfl) (allJ_cons ((hs.box (i := 4) rfl).part 3 rfl) (allJ_cons (fun hg => (gl_at (A := RS) (M := fun _ => False) (hs.gl (i := 7) rfl).2 (ARd_strs _) he41 (fun _ h => openT9 h)).sub 0 rfl) (allJ_cons ((hs.box (i := 4) rfl).part 0 rfl) (allJ_cons ((hs.box (i := 4) rfl).part 3 rfl) allJ_nil))))) ?_
          obtain ⟨k51, hm⟩ := chk_some hm
          refine WD_pure (fun _ => (Run_cat Opd.c (Opd.t rfl) (fun _ => k51))) rfl rfl rfl rfl <| ?_
          obtain ⟨k52, hm⟩ := chk_some hm
          refine WD_pure (fun _ => (Run_cat (Opd.t rfl) Opd.c (fun _ => k52))) rfl rfl rfl rfl <| ?_
          obtain ⟨k53, hm⟩ := chk_some hm
          refine WD_pure (fun _ => (Run_cat (Opd.t rfl) (Opd.t rfl) (fun _ => k53))) rfl rfl rfl rfl <| ?_
          obtain ⟨k54, hm⟩ := chk_some hm
          refine WD_pure (fun _ => (Run_cat (Opd.t rfl) Opd.c (fun _ => k54))) rfl rfl rfl rfl <| ?_
          refine WD_loud (pend' := [(15, fun w => CellsAt w ⟨b3, 3, none⟩ [(sl v1)]), (11, fun w => true = true → CellsAt w ((⟨1, 0, none⟩ : Addr).add (Int.toNat e.op * 1)) [(S e40)]), (9, fun w => CellsAt w ⟨b3, 0, none⟩ [(.int .i64 e.op)]), (1, fun w => CellsAt w ⟨b3, 3, none⟩ [(sl v1)])]) rfl (by kernel_rfl) ?_
          obtain ⟨r55, hr56, hm⟩ := bind_some' hm
          refine WL_call (f := 21) (first := []) (cap := []) (xs := [(.tmp 66), (.tmp 67)]) (vs := [(.agg #[(.int .i64 e42.op), (.int .i64 e42.n), (.int .i64 e42.at_), (sl v44)]), (sl v3)]) (args := [(.agg #[(.int .i64 e42.op), (.int .i64 e42.n), (.int .i64 e42.at_), (sl v44)]), (sl v3)]) Tryd.call21 Opd.f (.cons (Opd.t rfl) (.cons (Opd.t rfl) .nil)) rfl rfl (ih_expr_Show (hs.re 9 [1, 6, 7, 8, 0, 1, 2, 3, 4, 5, 6, 7, 8] rfl) hr56) ?_
          rintro _ w57 ⟨rfl, hs⟩
          replace hs := Sat.n9 (Γ := Φ) hs rfl
          refine WL_nil ?_
          refine At_QK (allJ_cons ((hs.box (i := 4) rfl).part 3 rfl) (allJ_cons (fun hg => (gl_at (A := RS) (M := fun _ => False) (hs.gl (i := 7) rfl).2 (ARd_strs _) he41 (fun _ h => openT9 h)).sub 0 rfl) (allJ_cons ((hs.box (i := 4) rfl).part 0 rfl) (allJ_cons ((hs.box (i := 4) rfl).part 3 rfl) allJ_nil)))) ?_
          obtain ⟨k58, hm⟩ := chk_some hm
          refine WD_pure (fun _ => (Run_cat (Opd.t rfl) (Opd.t rfl) (fun _ => k58))) rfl rfl rfl rfl <| ?_
          obtain ⟨k59, hm⟩ := chk_some hm
          refine WD_pure (fun _ => (Run_cat (Opd.t rfl) Opd.c (fun _ => k59))) rfl rfl rfl rfl <| WD_pure (fun _ => (Run_assign (Opd.t rfl))) rfl rfl rfl rfl <| ?_
          refine WD_nil ?_
          refine At_then ?_
          refine WC_ret ?_
          refine At_r1 rfl (ResIs.t rfl) ?_
          cases hm
          exact ⟨rfl, (hs.re 9 [] rfl)⟩

set_option maxRecDepth 100000 in
set_option maxHeartbeats 4000000 in
theorem expr_Show_ok {Φ : Ctx} {w : World} {e : Ex} {names : (List Str)} {v1 : SLV} {v3 : SLV} {r : Str} (hs : Sat (imm (RSl RExpr) [sl v1] e.l :: imm (RSl RS) [sl v3] names :: gl 1 (textsL.map S) :: gl 2 (pow10L.map (Value.int .u64)) :: Φ) w) (hm : expr_Show e names = some r) :
    CallsR Tryd.prog 21 [(.agg #[(.int .i64 e.op), (.int .i64 e.n), (.int .i64 e.at_), (sl v1)]), (sl v3)] w (fun v w' => v = (S r) ∧ Sat (Φ) w') := by
  have key : ∀ (N : Nat) {Φ : Ctx} {w : World} {e : Ex} {names : (List Str)} {v1 : SLV} {v3 : SLV} {r : Str}, Sat (imm (RSl RExpr) [sl v1] e.l :: imm (RSl RS) [sl v3] names :: gl 1 (textsL.map S) :: gl 2 (pow10L.map (Value.int .u64)) :: Φ) w → fixN (fun k (s : (Ex × (List Str))) => expr_Show_F k s.1 s.2) N (e, names) = some r → CallsR Tryd.prog 21 [(.agg #[(.int .i64 e.op), (.int .i64 e.n), (.int .i64 e.at_), (sl v1)]), (sl v3)] w (fun v w' => v = (S r) ∧ Sat (Φ) w') := by
    intro N
    induction N with
    | zero => intros; rename_i h; cases h
    | succ N ih => intros; rename_i hs hm; rw [fixN_succ] at hm; exact expr_Show_F_ok (@ih) hs hm
  unfold expr_Show at hm
  exact key FUEL hs hm

set_option maxRecDepth 100000 in
set_option maxHeartbeats 4000000 in
theorem expr_Size_F_ok {k_expr_Size : Ex → Option Int} (ih_expr_Size : ∀ {Φ : Ctx} {w : World} {e : Ex} {v1 : SLV} {r : Int}, Sat (imm (RSl RExpr) [sl v1] e.l :: Φ) w → k_expr_Size e = some r → CallsR Tryd.prog 16 [(.agg #[(.int .i64 e.op), (.int .i64 e.n), (.int .i64 e.at_), (sl v1)])] w (fun v w' => v = (.int .i64 r) ∧ Sat (Φ) w')) {Φ : Ctx} {w : World} {e : Ex} {v1 : SLV} {r : Int} (hs : Sat (imm (RSl RExpr) [sl v1] e.l :: Φ) w) (hm : expr_Size_F k_expr_Size e = some r) :
    CallsR Tryd.prog 16 [(.agg #[(.int .i64 e.op), (.int .i64 e.n), (.int .i64 e.at_), (sl v1)])] w (fun v w' => v = (.int .i64 r) ∧ Sat (Φ) w') := by
  refine CallsX_enter Tryd.func16 rfl Tryd.ntmps16 rfl ?_
  unfold expr_Size_F at hm
  refine WC_seq ?_
  refine WC_region ?_
  refine WS_box (zs := [(.int .i64 e.op), (.int .i64 e.n), (.int .i64 e.at_), (sl v1)]) hs (Opd.t rfl) rfl rfl ?_
  intro b3 w4 hs
  replace hs := Sat.n2 (Γ := Φ) hs rfl
  refine WL_op (Run_assign Opd.c) rfl rfl rfl rfl <| ?_
  refine WL_nil ?_
  refine At_then ?_
  refine WC_seq ?_
  refine WC_region ?_
  refine WL_op (Run_assign Opd.c) rfl rfl rfl rfl <| ?_
  refine WL_nil ?_
  refine At_then ?_
  refine WC_seq ?_
  refine WC_seq ?_
  refine WC_region ?_
  refine WL_op (Run_fieldAddr fo24_3 (Opd.t rfl)) rfl rfl rfl rfl <| WL_op (Run_load1 (v := (sl v1)) Tryd.underlying22 rfl (Opd.t rfl) (fun _ => (hs.box (i := 0) rfl).part 3 rfl)) rfl rfl rfl rfl <| WL_op (Run_lenSlG Tryd.underlying22 (Opd.t rfl) (fun hg => (hs.sl (i := 1) rfl).len)) rfl rfl rfl rfl <| WL_op (Run_move Opd.c) rfl rfl rfl rfl <| ?_
  refine WL_nil ?_
  refine At_then ?_
  refine WC_block ?_
  refine WC_loop (σ := Int × Int) (γ := Unit) (F := (expr_Size_L1 k_expr_Size e)) (N := FUEL) (s0 := (1, 0)) (r := r) (fun ⟨n6, t7⟩ (_ : Unit) w5 => Sat (imm (RSl RExpr) [sl v1] e.l :: Φ) w5) (fun ⟨n6, t7⟩ (_ : Unit) => [(3, true, (.int .i64 n6)), (7, true, (sl v1)), (8, true, (.int .i64 (List.length e.l : Int))), (9, true, (.int .i64 t7))]) hm () (hs.re 2 [1] rfl) rfl ?_
  rintro again8 ⟨n6, t7⟩ _ w5 hm hs
  unfold expr_Size_L1 at hm
  dsimp only at hm
  refine WC_seq ?_
  refine WC_region ?_
  refine WL_op (Run_ltI (Opd.t rfl) (Opd.t rfl)) rfl rfl rfl rfl <| ?_
  refine WL_nil ?_
  refine At_then ?_
  refine WC_seq ?_
  refine WC_cond (Opd.t rfl) (fun hc9 => ?_) (fun hc9 => ?_)
  ·
    replace hm := bif_t hc9 hm
    refine WC_skip ?_
    refine At_then ?_
    refine WC_seq ?_
    refine WC_block ?_
    refine WC_seq ?_
    refine WC_region ?_
    obtain ⟨e10, he11, hm⟩ := bind_some' hm
    obtain ⟨v12, hC13, hN14, hR15⟩ := cellsM24 (g := true) (fun hg => (hs.sl (i := 0) rfl)) (fun hg => he11)
    replace hs := hs.addL [elem true (elA (sl v1) t7 4) [(.int .i64 e10.op), (.int .i64 e10.n), (.int .i64 e10.at_), (sl v12)], imm (RSl RExpr) [sl v12] e10.l] rfl ⟨fun hg => ⟨hN14 hg, hC13 hg⟩, ⟨_, rfl, hR15 rfl⟩, trivial⟩
    replace hs := Sat.n3 (Γ := Φ) hs rfl
    refine WL_op (Run_idxAddr (p := (elA (sl v1) t7 4)) Tryd.underlying22 ti24 (Opd.t rfl) (Opd.t rfl) (fun hg => (SRd.atA (A := RExpr) (v := (sl v1)) (hs.sl (i := 2) rfl) he11).1)) rfl rfl rfl rfl <| WL_op (Run_loadA (vs := [(.int .i64 e10.op), (.int .i64 e10.n), (.int .i64 e10.at_), (sl v12)]) Tryd.underlying24 rfl ti24 (Opd.t rfl) (fun hg => ((hs.elem (i := 0) rfl) hg).sub 0 rfl) rfl) rfl rfl rfl rfl <| ?_
    refine WS_alloc (zs := [(.int .i64 0), (.int .i64 0), (.int .i64 0), (sl (none, 0, 0))]) hs ti24 rfl rfl ?_
    intro b16 w17 hs
    replace hs := Sat.n4 (Γ := Φ) hs rfl
    refine WS_store (us := [(.int .i64 e10.op), (.int .i64 e10.n), (.int .i64 e10.at_), (sl v12)]) (vs' := [(.int .i64 e10.op), (.int .i64 e10.n), (.int .i64 e10.at_), (sl v12)]) hs 0 rfl ti24 (Opd.t rfl) (Opd.t rfl) rfl rfl rfl rfl rfl ?_
    intro w18 hs
    replace hs := Sat.n4 (Γ := Φ) hs rfl
    refine WL_nil ?_
    refine At_then ?_
    refine WC_region ?_
    refine WL_op (Run_move (Opd.t rfl)) rfl rfl rfl rfl <| WL_op (Run_loadA (vs := [(.int .i64 e10.op), (.int .i64 e10.n), (.int .i64 e10.at_), (sl v12)]) Tryd.underlying24 rfl ti24 (Opd.t rfl) (fun _ => (hs.box (i := 0) rfl).part 0 rfl) rfl) rfl rfl rfl rfl <| ?_
    obtain ⟨r19, hr20, hm⟩ := bind_some' hm
    refine WL_call (f := 16) (first := []) (cap := []) (xs := [(.tmp 14)]) (vs := [(.agg #[(.int .i64 e10.op), (.int .i64 e10.n), (.int .i64 e10.at_), (sl v12)])]) (args := [(.agg #[(.int .i64 e10.op), (.int .i64 e10.n), (.int .i64 e10.at_), (sl v12)])]) Tryd.call16 Opd.f (.cons (Opd.t rfl) .nil) rfl rfl (ih_expr_Size (hs.re 4 [2, 0, 1, 2, 3] rfl) hr20) ?_
    rintro _ w21 ⟨rfl, hs⟩
    replace hs := Sat.n4 (Γ := Φ) hs rfl
    refine WL_op (Run_add (Opd.t rfl) (Opd.t rfl)) rfl rfl rfl rfl <| WL_op (Run_assign (Opd.t rfl)) rfl rfl rfl rfl <| ?_
    refine WL_nil ?_
    refine At_blk_normal ?_
    refine At_then ?_
    refine WC_region ?_
    refine WL_op (Run_add (Opd.t rfl) Opd.c) rfl rfl rfl rfl <| WL_op (Run_move (Opd.t rfl)) rfl rfl rfl rfl <| ?_
    refine WL_nil ?_
    exact At_again ((IntKind.i64.wrap (n6 + r19)), (IntKind.i64.wrap (t7 + 1))) () hm (hs.re 4 [3] rfl) rfl
  ·
    replace hm := bif_f hc9 hm
    refine WC_exit ?_
    refine At_then_exit <| At_then_exit <| At_blk_here <| ?_
    refine At_then ?_
    refine WC_seq ?_
    refine WC_region ?_
    refine WL_op (Run_move (Opd.t rfl)) rfl rfl rfl rfl <| WL_op (Run_assign (Opd.t rfl)) rfl rfl rfl rfl <| ?_
    refine WL_nil ?_
    refine At_then ?_
    refine WC_ret ?_
    refine At_r1 rfl (ResIs.t rfl) ?_
    cases hm
    exact ⟨rfl, (hs.re 1 [] rfl)⟩

set_option maxRecDepth 100000 in
set_option maxHeartbeats 4000000 in
theorem expr_Size_ok {Φ : Ctx} {w : World} {e : Ex} {v1 : SLV} {r : Int} (hs : Sat (imm (RSl RExpr) [sl v1] e.l :: Φ) w) (hm : expr_Size e = some r) :
    CallsR Tryd.prog 16 [(.agg #[(.int .i64 e.op), (.int .i64 e.n), (.int .i64 e.at_), (sl v1)])] w (fun v w' => v = (.int .i64 r) ∧ Sat (Φ) w') := by
  have key : ∀ (N : Nat) {Φ : Ctx} {w : World} {e : Ex} {v1 : SLV} {r : Int}, Sat (imm (RSl RExpr) [sl v1] e.l :: Φ) w → fixN (fun k (s : Ex) => expr_Size_F k s) N e = some r → CallsR Tryd.prog 16 [(.agg #[(.int .i64 e.op), (.int .i64 e.n), (.int .i64 e.at_), (sl v1)])] w (fun v w' => v = (.int .i64 r) ∧ Sat (Φ) w') := by
    intro N
    induction N with
    | zero => intros; rename_i h; cases h
    | succ N ih => intros; rename_i hs hm; rw [fixN_succ] at hm; exact expr_Size_F_ok (@ih) hs hm
  unfold expr_Size at hm
  exact key FUEL hs hm

set_option maxRecDepth 100000 in
set_option maxHeartbeats 4000000 in
theorem slices_EqualFunc_api_Expr_api_Expr_api_Expr_api_Expr_ok {k_expr_Same : (Ex × Ex) → Option Bool} (ih_expr_Same : ∀ {Φ : Ctx} {w : World} {a : Ex} {b : Ex} {v1 : SLV} {v3 : SLV} {r : Bool}, Sat (imm (RSl RExpr) [sl v1] a.l :: imm (RSl RExpr) [sl v3] b.l :: Φ) w → k_expr_Same (a, b) = some r → CallsR Tryd.prog 14 [(.agg #[(.int .i64 a.op), (.int .i64 a.n), (.int .i64 a.at_), (sl v1)]), (.agg #[(.int .i64 b.op), (.int .i64 b.n), (.int .i64 b.at_), (sl v3)])] w (fun v w' => v = (.bool r) ∧ Sat (Φ) w')) {Φ : Ctx} {w : World} {s1 : (List Ex)} {s2 : (List Ex)} {v1 : SLV} {v3 : SLV} {r : Bool} (hs : Sat (imm (RSl RExpr) [sl v1] s1 :: imm (RSl RExpr) [sl v3] s2 :: Φ) w) (hm : slices_EqualFunc_api_Expr_api_Expr_api_Expr_api_Expr k_expr_Same s1 s2 = some r) :
    CallsR Tryd.prog 35 [(sl v1), (sl v3), (.func (.func 14) #[] #[])] w (fun v w' => v = (.bool r) ∧ Sat (Φ) w') := by
  refine CallsX_enter Tryd.func35 rfl Tryd.ntmps35 rfl ?_
  unfold slices_EqualFunc_api_Expr_api_Expr_api_Expr_api_Expr at hm
  refine WC_seq ?_
  refine WC_region ?_
  refine WL_op (Run_assign Opd.c) rfl rfl rfl rfl <| ?_
  refine WL_nil ?_
  refine At_then ?_
  refine WC_seq ?_
  refine WC_seq ?_
  refine WC_region ?_
  refine WL_op (Run_move (Opd.t rfl)) rfl rfl rfl rfl <| WL_op (Run_lenSlG Tryd.underlying22 (Opd.t rfl) (fun hg => (hs.sl (i := 0) rfl).len)) rfl rfl rfl rfl <| WL_op (Run_move (Opd.t rfl)) rfl rfl rfl rfl <| WL_op (Run_lenSlG Tryd.underlying22 (Opd.t rfl) (fun hg => (hs.sl (i := 1) rfl).len)) rfl rfl rfl rfl <| WL_op (Run_neI (Opd.t rfl) (Opd.t rfl)) rfl rfl rfl rfl <| ?_
  refine WL_nil ?_
  refine At_then ?_
  refine WC_cond (Opd.t rfl) (fun hc3 => ?_) (fun hc3 => ?_)
  ·
    replace hm := bif_t hc3 hm
    refine WC_seq ?_
    refine WC_region ?_
    refine WL_op (Run_assign Opd.c) rfl rfl rfl rfl <| ?_
    refine WL_nil ?_
    refine At_then ?_
    refine WC_ret ?_
    refine At_then_ret <| ?_
    refine At_r1 rfl (ResIs.t rfl) ?_
    cases hm
    exact ⟨rfl, (hs.re 2 [] rfl)⟩
  ·
    replace hm := bif_f hc3 hm
    refine WC_skip ?_
    refine At_then ?_
    refine WC_seq ?_
    refine WC_seq ?_
    refine WC_region ?_
    refine WL_op (Run_move (Opd.t rfl)) rfl rfl rfl rfl <| WL_op (Run_lenSlG Tryd.underlying22 (Opd.t rfl) (fun hg => (hs.sl (i := 0) rfl).len)) rfl rfl rfl rfl <| WL_op (Run_move Opd.c) rfl rfl rfl rfl <| ?_
    refine WL_nil ?_
    refine At_then ?_
    refine WC_block ?_
    refine WC_loop (σ := Int) (γ := Unit) (F := (slices_EqualFunc_api_Expr_api_Expr_api_Expr_api_Expr_L1 k_expr_Same s1 s2)) (N := FUEL) (s0 := 0) (r := r) (fun t5 (_ : Unit) w4 => Sat (imm (RSl RExpr) [sl v3] s2 :: imm (RSl RExpr) [sl v1] s1 :: Φ) w4) (fun t5 (_ : Unit) => [(1, true, (sl v3)), (2, true, (.func (.func 14) #[] #[])), (15, true, (sl v1)), (16, true, (.int .i64 (List.length s1 : Int))), (17, true, (.int .i64 t5))]) hm () (hs.re 2 [1, 0] rfl) rfl ?_
    rintro again6 t5 _ w4 hm hs
    unfold slices_EqualFunc_api_Expr_api_Expr_api_Expr_api_Expr_L1 at hm
    refine WC_seq ?_
    refine WC_region ?_
    refine WL_op (Run_ltI (Opd.t rfl) (Opd.t rfl)) rfl rfl rfl rfl <| ?_
    refine WL_nil ?_
    refine At_then ?_
    refine WC_seq ?_
    refine WC_cond (Opd.t rfl) (fun hc7 => ?_) (fun hc7 => ?_)
    ·
      replace hm := bif_t hc7 hm
      refine WC_skip ?_
      refine At_then ?_
      refine WC_seq ?_
      refine WC_block ?_
      refine WC_seq ?_
      refine WC_region ?_
      refine WL_op (Run_move (Opd.t rfl)) rfl rfl rfl rfl <| ?_
      obtain ⟨e8, he9, hm⟩ := bind_some' hm
      obtain ⟨v10, hC11, hN12, hR13⟩ := cellsM24 (g := true) (fun hg => (hs.sl (i := 1) rfl)) (fun hg => he9)
      replace hs := hs.addL [elem true (elA (sl v1) t5 4) [(.int .i64 e8.op), (.int .i64 e8.n), (.int .i64 e8.at_), (sl v10)], imm (RSl RExpr) [sl v10] e8.l] rfl ⟨fun hg => ⟨hN12 hg, hC11 hg⟩, ⟨_, rfl, hR13 rfl⟩, trivial⟩
      replace hs := Sat.n4 (Γ := Φ) hs rfl
      refine WL_op (Run_idxAddr (p := (elA (sl v1) t5 4)) Tryd.underlying22 ti24 (Opd.t rfl) (Opd.t rfl) (fun hg => (SRd.atA (A := RExpr) (v := (sl v1)) (hs.sl (i := 3) rfl) he9).1)) rfl rfl rfl rfl <| WL_op (Run_loadA (vs := [(.int .i64 e8.op), (.int .i64 e8.n), (.int .i64 e8.at_), (sl v10)]) Tryd.underlying24 rfl ti24 (Opd.t rfl) (fun hg => ((hs.elem (i := 0) rfl) hg).sub 0 rfl) rfl) rfl rfl rfl rfl <| ?_
      refine WS_alloc (zs := [(.int .i64 0), (.int .i64 0), (.int .i64 0), (sl (none, 0, 0))]) hs ti24 rfl rfl ?_
      intro b14 w15 hs
      replace hs := Sat.n5 (Γ := Φ) hs rfl
      refine WL_op (Run_assign (Opd.t rfl)) rfl rfl rfl rfl <| ?_
      refine WS_store (us := [(.int .i64 e8.op), (.int .i64 e8.n), (.int .i64 e8.at_), (sl v10)]) (vs' := [(.int .i64 e8.op), (.int .i64 e8.n), (.int .i64 e8.at_), (sl v10)]) hs 0 rfl ti24 (Opd.t rfl) (Opd.t rfl) rfl rfl rfl rfl rfl ?_
      intro w16 hs
      replace hs := Sat.n5 (Γ := Φ) hs rfl
      refine WL_nil ?_
      refine At_then ?_
      refine WC_seq ?_
      refine WC_region ?_
      refine WL_op (Run_move (Opd.t rfl)) rfl rfl rfl rfl <| WL_op (Run_move (Opd.t rfl)) rfl rfl rfl rfl <| ?_
      obtain ⟨e17, he18, hm⟩ := bind_some' hm
      obtain ⟨v19, hC20, hN21, hR22⟩ := cellsM24 (g := true) (fun hg => (hs.sl (i := 3) rfl)) (fun hg => he18)
      replace hs := hs.addL [elem true (elA (sl v3) t5 4) [(.int .i64 e17.op), (.int .i64 e17.n), (.int .i64 e17.at_), (sl v19)], imm (RSl RExpr) [sl v19] e17.l] rfl ⟨fun hg => ⟨hN21 hg, hC20 hg⟩, ⟨_, rfl, hR22 rfl⟩, trivial⟩
      replace hs := Sat.n7 (Γ := Φ) hs rfl
      refine WL_op (Run_idxAddr (p := (elA (sl v3) t5 4)) Tryd.underlying22 ti24 (Opd.t rfl) (Opd.t rfl) (fun hg => (SRd.atA (A := RExpr) (v := (sl v3)) (hs.sl (i := 5) rfl) he18).1)) rfl rfl rfl rfl <| WL_op (Run_loadA (vs := [(.int .i64 e17.op), (.int .i64 e17.n), (.int .i64 e17.at_), (sl v19)]) Tryd.underlying24 rfl ti24 (Opd.t rfl) (fun hg => ((hs.elem (i := 0) rfl) hg).sub 0 rfl) rfl) rfl rfl rfl rfl <| ?_
      refine WS_alloc (zs := [(.int .i64 0), (.int .i64 0), (.int .i64 0), (sl (none, 0, 0))]) hs ti24 rfl rfl ?_
      intro b23 w24 hs
      replace hs := Sat.n8 (Γ := Φ) hs rfl
      refine WS_store (us := [(.int .i64 e17.op), (.int .i64 e17.n), (.int .i64 e17.at_), (sl v19)]) (vs' := [(.int .i64 e17.op), (.int .i64 e17.n), (.int .i64 e17.at_), (sl v19)]) hs 0 rfl ti24 (Opd.t rfl) (Opd.t rfl) rfl rfl rfl rfl rfl ?_
      intro w25 hs
      replace hs := Sat.n8 (Γ := Φ) hs rfl
      refine WL_nil ?_
      refine At_then ?_
      refine WC_seq ?_
      refine WC_region ?_
      refine WL_op (Run_move (Opd.t rfl)) rfl rfl rfl rfl <| WL_op (Run_loadA (vs := [(.int .i64 e8.op), (.int .i64 e8.n), (.int .i64 e8.at_), (sl v10)]) Tryd.underlying24 rfl ti24 (Opd.t rfl) (fun _ => (hs.box (i := 3) rfl).part 0 rfl) rfl) rfl rfl rfl rfl <| WL_op (Run_loadA (vs := [(.int .i64 e17.op), (.int .i64 e17.n), (.int .i64 e17.at_), (sl v19)]) Tryd.underlying24 rfl ti24 (Opd.t rfl) (fun _ => (hs.box (i := 0) rfl).part 0 rfl) rfl) rfl rfl rfl rfl <| ?_
      obtain ⟨r26, hr27, hm⟩ := bind_some' hm
      refine WL_call (f := 14) (first := []) (cap := []) (xs := [(.tmp 27), (.tmp 28)]) (vs := [(.agg #[(.int .i64 e8.op), (.int .i64 e8.n), (.int .i64 e8.at_), (sl v10)]), (.agg #[(.int .i64 e17.op), (.int .i64 e17.n), (.int .i64 e17.at_), (sl v19)])]) (args := [(.agg #[(.int .i64 e8.op), (.int .i64 e8.n), (.int .i64 e8.at_), (sl v10)]), (.agg #[(.int .i64 e17.op), (.int .i64 e17.n), (.int .i64 e17.at_), (sl v19)])]) Tryd.call14 (Opd.t rfl) (.cons (Opd.t rfl) (.cons (Opd.t rfl) .nil)) rfl rfl (ih_expr_Same (hs.re 8 [5, 2, 0, 1, 2, 3, 4, 5, 6, 7] rfl) hr27) ?_
      rintro _ w28 ⟨rfl, hs⟩
      replace hs := Sat.n8 (Γ := Φ) hs rfl
      refine WL_op (Run_notB (Opd.t rfl)) rfl rfl rfl rfl <| ?_
      refine WL_nil ?_
      refine At_then ?_
      refine WC_cond (Opd.t rfl) (fun hc29 => ?_) (fun hc29 => ?_)
      ·
        replace hm := bif_t hc29 hm
        refine WC_seq ?_
        refine WC_region ?_
        refine WL_op (Run_assign Opd.c) rfl rfl rfl rfl <| ?_
        refine WL_nil ?_
        refine At_then ?_
        refine WC_ret ?_
        refine At_blk_ret <| At_then_ret <| At_then_ret <| At_blk_ret <| At_then_ret <| ?_
        refine At_r1 rfl (ResIs.t rfl) ?_
        cases hm
        exact ⟨rfl, (hs.re 8 [] rfl)⟩
      ·
        replace hm := bif_f hc29 hm
        refine WC_skip ?_
        refine At_blk_normal ?_
        refine At_then ?_
        refine WC_region ?_
        refine WL_op (Run_add (Opd.t rfl) Opd.c) rfl rfl rfl rfl <| WL_op (Run_move (Opd.t rfl)) rfl rfl rfl rfl <| ?_
        refine WL_nil ?_
        exact At_again (IntKind.i64.wrap (t5 + 1)) () hm (hs.re 8 [6, 7] rfl) rfl
    ·
      replace hm := bif_f hc7 hm
      refine WC_exit ?_
      refine At_then_exit <| At_then_exit <| At_blk_here <| ?_
      refine At_then ?_
      refine WC_seq ?_
      refine WC_region ?_
      refine WL_op (Run_assign Opd.c) rfl rfl rfl rfl <| ?_
      refine WL_nil ?_
      refine At_then ?_
      refine WC_ret ?_
      refine At_r1 rfl (ResIs.t rfl) ?_
      cases hm
      exact ⟨rfl, (hs.re 2 [] rfl)⟩

set_option maxRecDepth 100000 in
set_option maxHeartbeats 4000000 in
theorem expr_Same_F_ok {k_expr_Same : (Ex × Ex) → Option Bool} (ih_expr_Same : ∀ {Φ : Ctx} {w : World} {a : Ex} {b : Ex} {v1 : SLV} {v3 : SLV} {r : Bool}, Sat (imm (RSl RExpr) [sl v1] a.l :: imm (RSl RExpr) [sl v3] b.l :: Φ) w → k_expr_Same (a, b) = some r → CallsR Tryd.prog 14 [(.agg #[(.int .i64 a.op), (.int .i64 a.n), (.int .i64 a.at_), (sl v1)]), (.agg #[(.int .i64 b.op), (.int .i64 b.n), (.int .i64 b.at_), (sl v3)])] w (fun v w' => v = (.bool r) ∧ Sat (Φ) w')) {Φ : Ctx} {w : World} {a : Ex} {b : Ex} {v1 : SLV} {v3 : SLV} {r : Bool} (hs : Sat (imm (RSl RExpr) [sl v1] a.l :: imm (RSl RExpr) [sl v3] b.l :: Φ) w) (hm : expr_Same_F k_expr_Same a b = some r) :
    CallsR Tryd.prog 14 [(.agg #[(.int .i64 a.op), (.int .i64 a.n), (.int .i64 a.at_), (sl v1)]), (.agg #[(.int .i64 b.op), (.int .i64 b.n), (.int .i64 b.at_), (sl v3)])] w (fun v w' => v = (.bool r) ∧ Sat (Φ) w') := by
  refine CallsX_enter Tryd.func14 rfl Tryd.ntmps14 rfl ?_
  unfold expr_Same_F at hm
  refine WC_seq ?_
  refine WC_region ?_
  refine WS_box (zs := [(.int .i64 a.op), (.int .i64 a.n), (.int .i64 a.at_), (sl v1)]) hs (Opd.t rfl) rfl rfl ?_
  intro b3 w4 hs
  replace hs := Sat.n3 (Γ := Φ) hs rfl
  refine WS_box (zs := [(.int .i64 b.op), (.int .i64 b.n), (.int .i64 b.at_), (sl v3)]) hs (Opd.t rfl) rfl rfl ?_
  intro b5 w6 hs
  replace hs := Sat.n4 (Γ := Φ) hs rfl
  refine WL_op (Run_assign Opd.c) rfl rfl rfl rfl <| ?_
  refine WL_nil ?_
  refine At_then ?_
  refine WC_seq ?_
  refine WC_region ?_
  refine WL_op (Run_fieldAddr fo24_0 (Opd.t rfl)) rfl rfl rfl rfl <| WL_op (Run_load1 (v := (.int .i64 a.op)) Tryd.underlying3 rfl (Opd.t rfl) (fun _ => (hs.box (i := 1) rfl).part 0 rfl)) rfl rfl rfl rfl <| WL_op (Run_fieldAddr fo24_0 (Opd.t rfl)) rfl rfl rfl rfl <| WL_op (Run_load1 (v := (.int .i64 b.op)) Tryd.underlying3 rfl (Opd.t rfl) (fun _ => (hs.box (i := 0) rfl).part 0 rfl)) rfl rfl rfl rfl <| ?_
  obtain ⟨b7, e8, hm⟩ := letv_some hm
  refine WL_op (Run.eqB (Run_eqI (Opd.t rfl) (Opd.t rfl)) e8) rfl rfl rfl rfl <| WL_op (Run_move (Opd.t rfl)) rfl rfl rfl rfl <| WL_opG rfl rfl rfl rfl guard_pos (Run_fieldAddr fo24_1 (Opd.t rfl)) rfl rfl rfl <| WL_opG rfl rfl rfl rfl guard_pos (Run_load1 (v := (.int .i64 a.n)) Tryd.underlying3 rfl (Opd.g rfl id) (fun _ => (hs.box (i := 1) rfl).part 1 rfl)) rfl rfl rfl <| WL_opG rfl rfl rfl rfl guard_pos (Run_fieldAddr fo24_1 (Opd.t rfl)) rfl rfl rfl <| WL_opG rfl rfl rfl rfl guard_pos (Run_load1 (v := (.int .i64 b.n)) Tryd.underlying3 rfl (Opd.g rfl id) (fun _ => (hs.box (i := 0) rfl).part 1 rfl)) rfl rfl rfl <| ?_
  obtain ⟨b9, e10, hm⟩ := letv_some hm
  refine WL_opG rfl rfl rfl rfl guard_pos (Run.eqB (Run_eqI (Opd.g rfl id) (Opd.g rfl id)) e10) rfl rfl rfl <| ?_
  obtain ⟨b11, e12, hm⟩ := letv_some hm
  refine WL_op (Run.eqB (Run_and (Opd.t rfl) (Opd.g rfl id)) e12) rfl rfl rfl rfl <| WL_op (Run_move (Opd.t rfl)) rfl rfl rfl rfl <| WL_opG rfl rfl rfl rfl guard_pos (Run_fieldAddr fo24_3 (Opd.t rfl)) rfl rfl rfl <| WL_opG rfl rfl rfl rfl guard_pos (Run_load1 (v := (sl v1)) Tryd.underlying22 rfl (Opd.g rfl id) (fun _ => (hs.box (i := 1) rfl).part 3 rfl)) rfl rfl rfl <| WL_opG rfl rfl rfl rfl guard_pos (Run_fieldAddr fo24_3 (Opd.t rfl)) rfl rfl rfl <| WL_opG rfl rfl rfl rfl guard_pos (Run_load1 (v := (sl v3)) Tryd.underlying22 rfl (Opd.g rfl id) (fun _ => (hs.box (i := 0) rfl).part 3 rfl)) rfl rfl rfl <| ?_
  obtain ⟨r13, hr14, -, hm⟩ := callG_some hm
  refine WL_callG rfl rfl rfl guard_pos (f := 35) (first := []) (cap := []) (xs := [(.tmp 19), (.tmp 21), (.func 14)]) (vs := [(sl v1), (sl v3), (.func (.func 14) #[] #[])]) (args := [(sl v1), (sl v3), (.func (.func 14) #[] #[])]) Tryd.call35 Opd.f (.cons (Opd.g rfl id) (.cons (Opd.g rfl id) (.cons Opd.f .nil))) rfl rfl (fun hg => slices_EqualFunc_api_Expr_api_Expr_api_Expr_api_Expr_ok (@ih_expr_Same) (hs.re 4 [2, 3, 0, 1, 2, 3] rfl) (hr14 hg)) ?_
  intro v16 w15 hv17 hz18
  replace hs := Sat.ofG (fun hg => (hv17 hg).2.re 4 [0, 1, 2, 3] rfl) hz18 hs
  refine WL_sub1 (v := (.bool r13)) (fun hg => (hv17 hg).1) ?_
  replace hs := Sat.n4 (Γ := Φ) hs rfl
  obtain ⟨b19, e20, hm⟩ := letv_some hm
  refine WL_op (Run.eqB (Run_and (Opd.t rfl) (Opd.g rfl id)) e20) rfl rfl rfl rfl <| WL_op (Run_assign (Opd.t rfl)) rfl rfl rfl rfl <| ?_
  refine WL_nil ?_
  refine At_then ?_
  refine WC_ret ?_
  refine At_r1 rfl (ResIs.t rfl) ?_
  cases hm
  exact ⟨rfl, (hs.re 4 [] rfl)⟩

set_option maxRecDepth 100000 in
set_option maxHeartbeats 4000000 in
theorem expr_Same_ok {Φ : Ctx} {w : World} {a : Ex} {b : Ex} {v1 : SLV} {v3 : SLV} {r : Bool} (hs : Sat (imm (RSl RExpr) [sl v1] a.l :: imm (RSl RExpr) [sl v3] b.l :: Φ) w) (hm : expr_Same a b = some r) :
    CallsR Tryd.prog 14 [(.agg #[(.int .i64 a.op), (.int .i64 a.n), (.int .i64 a.at_), (sl v1)]), (.agg #[(.int .i64 b.op), (.int .i64 b.n), (.int .i64 b.at_), (sl v3)])] w (fun v w' => v = (.bool r) ∧ Sat (Φ) w') := by
  have key : ∀ (N : Nat) {Φ : Ctx} {w : World} {a : Ex} {b : Ex} {v1 : SLV} {v3 : SLV} {r : Bool}, Sat (imm (RSl RExpr) [sl v1] a.l :: imm (RSl RExpr) [sl v3] b.l :: Φ) w → fixN (fun k (s : (Ex × Ex)) => expr_Same_F k s.1 s.2) N (a, b) = some r → CallsR Tryd.prog 14 [(.agg #[(.int .i64 a.op), (.int .i64 a.n), (.int .i64 a.at_), (sl v1)]), (.agg #[(.int .i64 b.op), (.int .i64 b.n), (.int .i64 b.at_), (sl v3)])] w (fun v w' => v = (.bool r) ∧ Sat (Φ) w') := by
    intro N
    induction N with
    | zero => intros; rename_i h; cases h
    | succ N ih => intros; rename_i hs hm; rw [fixN_succ] at hm; exact expr_Same_F_ok (@ih) hs hm
  unfold expr_Same at hm
  exact key FUEL hs hm

end Go.Proofs.YtmeombbmhpcacaaDoor
