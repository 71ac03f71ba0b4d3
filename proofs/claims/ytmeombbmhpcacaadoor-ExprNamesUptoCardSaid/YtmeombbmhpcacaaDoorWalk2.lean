/- Printed by a program: the walks. -/
import Derived.Test.YtmeombbmhpcacaaDoorWalk1
namespace Go.Proofs.YtmeombbmhpcacaaDoor
open Go.Proofs

set_option maxRecDepth 100000 in
set_option maxHeartbeats 4000000 in
theorem expr_read_fail_ok {Φ : Ctx} {w : World} {e : Int} {l : (List (Int × Str × Int × Int))} {at_ : Int} {names : (List Str)} {deep : Int} {bad : Int} {place : Int} {b : Nat} {v2 : SLV} {v4 : SLV} {r : (Ex × Int × Int)} (hs : Sat (box b 71 [(sl v2), (.int .i64 at_), (sl v4), (.int .i64 deep), (.int .i64 bad), (.int .i64 place)] :: imm (RSl (RP (RI .i64) (RP RS (RP (RI .i64) (RI .i64))))) [sl v2] l :: imm (RSl RS) [sl v4] names :: Φ) w) (hm : expr_read_fail e l at_ names deep bad place = some r) :
    CallsR Tryd.prog 46 [(.pointer (some ⟨b, 0, none⟩)), (.int .i64 e)] w (fun v w' => ∃ v3 : SLV, ∃ R4 : List Nat, v = (.agg #[(.int .i64 r.1.op), (.int .i64 r.1.n), (.int .i64 r.1.at_), (sl v3)]) ∧ Sat (osl RExpr 24 (sl v3) r.1.l R4 :: box b 71 [(sl v2), (.int .i64 at_), (sl v4), (.int .i64 deep), (.int .i64 r.2.1), (.int .i64 r.2.2)] :: imm (RSl (RP (RI .i64) (RP RS (RP (RI .i64) (RI .i64))))) [sl v2] l :: imm (RSl RS) [sl v4] names :: Φ) w') := by
  refine CallsX_enter Tryd.func46 rfl Tryd.ntmps46 rfl ?_
  unfold expr_read_fail at hm
  refine WC_seq ?_
  refine WC_region ?_
  refine WS_alloc (zs := [(.int .i64 0), (.int .i64 0), (.int .i64 0), (sl (none, 0, 0))]) hs ti24 rfl rfl ?_
  intro b7 w8 hs
  replace hs := Sat.n4 (Γ := Φ) hs rfl
  refine WL_nil ?_
  refine At_then ?_
  refine WC_seq ?_
  refine WC_seq ?_
  refine WC_region ?_
  refine WL_op (Run_move (Opd.t rfl)) rfl rfl rfl rfl <| WL_op (Run_nilP (Opd.t rfl)) rfl rfl rfl rfl <| WL_op (Run_fieldAddr fo71_4 (Opd.t rfl)) rfl rfl rfl rfl <| WL_op (Run_load1 (v := (.int .i64 bad)) Tryd.underlying34 rfl (Opd.t rfl) (fun _ => (hs.box (i := 1) rfl).part 4 rfl)) rfl rfl rfl rfl <| WL_op (Run_eqI (Opd.t rfl) Opd.c) rfl rfl rfl rfl <| ?_
  refine WL_nil ?_
  refine At_then ?_
  refine WC_cond (Opd.t rfl) (fun hc9 => ?_) (fun hc9 => ?_)
  ·
    replace hm := bif_t hc9 hm
    refine WC_region_mixed [0, 0, 0, 0, 8, 16, 32, 0, 128, 256, 512, 1088, 2048, 4096, 9285, 25669, 42053, 131071, 262143, 393215] (.q 0 0 (.q 1 1 (.q 2 3 (.q 3 7 (.q 4 15 (.q 5 31 (.q 6 63 (.q 7 127 (.q 8 255 (.q 9 511 (.q 10 1023 (.q 11 2047 (.q 12 4095 (.q 13 8191 (.q 14 16383 (.q 15 32767 (.l 16 65535 (.q 17 131071 (.q 18 262143 (.l 19 524287 .nil)))))))))))))))))))) (by kernel_rfl) (by kernel_rfl) ?_
    intro w10 hx11
    replace hs := hs.ext hx11
    refine WD_pure (fun _ => (Run_move (Opd.t rfl))) rfl rfl rfl rfl <| WD_pure (fun _ => (Run_move (Opd.t rfl))) rfl rfl rfl rfl <| WD_pure (fun _ => (Run_move (Opd.t rfl))) rfl rfl rfl rfl <| WD_pure (fun _ => (Run_move (Opd.t rfl))) rfl rfl rfl rfl <| WD_pure (fun _ => (Run_nilP (Opd.t rfl))) rfl rfl rfl rfl <| WD_pure (fun _ => (Run_fieldAddr fo71_0 (Opd.t rfl))) rfl rfl rfl rfl <| WD_op (fun w => CellsAt w ⟨b, 0, none⟩ [(sl v2)]) ((hs.box (i := 1) rfl).part 0 rfl) (fun _ hJ => (Run_load1 (v := (sl v2)) Tryd.underlying44 rfl (Opd.t rfl) (fun _ => hJ))) rfl rfl rfl rfl <| WD_pure (fun _ => (Run_move (Opd.t rfl))) rfl rfl rfl rfl <| ?_
    refine WD_pure (fun _ => (Run_nilP (Opd.t rfl))) rfl rfl rfl rfl <| WD_pure (fun _ => (Run_fieldAddr fo71_1 (Opd.t rfl))) rfl rfl rfl rfl <| WD_op (fun w => CellsAt w ⟨b, 1, none⟩ [(.int .i64 at_)]) ((hs.box (i := 1) rfl).part 1 rfl) (fun _ hJ => (Run_load1 (v := (.int .i64 at_)) Tryd.underlying3 rfl (Opd.t rfl) (fun _ => hJ))) rfl rfl rfl rfl <| ?_
    obtain ⟨e12, he13, hm⟩ := bind_some' hm
    refine WD_pure (fun _ => (Run_idxAddr (p := (elA (sl v2) at_ 4)) Tryd.underlying44 ti60 (Opd.t rfl) (Opd.t rfl) (fun hg => (SRd.atA (A := (RP (RI .i64) (RP RS (RP (RI .i64) (RI .i64))))) (v := (sl v2)) (hs.sl (i := 2) rfl) he13).1))) rfl rfl rfl rfl <| WD_pure (fun _ => (Run_fieldAddr fo60_3 (Opd.t rfl))) rfl rfl rfl rfl <| WD_op (fun w => true = true → CellsAt w ((elA (sl v2) at_ 4).add 3) [(.int .i64 e12.2.2.2)]) (fun hg => ((SRd.cellsF (A := (RP (RI .i64) (RP RS (RP (RI .i64) (RI .i64))))) (v := (sl v2)) (hs.sl (i := 2) rfl) he13 (fun _ h => openT60 h)).sub (us := [(.int .i64 e12.2.2.2)]) 3 rfl).sub 0 rfl) (fun _ hJ => (Run_load1 (v := (.int .i64 e12.2.2.2)) Tryd.underlying3 rfl (Opd.t rfl) hJ)) rfl rfl rfl rfl <| WD_pure (fun _ => (Run_nilP (Opd.t rfl))) rfl rfl rfl rfl <| WD_pure (fun _ => (Run_fieldAddr fo71_4 (Opd.t rfl))) rfl rfl rfl rfl <| ?_
    refine WD_loud (pend' := []) rfl (by kernel_rfl) ?_
    refine WS_store (us := [(.int .i64 e)]) (vs' := [(sl v2), (.int .i64 at_), (sl v4), (.int .i64 deep), (.int .i64 e), (.int .i64 place)]) hs 1 rfl ti34 (Opd.t rfl) (Opd.t rfl) rfl rfl rfl rfl rfl ?_
    intro w14 hs
    replace hs := Sat.n4 (Γ := Φ) hs rfl
    refine WL_nil ?_
    refine At_QK allJ_nil ?_
    refine WD_pure (fun _ => (Run_nilP (Opd.t rfl))) rfl rfl rfl rfl <| WD_pure (fun _ => (Run_fieldAddr fo71_5 (Opd.t rfl))) rfl rfl rfl rfl <| ?_
    refine WD_loud (pend' := []) rfl (by kernel_rfl) ?_
    refine WS_store (us := [(.int .i64 e12.2.2.2)]) (vs' := [(sl v2), (.int .i64 at_), (sl v4), (.int .i64 deep), (.int .i64 e), (.int .i64 e12.2.2.2)]) hs 1 rfl ti3 (Opd.t rfl) (Opd.t rfl) rfl rfl rfl rfl rfl ?_
    intro w15 hs
    replace hs := Sat.n4 (Γ := Φ) hs rfl
    refine WL_nil ?_
    refine At_QK allJ_nil ?_
    refine WD_nil ?_
    refine At_then ?_
    refine WC_seq ?_
    refine WC_region ?_
    refine WL_op (Run_build (parts := []) (v := (.agg #[(.int .i64 0), (.int .i64 0), (.int .i64 0), (sl (none, 0, 0))])) .nil (fun _ => by kernel_rfl)) rfl rfl rfl rfl <| ?_
    refine WS_store (us := [(.int .i64 0), (.int .i64 0), (.int .i64 0), (sl (none, 0, 0))]) (vs' := [(.int .i64 0), (.int .i64 0), (.int .i64 0), (sl (none, 0, 0))]) hs 0 rfl ti24 (Opd.t rfl) (Opd.t rfl) rfl rfl rfl rfl rfl ?_
    intro w16 hs
    replace hs := Sat.n4 (Γ := Φ) hs rfl
    refine WL_nil ?_
    refine At_then ?_
    refine WC_ret ?_
    refine At_r1 rfl (ResIs.cA (vs := [(.int .i64 0), (.int .i64 0), (.int .i64 0), (sl (none, 0, 0))]) rfl Tryd.underlying24 rfl ti24 ((hs.box (i := 0) rfl).part 0 rfl) rfl) ?_
    replace hs := hs.addNil RExpr 24
    cases hm
    exact ⟨(none, 0, 0), [], rfl, (hs.re 5 [0, 2, 3, 4] rfl)⟩
  ·
    replace hm := bif_f hc9 hm
    refine WC_skip ?_
    refine At_then ?_
    refine WC_seq ?_
    refine WC_region ?_
    refine WL_op (Run_build (parts := []) (v := (.agg #[(.int .i64 0), (.int .i64 0), (.int .i64 0), (sl (none, 0, 0))])) .nil (fun _ => by kernel_rfl)) rfl rfl rfl rfl <| ?_
    refine WS_store (us := [(.int .i64 0), (.int .i64 0), (.int .i64 0), (sl (none, 0, 0))]) (vs' := [(.int .i64 0), (.int .i64 0), (.int .i64 0), (sl (none, 0, 0))]) hs 0 rfl ti24 (Opd.t rfl) (Opd.t rfl) rfl rfl rfl rfl rfl ?_
    intro w17 hs
    replace hs := Sat.n4 (Γ := Φ) hs rfl
    refine WL_nil ?_
    refine At_then ?_
    refine WC_ret ?_
    refine At_r1 rfl (ResIs.cA (vs := [(.int .i64 0), (.int .i64 0), (.int .i64 0), (sl (none, 0, 0))]) rfl Tryd.underlying24 rfl ti24 ((hs.box (i := 0) rfl).part 0 rfl) rfl) ?_
    replace hs := hs.addNil RExpr 24
    cases hm
    exact ⟨(none, 0, 0), [], rfl, (hs.re 5 [0, 2, 3, 4] rfl)⟩

set_option maxRecDepth 100000 in
set_option maxHeartbeats 4000000 in
theorem expr_read_next_ok {Φ : Ctx} {w : World} {l : (List (Int × Str × Int × Int))} {at_ : Int} {names : (List Str)} {deep : Int} {bad : Int} {place : Int} {b : Nat} {v2 : SLV} {v4 : SLV} {r : (Int × Str × Int × Int)} (hs : Sat (box b 71 [(sl v2), (.int .i64 at_), (sl v4), (.int .i64 deep), (.int .i64 bad), (.int .i64 place)] :: imm (RSl (RP (RI .i64) (RP RS (RP (RI .i64) (RI .i64))))) [sl v2] l :: imm (RSl RS) [sl v4] names :: Φ) w) (hm : expr_read_next l at_ names deep bad place = some r) :
    CallsR Tryd.prog 51 [(.pointer (some ⟨b, 0, none⟩))] w (fun v w' => v = (.agg #[(.int .i64 r.1), (S r.2.1), (.int .i64 r.2.2.1), (.int .i64 r.2.2.2)]) ∧ Sat (box b 71 [(sl v2), (.int .i64 at_), (sl v4), (.int .i64 deep), (.int .i64 bad), (.int .i64 place)] :: imm (RSl (RP (RI .i64) (RP RS (RP (RI .i64) (RI .i64))))) [sl v2] l :: imm (RSl RS) [sl v4] names :: Φ) w') := by
  refine CallsX_enter Tryd.func51 rfl Tryd.ntmps51 rfl ?_
  unfold expr_read_next at hm
  refine WC_seq ?_
  refine WC_region ?_
  refine WS_alloc (zs := [(.int .i64 0), (S []), (.int .i64 0), (.int .i64 0)]) hs ti60 rfl rfl ?_
  intro b3 w4 hs
  replace hs := Sat.n4 (Γ := Φ) hs rfl
  refine WL_nil ?_
  refine At_then ?_
  refine WC_seq ?_
  refine WC_region_mixed [0, 1, 2, 4, 0, 16, 32, 64, 136, 256, 1023] (.q 0 0 (.q 1 1 (.q 2 3 (.q 3 7 (.q 4 15 (.q 5 31 (.q 6 63 (.q 7 127 (.q 8 255 (.q 9 511 (.l 10 1023 .nil))))))))))) (by kernel_rfl) (by kernel_rfl) ?_
  intro w5 hx6
  replace hs := hs.ext hx6
  refine WD_pure (fun _ => (Run_move (Opd.t rfl))) rfl rfl rfl rfl <| WD_pure (fun _ => (Run_nilP (Opd.t rfl))) rfl rfl rfl rfl <| WD_pure (fun _ => (Run_fieldAddr fo71_0 (Opd.t rfl))) rfl rfl rfl rfl <| WD_op (fun w => CellsAt w ⟨b, 0, none⟩ [(sl v2)]) ((hs.box (i := 1) rfl).part 0 rfl) (fun _ hJ => (Run_load1 (v := (sl v2)) Tryd.underlying44 rfl (Opd.t rfl) (fun _ => hJ))) rfl rfl rfl rfl <| WD_pure (fun _ => (Run_move (Opd.t rfl))) rfl rfl rfl rfl <| WD_pure (fun _ => (Run_nilP (Opd.t rfl))) rfl rfl rfl rfl <| WD_pure (fun _ => (Run_fieldAddr fo71_1 (Opd.t rfl))) rfl rfl rfl rfl <| WD_op (fun w => CellsAt w ⟨b, 1, none⟩ [(.int .i64 at_)]) ((hs.box (i := 1) rfl).part 1 rfl) (fun _ hJ => (Run_load1 (v := (.int .i64 at_)) Tryd.underlying3 rfl (Opd.t rfl) (fun _ => hJ))) rfl rfl rfl rfl <| ?_
  obtain ⟨e7, he8, hm⟩ := bind_some' hm
  refine WD_pure (fun _ => (Run_idxAddr (p := (elA (sl v2) at_ 4)) Tryd.underlying44 ti60 (Opd.t rfl) (Opd.t rfl) (fun hg => (SRd.atA (A := (RP (RI .i64) (RP RS (RP (RI .i64) (RI .i64))))) (v := (sl v2)) (hs.sl (i := 2) rfl) he8).1))) rfl rfl rfl rfl <| WD_op (fun w => true = true → CellsAt w (elA (sl v2) at_ 4) [(.int .i64 e7.1), (S e7.2.1), (.int .i64 e7.2.2.1), (.int .i64 e7.2.2.2)]) (fun hg => (SRd.cellsF (A := (RP (RI .i64) (RP RS (RP (RI .i64) (RI .i64))))) (v := (sl v2)) (hs.sl (i := 2) rfl) he8 (fun _ h => openT60 h)).sub 0 rfl) (fun _ hJ => (Run_loadA (vs := [(.int .i64 e7.1), (S e7.2.1), (.int .i64 e7.2.2.1), (.int .i64 e7.2.2.2)]) Tryd.underlying60 rfl ti60 (Opd.t rfl) hJ rfl)) rfl rfl rfl rfl <| ?_
  refine WD_loud (pend' := []) rfl (by kernel_rfl) ?_
  refine WS_store (us := [(.int .i64 e7.1), (S e7.2.1), (.int .i64 e7.2.2.1), (.int .i64 e7.2.2.2)]) (vs' := [(.int .i64 e7.1), (S e7.2.1), (.int .i64 e7.2.2.1), (.int .i64 e7.2.2.2)]) hs 0 rfl ti60 (Opd.t rfl) (Opd.t rfl) rfl rfl rfl rfl rfl ?_
  intro w9 hs
  replace hs := Sat.n4 (Γ := Φ) hs rfl
  refine WL_nil ?_
  refine At_QK allJ_nil ?_
  refine WD_nil ?_
  refine At_then ?_
  refine WC_ret ?_
  refine At_r1 rfl (ResIs.cA (vs := [(.int .i64 e7.1), (S e7.2.1), (.int .i64 e7.2.2.1), (.int .i64 e7.2.2.2)]) rfl Tryd.underlying60 rfl ti60 ((hs.box (i := 0) rfl).part 0 rfl) rfl) ?_
  cases hm
  exact ⟨rfl, (hs.re 4 [1, 2, 3] rfl)⟩

set_option maxRecDepth 100000 in
set_option maxHeartbeats 4000000 in
theorem slices_Index_string_string_ok {Φ : Ctx} {w : World} {s : (List Str)} {v3 : Str} {v1 : SLV} {r : Int} (hs : Sat (imm (RSl RS) [sl v1] s :: Φ) w) (hm : slices_Index_string_string s v3 = some r) :
    CallsR Tryd.prog 44 [(sl v1), (S v3)] w (fun v w' => v = (.int .i64 r) ∧ Sat (Φ) w') := by
  refine CallsX_enter Tryd.func44 rfl Tryd.ntmps44 rfl ?_
  unfold slices_Index_string_string at hm
  refine WC_seq ?_
  refine WC_region ?_
  refine WL_op (Run_assign Opd.c) rfl rfl rfl rfl <| ?_
  refine WL_nil ?_
  refine At_then ?_
  refine WC_seq ?_
  refine WC_seq ?_
  refine WC_region ?_
  refine WL_op (Run_move (Opd.t rfl)) rfl rfl rfl rfl <| WL_op (Run_lenSlG Tryd.underlying40 (Opd.t rfl) (fun hg => (hs.sl (i := 0) rfl).len)) rfl rfl rfl rfl <| WL_op (Run_move Opd.c) rfl rfl rfl rfl <| ?_
  refine WL_nil ?_
  refine At_then ?_
  refine WC_block ?_
  refine WC_loop (σ := Int) (γ := Unit) (F := (slices_Index_string_string_L1 s v3)) (N := FUEL) (s0 := 0) (r := r) (fun t4 (_ : Unit) w3 => Sat (imm (RSl RS) [sl v1] s :: Φ) w3) (fun t4 (_ : Unit) => [(0, true, (sl v1)), (1, true, (S v3)), (7, true, (.int .i64 (List.length s : Int))), (8, true, (.int .i64 t4))]) hm () (hs.re 1 [0] rfl) rfl ?_
  rintro again5 t4 _ w3 hm hs
  unfold slices_Index_string_string_L1 at hm
  refine WC_seq ?_
  refine WC_region ?_
  refine WL_op (Run_ltI (Opd.t rfl) (Opd.t rfl)) rfl rfl rfl rfl <| ?_
  refine WL_nil ?_
  refine At_then ?_
  refine WC_seq ?_
  refine WC_cond (Opd.t rfl) (fun hc6 => ?_) (fun hc6 => ?_)
  ·
    replace hm := bif_t hc6 hm
    refine WC_skip ?_
    refine At_then ?_
    refine WC_seq ?_
    refine WC_block ?_
    refine WC_seq ?_
    refine WC_region ?_
    refine WL_op (Run_move (Opd.t rfl)) rfl rfl rfl rfl <| WL_op (Run_assign (Opd.t rfl)) rfl rfl rfl rfl <| ?_
    refine WL_nil ?_
    refine At_then ?_
    refine WC_seq ?_
    refine WC_region ?_
    refine WL_op (Run_move (Opd.t rfl)) rfl rfl rfl rfl <| WL_op (Run_move (Opd.t rfl)) rfl rfl rfl rfl <| WL_op (Run_move (Opd.t rfl)) rfl rfl rfl rfl <| ?_
    obtain ⟨e7, he8, hm⟩ := bind_some' hm
    refine WL_op (Run_idxAddr (p := (elA (sl v1) t4 1)) Tryd.underlying40 ti9 (Opd.t rfl) (Opd.t rfl) (fun hg => (SRd.atA (A := RS) (v := (sl v1)) (hs.sl (i := 0) rfl) he8).1)) rfl rfl rfl rfl <| WL_op (Run_load1 (v := (S e7)) Tryd.underlying9 rfl (Opd.t rfl) (fun hg => (SRd.cellsF (A := RS) (v := (sl v1)) (hs.sl (i := 0) rfl) he8 (fun _ h => openT9 h)).sub 0 rfl)) rfl rfl rfl rfl <| WL_op (Run_eqS (Opd.t rfl) (Opd.t rfl)) rfl rfl rfl rfl <| ?_
    refine WL_nil ?_
    refine At_then ?_
    refine WC_cond (Opd.t rfl) (fun hc9 => ?_) (fun hc9 => ?_)
    ·
      replace hm := bif_t hc9 hm
      refine WC_seq ?_
      refine WC_region ?_
      refine WL_op (Run_move (Opd.t rfl)) rfl rfl rfl rfl <| WL_op (Run_assign (Opd.t rfl)) rfl rfl rfl rfl <| ?_
      refine WL_nil ?_
      refine At_then ?_
      refine WC_ret ?_
      refine At_blk_ret <| At_then_ret <| At_then_ret <| At_blk_ret <| At_then_ret <| ?_
      refine At_r1 rfl (ResIs.t rfl) ?_
      cases hm
      exact ⟨rfl, (hs.re 1 [] rfl)⟩
    ·
      replace hm := bif_f hc9 hm
      refine WC_skip ?_
      refine At_blk_normal ?_
      refine At_then ?_
      refine WC_region ?_
      refine WL_op (Run_add (Opd.t rfl) Opd.c) rfl rfl rfl rfl <| WL_op (Run_move (Opd.t rfl)) rfl rfl rfl rfl <| ?_
      refine WL_nil ?_
      exact At_again (IntKind.i64.wrap (t4 + 1)) () hm (hs.re 1 [0] rfl) rfl
  ·
    replace hm := bif_f hc6 hm
    refine WC_exit ?_
    refine At_then_exit <| At_then_exit <| At_blk_here <| ?_
    refine At_then ?_
    refine WC_seq ?_
    refine WC_region ?_
    refine WL_op (Run_assign Opd.c) rfl rfl rfl rfl <| ?_
    refine WL_nil ?_
    refine At_then ?_
    refine WC_ret ?_
    refine At_r1 rfl (ResIs.t rfl) ?_
    cases hm
    exact ⟨rfl, (hs.re 1 [] rfl)⟩

set_option maxRecDepth 100000 in
set_option maxHeartbeats 4000000 in
theorem slices_Contains_string_string_ok {Φ : Ctx} {w : World} {s : (List Str)} {v3 : Str} {v1 : SLV} {r : Bool} (hs : Sat (imm (RSl RS) [sl v1] s :: Φ) w) (hm : slices_Contains_string_string s v3 = some r) :
    CallsR Tryd.prog 34 [(sl v1), (S v3)] w (fun v w' => v = (.bool r) ∧ Sat (Φ) w') := by
  refine CallsX_enter Tryd.func34 rfl Tryd.ntmps34 rfl ?_
  unfold slices_Contains_string_string at hm
  refine WC_seq ?_
  refine WC_region ?_
  refine WL_op (Run_assign Opd.c) rfl rfl rfl rfl <| ?_
  refine WL_nil ?_
  refine At_then ?_
  refine WC_seq ?_
  refine WC_region ?_
  refine WL_op (Run_move (Opd.t rfl)) rfl rfl rfl rfl <| WL_op (Run_move (Opd.t rfl)) rfl rfl rfl rfl <| ?_
  obtain ⟨r3, hr4, hm⟩ := bind_some' hm
  refine WL_call (f := 44) (first := []) (cap := []) (xs := [(.tmp 5), (.tmp 6)]) (vs := [(sl v1), (S v3)]) (args := [(sl v1), (S v3)]) Tryd.call44 Opd.f (.cons (Opd.t rfl) (.cons (Opd.t rfl) .nil)) rfl rfl (slices_Index_string_string_ok (hs.re 1 [0, 0] rfl) hr4) ?_
  rintro _ w5 ⟨rfl, hs⟩
  replace hs := Sat.n1 (Γ := Φ) hs rfl
  refine WL_op (Run_geI (Opd.t rfl) Opd.c) rfl rfl rfl rfl <| WL_op (Run_assign (Opd.t rfl)) rfl rfl rfl rfl <| ?_
  refine WL_nil ?_
  refine At_then ?_
  refine WC_ret ?_
  refine At_r1 rfl (ResIs.t rfl) ?_
  cases hm
  exact ⟨rfl, (hs.re 1 [] rfl)⟩

set_option maxRecDepth 100000 in
set_option maxHeartbeats 4000000 in
theorem expr_Key_ok {Φ : Ctx} {w : World} {name : Str} {r : Bool} (hs : Sat (gl 0 (keysL.map S) :: Φ) w) (hm : expr_Key name = some r) :
    CallsR Tryd.prog 12 [(S name)] w (fun v w' => v = (.bool r) ∧ Sat (Φ) w') := by
  refine CallsX_enter Tryd.func12 rfl Tryd.ntmps12 rfl ?_
  unfold expr_Key at hm
  refine WC_seq ?_
  refine WC_region ?_
  refine WL_op (Run_assign Opd.c) rfl rfl rfl rfl <| ?_
  refine WL_nil ?_
  refine At_then ?_
  refine WC_seq ?_
  refine WC_region ?_
  refine WL_op (Run_cutArr Tryd.underlying62 ti9 rfl Opd.gl) rfl rfl rfl rfl <| ?_
  replace hs := hs.addS (gl_sl (A := RS) (hs.gl (i := 0) rfl).1 (hs.gl (i := 0) rfl).2 (ARd_strs _))
  refine WL_op (Run_move (Opd.t rfl)) rfl rfl rfl rfl <| ?_
  obtain ⟨r3, hr4, hm⟩ := bind_some' hm
  refine WL_call (f := 34) (first := []) (cap := []) (xs := [(.tmp 3), (.tmp 4)]) (vs := [(sl (some ⟨0, 0, none⟩, 9, 9)), (S name)]) (args := [(sl (some ⟨0, 0, none⟩, 9, 9)), (S name)]) Tryd.call34 Opd.f (.cons (Opd.t rfl) (.cons (Opd.t rfl) .nil)) rfl rfl (slices_Contains_string_string_ok (hs.re 2 [0, 0, 1] rfl) hr4) ?_
  rintro _ w5 ⟨rfl, hs⟩
  replace hs := Sat.n2 (Γ := Φ) hs rfl
  refine WL_op (Run_assign (Opd.t rfl)) rfl rfl rfl rfl <| ?_
  refine WL_nil ?_
  refine At_then ?_
  refine WC_ret ?_
  refine At_r1 rfl (ResIs.t rfl) ?_
  cases hm
  exact ⟨rfl, (hs.re 2 [] rfl)⟩

set_option maxRecDepth 100000 in
set_option maxHeartbeats 4000000 in
theorem expr_read_is_ok {Φ : Ctx} {w : World} {ops : (List Int)} {l : (List (Int × Str × Int × Int))} {at_ : Int} {names : (List Str)} {deep : Int} {bad : Int} {place : Int} {b : Nat} {v2 : SLV} {v4 : SLV} {v6 : SLV} {r : (Int × Bool)} (hs : Sat (box b 71 [(sl v4), (.int .i64 at_), (sl v6), (.int .i64 deep), (.int .i64 bad), (.int .i64 place)] :: imm (RSl (RI .i64)) [sl v2] ops :: imm (RSl (RP (RI .i64) (RP RS (RP (RI .i64) (RI .i64))))) [sl v4] l :: imm (RSl RS) [sl v6] names :: gl 0 (keysL.map S) :: gl 1 (textsL.map S) :: Φ) w) (hm : expr_read_is ops l at_ names deep bad place = some r) :
    CallsR Tryd.prog 50 [(.pointer (some ⟨b, 0, none⟩)), (sl v2)] w (fun v w' => v = (.tuple #[(.int .i64 r.1), (.bool r.2)]) ∧ Sat (box b 71 [(sl v4), (.int .i64 at_), (sl v6), (.int .i64 deep), (.int .i64 bad), (.int .i64 place)] :: imm (RSl (RP (RI .i64) (RP RS (RP (RI .i64) (RI .i64))))) [sl v4] l :: imm (RSl RS) [sl v6] names :: Φ) w') := by
  refine CallsX_enter Tryd.func50 rfl Tryd.ntmps50 rfl ?_
  unfold expr_read_is at hm
  refine WC_seq ?_
  refine WC_region ?_
  refine WL_op (Run_assign Opd.c) rfl rfl rfl rfl <| WL_op (Run_assign Opd.c) rfl rfl rfl rfl <| ?_
  refine WL_nil ?_
  refine At_then ?_
  refine WC_seq ?_
  refine WC_region ?_
  refine WL_op (Run_move (Opd.t rfl)) rfl rfl rfl rfl <| ?_
  obtain ⟨r4, hr5, hm⟩ := bind_some' hm
  refine WL_call (f := 51) (first := []) (cap := []) (xs := [(.tmp 9)]) (vs := [(.pointer (some ⟨b, 0, none⟩))]) (args := [(.pointer (some ⟨b, 0, none⟩))]) Tryd.call51 Opd.f (.cons (Opd.t rfl) .nil) rfl rfl (expr_read_next_ok (hs.re 6 [0, 2, 3, 1, 2, 3, 4, 5] rfl) hr5) ?_
  rintro _ w6 ⟨rfl, hs⟩
  replace hs := Sat.n8 (Γ := Φ) hs rfl
  refine WS_alloc (zs := [(.int .i64 0), (S []), (.int .i64 0), (.int .i64 0)]) hs ti60 rfl rfl ?_
  intro b7 w8 hs
  replace hs := Sat.n9 (Γ := Φ) hs rfl
  refine WS_store (us := [(.int .i64 r4.1), (S r4.2.1), (.int .i64 r4.2.2.1), (.int .i64 r4.2.2.2)]) (vs' := [(.int .i64 r4.1), (S r4.2.1), (.int .i64 r4.2.2.1), (.int .i64 r4.2.2.2)]) hs 0 rfl ti60 (Opd.t rfl) (Opd.t rfl) rfl rfl rfl rfl rfl ?_
  intro w9 hs
  replace hs := Sat.n9 (Γ := Φ) hs rfl
  refine WL_nil ?_
  refine At_then ?_
  refine WC_seq ?_
  refine WC_seq ?_
  refine WC_region ?_
  refine WL_op (Run_fieldAddr fo60_0 (Opd.t rfl)) rfl rfl rfl rfl <| WL_op (Run_load1 (v := (.int .i64 r4.1)) Tryd.underlying3 rfl (Opd.t rfl) (fun _ => (hs.box (i := 0) rfl).part 0 rfl)) rfl rfl rfl rfl <| ?_
  obtain ⟨b10, e11, hm⟩ := letv_some hm
  refine WL_op (Run.eqB (Run_neI (Opd.t rfl) Opd.c) e11) rfl rfl rfl rfl <| WL_op (Run_move (Opd.t rfl)) rfl rfl rfl rfl <| WL_opG rfl rfl rfl rfl guard_pos (Run_fieldAddr fo60_0 (Opd.t rfl)) rfl rfl rfl <| WL_opG rfl rfl rfl rfl guard_pos (Run_load1 (v := (.int .i64 r4.1)) Tryd.underlying3 rfl (Opd.g rfl id) (fun _ => (hs.box (i := 0) rfl).part 0 rfl)) rfl rfl rfl <| ?_
  obtain ⟨b12, e13, hm⟩ := letv_some hm
  refine WL_opG rfl rfl rfl rfl guard_pos (Run.eqB (Run_eqI (Opd.g rfl id) Opd.c) e13) rfl rfl rfl <| WL_opG rfl rfl rfl rfl guard_pos (Run_move (Opd.g rfl id)) rfl rfl rfl <| WL_opG rfl rfl rfl rfl guard_pos' (Run_fieldAddr fo60_1 (Opd.t rfl)) rfl rfl rfl <| WL_opG rfl rfl rfl rfl guard_pos' (Run_load1 (v := (S r4.2.1)) Tryd.underlying9 rfl (Opd.g rfl id) (fun _ => (hs.box (i := 0) rfl).part 1 rfl)) rfl rfl rfl <| ?_
  obtain ⟨r14, hr15, -, hm⟩ := callG_some hm
  refine WL_callG rfl rfl rfl guard_pos' (f := 12) (first := []) (cap := []) (xs := [(.tmp 20)]) (vs := [(S r4.2.1)]) (args := [(S r4.2.1)]) Tryd.call12 Opd.f (.cons (Opd.g rfl id) .nil) rfl rfl (fun hg => expr_Key_ok (hs.re 9 [7, 0, 1, 2, 3, 4, 5, 6, 7, 8] rfl) (hr15 hg)) ?_
  intro v17 w16 hv18 hz19
  replace hs := Sat.ofG (fun hg => (hv18 hg).2.re 9 [0, 1, 2, 3, 4, 5, 6, 7, 8] rfl) hz19 hs
  refine WL_sub1 (v := (.bool r14)) (fun hg => (hv18 hg).1) ?_
  replace hs := Sat.n9 (Γ := Φ) hs rfl
  obtain ⟨b20, e21, hm⟩ := letv_some hm
  refine WL_opG rfl rfl rfl rfl guard_pos (Run.eqB (Run_and (Opd.g rfl id) (Opd.g rfl id)) e21) rfl rfl rfl <| ?_
  obtain ⟨b22, e23, hm⟩ := letv_some hm
  refine WL_opG rfl rfl rfl rfl guard_pos (Run.eqB (Run_notB (Opd.g rfl id)) e23) rfl rfl rfl <| ?_
  obtain ⟨b24, e25, hm⟩ := letv_some hm
  refine WL_op (Run.eqB (Run_and (Opd.t rfl) (Opd.g rfl id)) e25) rfl rfl rfl rfl <| ?_
  refine WL_nil ?_
  refine At_then ?_
  refine WC_cond (Opd.t rfl) (fun hc26 => ?_) (fun hc26 => ?_)
  ·
    replace hm := bif_t hc26 hm
    refine WC_seq ?_
    refine WC_region ?_
    refine WL_op (Run_assign Opd.c) rfl rfl rfl rfl <| WL_op (Run_assign Opd.c) rfl rfl rfl rfl <| ?_
    refine WL_nil ?_
    refine At_then ?_
    refine WC_ret ?_
    refine At_then_ret <| ?_
    refine At_r2 rfl (ResIs.t rfl) (ResIs.t rfl) ?_
    cases hm
    exact ⟨rfl, (hs.re 9 [1, 2, 3] rfl)⟩
  ·
    replace hm := bif_f hc26 hm
    refine WC_skip ?_
    refine At_then ?_
    refine WC_seq ?_
    refine WC_seq ?_
    refine WC_region ?_
    refine WL_op (Run_move (Opd.t rfl)) rfl rfl rfl rfl <| WL_op (Run_lenSlG Tryd.underlying25 (Opd.t rfl) (fun hg => (hs.sl (i := 4) rfl).len)) rfl rfl rfl rfl <| WL_op (Run_move Opd.c) rfl rfl rfl rfl <| ?_
    refine WL_nil ?_
    refine At_then ?_
    refine WC_block ?_
    refine WC_loop (σ := Int) (γ := Unit) (F := (expr_read_is_L1 ops r4)) (N := FUEL) (s0 := 0) (r := r) (fun t28 (_ : Unit) w27 => Sat (box b7 60 [(.int .i64 r4.1), (S r4.2.1), (.int .i64 r4.2.2.1), (.int .i64 r4.2.2.2)] :: imm (RSl (RI .i64)) [sl v2] ops :: box b 71 [(sl v4), (.int .i64 at_), (sl v6), (.int .i64 deep), (.int .i64 bad), (.int .i64 place)] :: imm (RSl (RP (RI .i64) (RP RS (RP (RI .i64) (RI .i64))))) [sl v4] l :: imm (RSl RS) [sl v6] names :: gl 0 (keysL.map S) :: gl 1 (textsL.map S) :: Φ) w27) (fun t28 (_ : Unit) => [(6, true, (.pointer (some ⟨b7, 0, none⟩))), (25, true, (sl v2)), (26, true, (.int .i64 (List.length ops : Int))), (27, true, (.int .i64 t28))]) hm () (hs.re 9 [0, 4, 1, 2, 3, 7, 8] rfl) rfl ?_
    rintro again29 t28 _ w27 hm hs
    unfold expr_read_is_L1 at hm
    refine WC_seq ?_
    refine WC_region ?_
    refine WL_op (Run_ltI (Opd.t rfl) (Opd.t rfl)) rfl rfl rfl rfl <| ?_
    refine WL_nil ?_
    refine At_then ?_
    refine WC_seq ?_
    refine WC_cond (Opd.t rfl) (fun hc30 => ?_) (fun hc30 => ?_)
    ·
      replace hm := bif_t hc30 hm
      refine WC_skip ?_
      refine At_then ?_
      refine WC_seq ?_
      refine WC_block ?_
      refine WC_seq ?_
      refine WC_region ?_
      obtain ⟨e31, he32, hm⟩ := bind_some' hm
      refine WL_op (Run_idxAddr (p := (elA (sl v2) t28 1)) Tryd.underlying25 ti3 (Opd.t rfl) (Opd.t rfl) (fun hg => (SRd.atA (A := (RI .i64)) (v := (sl v2)) (hs.sl (i := 1) rfl) he32).1)) rfl rfl rfl rfl <| WL_op (Run_load1 (v := (.int .i64 e31)) Tryd.underlying3 rfl (Opd.t rfl) (fun hg => (SRd.cellsF (A := (RI .i64)) (v := (sl v2)) (hs.sl (i := 1) rfl) he32 (fun _ h => openT3 h)).sub 0 rfl)) rfl rfl rfl rfl <| WL_op (Run_assign (Opd.t rfl)) rfl rfl rfl rfl <| ?_
      refine WL_nil ?_
      refine At_then ?_
      refine WC_seq ?_
      refine WC_region_mixed [0, 1, 2, 0, 8, 20] (.q 0 0 (.q 1 1 (.q 2 3 (.q 3 7 (.q 4 15 (.q 5 31 .nil)))))) (by kernel_rfl) (by kernel_rfl) ?_
      intro w33 hx34
      replace hs := hs.ext hx34
      refine WD_pure (fun _ => (Run_move (Opd.t rfl))) rfl rfl rfl rfl <| ?_
      obtain ⟨e35, he36, hm⟩ := bind_some' hm
      refine WD_pure (fun _ => (Run_arrIdx Tryd.underlying65 ti9 Opd.gl (Opd.t rfl) (fun hg => idx_inB (n := 25) he36 rfl))) rfl rfl rfl rfl <| WD_op (fun w => true = true → CellsAt w ((⟨1, 0, none⟩ : Addr).add (Int.toNat e31 * 1)) [(S e35)]) (fun hg => (gl_at (A := RS) (M := fun _ => False) (hs.gl (i := 6) rfl).2 (ARd_strs _) he36 (fun _ h => openT9 h)).sub 0 rfl) (fun _ hJ => (Run_load1 (v := (S e35)) Tryd.underlying9 rfl (Opd.t rfl) hJ)) rfl rfl rfl rfl <| WD_pure (fun _ => (Run_fieldAddr fo60_1 (Opd.t rfl))) rfl rfl rfl rfl <| WD_op (fun w => CellsAt w ⟨b7, 1, none⟩ [(S r4.2.1)]) ((hs.box (i := 0) rfl).part 1 rfl) (fun _ hJ => (Run_load1 (v := (S r4.2.1)) Tryd.underlying9 rfl (Opd.t rfl) (fun _ => hJ))) rfl rfl rfl rfl <| WD_pure (fun _ => (Run_eqS (Opd.t rfl) (Opd.t rfl))) rfl rfl rfl rfl <| ?_
      refine WD_nil ?_
      refine At_then ?_
      refine WC_cond (Opd.t rfl) (fun hc37 => ?_) (fun hc37 => ?_)
      ·
        replace hm := bif_t hc37 hm
        refine WC_seq ?_
        refine WC_region ?_
        refine WL_op (Run_move (Opd.t rfl)) rfl rfl rfl rfl <| WL_op (Run_assign (Opd.t rfl)) rfl rfl rfl rfl <| WL_op (Run_assign Opd.c) rfl rfl rfl rfl <| ?_
        refine WL_nil ?_
        refine At_then ?_
        refine WC_ret ?_
        refine At_blk_ret <| At_then_ret <| At_then_ret <| At_blk_ret <| At_then_ret <| ?_
        refine At_r2 rfl (ResIs.t rfl) (ResIs.t rfl) ?_
        cases hm
        exact ⟨rfl, (hs.re 7 [2, 3, 4] rfl)⟩
      ·
        replace hm := bif_f hc37 hm
        refine WC_skip ?_
        refine At_blk_normal ?_
        refine At_then ?_
        refine WC_region ?_
        refine WL_op (Run_add (Opd.t rfl) Opd.c) rfl rfl rfl rfl <| WL_op (Run_move (Opd.t rfl)) rfl rfl rfl rfl <| ?_
        refine WL_nil ?_
        exact At_again (IntKind.i64.wrap (t28 + 1)) () hm (hs.re 7 [0, 1, 2, 3, 4, 5, 6] rfl) rfl
    ·
      replace hm := bif_f hc30 hm
      refine WC_exit ?_
      refine At_then_exit <| At_then_exit <| At_blk_here <| ?_
      refine At_then ?_
      refine WC_seq ?_
      refine WC_region ?_
      refine WL_op (Run_assign Opd.c) rfl rfl rfl rfl <| WL_op (Run_assign Opd.c) rfl rfl rfl rfl <| ?_
      refine WL_nil ?_
      refine At_then ?_
      refine WC_ret ?_
      refine At_r2 rfl (ResIs.t rfl) (ResIs.t rfl) ?_
      cases hm
      exact ⟨rfl, (hs.re 7 [2, 3, 4] rfl)⟩

end Go.Proofs.YtmeombbmhpcacaaDoor
