/- Printed by a program: the walks. -/
import Derived.Test.YtjappdgehmjomaaTypes
namespace Go.Proofs.Ytjappdgehmjomaa
open Go.Proofs

set_option maxRecDepth 100000 in
set_option maxHeartbeats 4000000 in
theorem dfa_numbers_Swap_s2_ok {Φ : Ctx} {w : World} {h : (List Int)} {i : Int} {j : Int} {v1 : SLV} {R : List Nat} {r : (List Int)} (hs : Sat (osl (RI .i64) 3 (sl v1) h R :: Φ) w) (hm : dfa_numbers_Swap_s2 h i j = some r) :
    CallsR Try.prog 69 [(sl v1), (.int .i64 i), (.int .i64 j)] w (fun v w' => v = (.tuple #[]) ∧ Sat (osl (RI .i64) 3 (sl v1) r R :: Φ) w') := by
  refine CallsX_enter Try.func69 rfl Try.ntmps69 rfl ?_
  unfold dfa_numbers_Swap_s2 at hm
  refine WC_region_mixed [0, 0, 0, 0, 0, 0, 48, 64, 0, 0, 768, 1024, 2291, 6387, 16383, 32767] (.q 0 0 (.q 1 1 (.q 2 3 (.q 3 7 (.q 4 15 (.q 5 31 (.q 6 63 (.q 7 127 (.q 8 255 (.q 9 511 (.q 10 1023 (.q 11 2047 (.q 12 4095 (.l 13 8191 (.q 14 16383 (.l 15 32767 .nil)))))))))))))))) (by kernel_rfl) (by kernel_rfl) ?_
  intro w3 hx4
  replace hs := hs.ext hx4
  refine WD_pure (fun _ => (Run_move (Opd.t rfl))) rfl rfl rfl rfl <| WD_pure (fun _ => (Run_move (Opd.t rfl))) rfl rfl rfl rfl <| WD_pure (fun _ => (Run_move (Opd.t rfl))) rfl rfl rfl rfl <| WD_pure (fun _ => (Run_move (Opd.t rfl))) rfl rfl rfl rfl <| WD_pure (fun _ => (Run_move (Opd.t rfl))) rfl rfl rfl rfl <| WD_pure (fun _ => (Run_move (Opd.t rfl))) rfl rfl rfl rfl <| ?_
  obtain ⟨e5, he6, hm⟩ := bind_some' hm
  refine WD_pure (fun _ => (Run_idxAddr (p := (elA (sl v1) j 1)) Try.underlying78 ti3 (Opd.t rfl) (Opd.t rfl) (fun hg => (Own.atA (A := (RI .i64)) (v := (sl v1)) (hs.own (i := 0) rfl) he6).1))) rfl rfl rfl rfl <| WD_op (fun w => true = true → CellsAt w (elA (sl v1) j 1) [(.int .i64 e5)]) (fun hg => (Own.cellsF (A := (RI .i64)) (v := (sl v1)) (hs.own (i := 0) rfl) he6 (fun _ h => openT3 h)).sub 0 rfl) (fun _ hJ => (Run_load1 (v := (.int .i64 e5)) Try.underlying3 rfl (Opd.t rfl) hJ)) rfl rfl rfl rfl <| WD_pure (fun _ => (Run_move (Opd.t rfl))) rfl rfl rfl rfl <| WD_pure (fun _ => (Run_move (Opd.t rfl))) rfl rfl rfl rfl <| ?_
  obtain ⟨e7, he8, hm⟩ := bind_some' hm
  refine WD_pure (fun _ => (Run_idxAddr (p := (elA (sl v1) i 1)) Try.underlying78 ti3 (Opd.t rfl) (Opd.t rfl) (fun hg => (Own.atA (A := (RI .i64)) (v := (sl v1)) (hs.own (i := 0) rfl) he8).1))) rfl rfl rfl rfl <| WD_op (fun w => true = true → CellsAt w (elA (sl v1) i 1) [(.int .i64 e7)]) (fun hg => (Own.cellsF (A := (RI .i64)) (v := (sl v1)) (hs.own (i := 0) rfl) he8 (fun _ h => openT3 h)).sub 0 rfl) (fun _ hJ => (Run_load1 (v := (.int .i64 e7)) Try.underlying3 rfl (Opd.t rfl) hJ)) rfl rfl rfl rfl <| ?_
  obtain ⟨e9, he10, hm⟩ := bind_some' hm
  refine WD_pure (fun _ => (Run_idxAddr (p := (elA (sl v1) i 1)) Try.underlying78 ti3 (Opd.t rfl) (Opd.t rfl) (fun hg => (Own.atA (A := (RI .i64)) (v := (sl v1)) (hs.own (i := 0) rfl) he10).1))) rfl rfl rfl rfl <| ?_
  refine WD_loud (pend' := []) rfl (by kernel_rfl) ?_
  refine WS_storeElA (A := (RI .i64)) (us := [(.int .i64 e5)]) (u := e5) hs 0 rfl ti3 (idx_inB he10 (by simp)) (Opd.t rfl) (Opd.t rfl) rfl rfl rfl rfl rfl ?_
  intro w11 hs
  replace hs := Sat.n1 (Γ := Φ) hs rfl
  refine WL_nil ?_
  refine At_QK allJ_nil ?_
  obtain ⟨e12, he13, hm⟩ := bind_some' hm
  refine WD_pure (fun _ => (Run_idxAddr (p := (elA (sl v1) j 1)) Try.underlying78 ti3 (Opd.t rfl) (Opd.t rfl) (fun hg => (Own.atA (A := (RI .i64)) (v := (sl v1)) (hs.own (i := 0) rfl) he13).1))) rfl rfl rfl rfl <| ?_
  refine WD_loud (pend' := []) rfl (by kernel_rfl) ?_
  refine WS_storeElA (A := (RI .i64)) (us := [(.int .i64 e7)]) (u := e7) hs 0 rfl ti3 (idx_inB he13 (by simp)) (Opd.t rfl) (Opd.t rfl) rfl rfl rfl rfl rfl ?_
  intro w14 hs
  replace hs := Sat.n1 (Γ := Φ) hs rfl
  refine WL_nil ?_
  refine At_QK allJ_nil ?_
  refine WD_nil ?_
  refine At_e0 rfl  ?_
  cases hm
  exact ⟨rfl, (hs.re 1 [0] rfl)⟩

set_option maxRecDepth 100000 in
set_option maxHeartbeats 4000000 in
theorem dfa_numbers_Less_s2_ok {Φ : Ctx} {w : World} {h : (List Int)} {i : Int} {j : Int} {v1 : SLV} {R : List Nat} {r : Bool} (hs : Sat (osl (RI .i64) 3 (sl v1) h R :: Φ) w) (hm : dfa_numbers_Less_s2 h i j = some r) :
    CallsR Try.prog 68 [(sl v1), (.int .i64 i), (.int .i64 j)] w (fun v w' => v = (.bool r) ∧ Sat (osl (RI .i64) 3 (sl v1) h R :: Φ) w') := by
  refine CallsX_enter Try.func68 rfl Try.ntmps68 rfl ?_
  unfold dfa_numbers_Less_s2 at hm
  refine WC_seq ?_
  refine WC_region ?_
  refine WL_op (Run_assign Opd.c) rfl rfl rfl rfl <| ?_
  refine WL_nil ?_
  refine At_then ?_
  refine WC_seq ?_
  refine WC_region_mixed [0, 0, 3, 4, 0, 0, 48, 64, 136, 511] (.q 0 0 (.q 1 1 (.q 2 3 (.q 3 7 (.q 4 15 (.q 5 31 (.q 6 63 (.q 7 127 (.q 8 255 (.q 9 511 .nil)))))))))) (by kernel_rfl) (by kernel_rfl) ?_
  intro w3 hx4
  replace hs := hs.ext hx4
  refine WD_pure (fun _ => (Run_move (Opd.t rfl))) rfl rfl rfl rfl <| WD_pure (fun _ => (Run_move (Opd.t rfl))) rfl rfl rfl rfl <| ?_
  obtain ⟨e5, he6, hm⟩ := bind_some' hm
  refine WD_pure (fun _ => (Run_idxAddr (p := (elA (sl v1) i 1)) Try.underlying78 ti3 (Opd.t rfl) (Opd.t rfl) (fun hg => (Own.atA (A := (RI .i64)) (v := (sl v1)) (hs.own (i := 0) rfl) he6).1))) rfl rfl rfl rfl <| WD_op (fun w => true = true → CellsAt w (elA (sl v1) i 1) [(.int .i64 e5)]) (fun hg => (Own.cellsF (A := (RI .i64)) (v := (sl v1)) (hs.own (i := 0) rfl) he6 (fun _ h => openT3 h)).sub 0 rfl) (fun _ hJ => (Run_load1 (v := (.int .i64 e5)) Try.underlying3 rfl (Opd.t rfl) hJ)) rfl rfl rfl rfl <| WD_pure (fun _ => (Run_move (Opd.t rfl))) rfl rfl rfl rfl <| WD_pure (fun _ => (Run_move (Opd.t rfl))) rfl rfl rfl rfl <| ?_
  obtain ⟨e7, he8, hm⟩ := bind_some' hm
  refine WD_pure (fun _ => (Run_idxAddr (p := (elA (sl v1) j 1)) Try.underlying78 ti3 (Opd.t rfl) (Opd.t rfl) (fun hg => (Own.atA (A := (RI .i64)) (v := (sl v1)) (hs.own (i := 0) rfl) he8).1))) rfl rfl rfl rfl <| WD_op (fun w => true = true → CellsAt w (elA (sl v1) j 1) [(.int .i64 e7)]) (fun hg => (Own.cellsF (A := (RI .i64)) (v := (sl v1)) (hs.own (i := 0) rfl) he8 (fun _ h => openT3 h)).sub 0 rfl) (fun _ hJ => (Run_load1 (v := (.int .i64 e7)) Try.underlying3 rfl (Opd.t rfl) hJ)) rfl rfl rfl rfl <| WD_pure (fun _ => (Run_ltI (Opd.t rfl) (Opd.t rfl))) rfl rfl rfl rfl <| WD_pure (fun _ => (Run_assign (Opd.t rfl))) rfl rfl rfl rfl <| ?_
  refine WD_nil ?_
  refine At_then ?_
  refine WC_ret ?_
  refine At_r1 rfl (ResIs.t rfl) ?_
  cases hm
  exact ⟨rfl, (hs.re 1 [0] rfl)⟩

set_option maxRecDepth 100000 in
set_option maxHeartbeats 4000000 in
theorem container_heap_down_ok {Φ : Ctx} {w : World} {i0 : Int} {n : Int} {h : (List Int)} {b : Nat} {v2 : SLV} {R : List Nat} {r : (Bool × (List Int))} (hs : Sat (box b 78 [(sl v2)] :: osl (RI .i64) 3 (sl v2) h R :: Φ) w) (hm : container_heap_down i0 n h = some r) :
    CallsR Try.prog 49 [(.iface 80 (.pointer (some ⟨b, 0, none⟩))), (.int .i64 i0), (.int .i64 n)] w (fun v w' => v = (.bool r.1) ∧ Sat (box b 78 [(sl v2)] :: osl (RI .i64) 3 (sl v2) r.2 R :: Φ) w') := by
  refine CallsX_enter Try.func49 rfl Try.ntmps49 rfl ?_
  unfold container_heap_down at hm
  refine WC_seq ?_
  refine WC_region ?_
  refine WL_op (Run_assign Opd.c) rfl rfl rfl rfl <| ?_
  refine WL_nil ?_
  refine At_then ?_
  refine WC_seq ?_
  refine WC_region ?_
  refine WL_op (Run_move (Opd.t rfl)) rfl rfl rfl rfl <| WL_op (Run_assign (Opd.t rfl)) rfl rfl rfl rfl <| ?_
  refine WL_nil ?_
  refine At_then ?_
  refine WC_seq ?_
  refine WC_block ?_
  refine WC_loop (σ := (List Int) × Int) (γ := Unit) (F := (container_heap_down_L1 i0 n)) (N := FUEL) (s0 := (h, i0)) (r := r) (fun ⟨l5, i6⟩ (_ : Unit) w4 => Sat (box b 78 [(sl v2)] :: osl (RI .i64) 3 (sl v2) l5 R :: Φ) w4) (fun ⟨l5, i6⟩ (_ : Unit) => [(0, true, (.iface 80 (.pointer (some ⟨b, 0, none⟩)))), (1, true, (.int .i64 i0)), (2, true, (.int .i64 n)), (7, true, (.int .i64 i6))]) hm () (hs.re 2 [0, 1] rfl) rfl ?_
  rintro again7 ⟨l5, i6⟩ _ w4 hm hs
  unfold container_heap_down_L1 at hm
  dsimp only at hm
  refine WC_block ?_
  refine WC_seq ?_
  refine WC_region ?_
  refine WL_op (Run_move (Opd.t rfl)) rfl rfl rfl rfl <| WL_op (Run_mul Opd.c (Opd.t rfl)) rfl rfl rfl rfl <| WL_op (Run_add (Opd.t rfl) Opd.c) rfl rfl rfl rfl <| WL_op (Run_assign (Opd.t rfl)) rfl rfl rfl rfl <| ?_
  refine WL_nil ?_
  refine At_then ?_
  refine WC_seq ?_
  refine WC_seq ?_
  refine WC_region ?_
  refine WL_op (Run_move (Opd.t rfl)) rfl rfl rfl rfl <| WL_op (Run_move (Opd.t rfl)) rfl rfl rfl rfl <| ?_
  obtain ⟨b8, e9, hm⟩ := letv_some hm
  refine WL_op (Run.eqB (Run_geI (Opd.t rfl) (Opd.t rfl)) e9) rfl rfl rfl rfl <| WL_op (Run_move (Opd.t rfl)) rfl rfl rfl rfl <| WL_opG rfl rfl rfl rfl guard_neg (Run_move (Opd.t rfl)) rfl rfl rfl <| ?_
  obtain ⟨b10, e11, hm⟩ := letv_some hm
  refine WL_opG rfl rfl rfl rfl guard_neg (Run.eqB (Run_ltI (Opd.g rfl id) Opd.c) e11) rfl rfl rfl <| ?_
  obtain ⟨b12, e13, hm⟩ := letv_some hm
  refine WL_op (Run.eqB (Run_or (Opd.t rfl) (Opd.g rfl id)) e13) rfl rfl rfl rfl <| ?_
  refine WL_nil ?_
  refine At_then ?_
  refine WC_cond (Opd.t rfl) (fun hc14 => ?_) (fun hc14 => ?_)
  ·
    replace hm := bif_t hc14 hm
    refine WC_exit ?_
    refine At_then_exit <| At_blk_other rfl <| At_then_exit <| At_blk_here <| ?_
    refine At_then ?_
    refine WC_seq ?_
    refine WC_region ?_
    refine WL_op (Run_move (Opd.t rfl)) rfl rfl rfl rfl <| WL_op (Run_move (Opd.t rfl)) rfl rfl rfl rfl <| WL_op (Run_gtI (Opd.t rfl) (Opd.t rfl)) rfl rfl rfl rfl <| WL_op (Run_assign (Opd.t rfl)) rfl rfl rfl rfl <| ?_
    refine WL_nil ?_
    refine At_then ?_
    refine WC_ret ?_
    refine At_r1 rfl (ResIs.t rfl) ?_
    cases hm
    exact ⟨rfl, (hs.re 2 [0, 1] rfl)⟩
  ·
    replace hm := bif_f hc14 hm
    refine WC_skip ?_
    refine At_then ?_
    refine WC_seq ?_
    refine WC_region ?_
    refine WL_op (Run_move (Opd.t rfl)) rfl rfl rfl rfl <| WL_op (Run_assign (Opd.t rfl)) rfl rfl rfl rfl <| ?_
    refine WL_nil ?_
    refine At_then ?_
    refine WC_seq_cut (γ := Int) (fun j16 w15 => container_heap_down_K2 i0 l5 i6 again7 j16 = some r ∧ Sat (box b 78 [(sl v2)] :: osl (RI .i64) 3 (sl v2) l5 R :: Φ) w15) (fun j16 => [(0, true, (.iface 80 (.pointer (some ⟨b, 0, none⟩)))), (1, true, (.int .i64 i0)), (2, true, (.int .i64 n)), (7, true, (.int .i64 i6)), (9, true, (.int .i64 j16))]) ?_ ?_
    ·
      rintro j16 w15 ⟨hm, hs⟩
      unfold container_heap_down_K2 at hm
      refine WC_seq ?_
      refine WC_seq ?_
      refine WC_region ?_
      refine WL_op (Run_move (Opd.t rfl)) rfl rfl rfl rfl <| WL_op (Run_move (Opd.t rfl)) rfl rfl rfl rfl <| WL_op (Run_move (Opd.t rfl)) rfl rfl rfl rfl <| ?_
      obtain ⟨r17, hr18, hm⟩ := bind_some' hm
      refine WL_inv (f := 68) (t := 80) (u := (.pointer (some ⟨b, 0, none⟩))) (u' := (sl v2)) (name := "Less") (xs := [(.tmp 36), (.tmp 37)]) (vs := [(.int .i64 j16), (.int .i64 i6)]) (args := [(sl v2), (.int .i64 j16), (.int .i64 i6)]) Try.call68 (Opd.t rfl) (Reach.load me80_Less Try.underlying80 (run_load1 (v := (sl v2)) Try.underlying78 rfl (CellsAt.cell0 ((hs.box (i := 0) rfl).part (us := [(sl v2)]) 0 rfl) rfl))) (.cons (Opd.t rfl) (.cons (Opd.t rfl) .nil)) rfl rfl (dfa_numbers_Less_s2_ok (hs.re 2 [1, 0] rfl) hr18) ?_
      rintro _ w19 ⟨rfl, hs⟩
      replace hs := Sat.n2 (Γ := Φ) hs rfl
      refine WL_op (Run_notB (Opd.t rfl)) rfl rfl rfl rfl <| ?_
      refine WL_nil ?_
      refine At_then ?_
      refine WC_cond (Opd.t rfl) (fun hc20 => ?_) (fun hc20 => ?_)
      ·
        replace hm := bif_t hc20 hm
        refine WC_exit ?_
        refine At_then_exit <| At_blk_other rfl <| At_then_exit <| At_blk_here <| ?_
        refine At_then ?_
        refine WC_seq ?_
        refine WC_region ?_
        refine WL_op (Run_move (Opd.t rfl)) rfl rfl rfl rfl <| WL_op (Run_move (Opd.t rfl)) rfl rfl rfl rfl <| WL_op (Run_gtI (Opd.t rfl) (Opd.t rfl)) rfl rfl rfl rfl <| WL_op (Run_assign (Opd.t rfl)) rfl rfl rfl rfl <| ?_
        refine WL_nil ?_
        refine At_then ?_
        refine WC_ret ?_
        refine At_r1 rfl (ResIs.t rfl) ?_
        cases hm
        exact ⟨rfl, (hs.re 2 [1, 0] rfl)⟩
      ·
        replace hm := bif_f hc20 hm
        refine WC_skip ?_
        refine At_then ?_
        refine WC_seq ?_
        refine WC_region ?_
        refine WL_op (Run_move (Opd.t rfl)) rfl rfl rfl rfl <| WL_op (Run_move (Opd.t rfl)) rfl rfl rfl rfl <| WL_op (Run_move (Opd.t rfl)) rfl rfl rfl rfl <| ?_
        obtain ⟨r21, hr22, hm⟩ := bind_some' hm
        refine WL_inv (f := 69) (t := 80) (u := (.pointer (some ⟨b, 0, none⟩))) (u' := (sl v2)) (name := "Swap") (xs := [(.tmp 41), (.tmp 42)]) (vs := [(.int .i64 i6), (.int .i64 j16)]) (args := [(sl v2), (.int .i64 i6), (.int .i64 j16)]) Try.call69 (Opd.t rfl) (Reach.load me80_Swap Try.underlying80 (run_load1 (v := (sl v2)) Try.underlying78 rfl (CellsAt.cell0 ((hs.box (i := 1) rfl).part (us := [(sl v2)]) 0 rfl) rfl))) (.cons (Opd.t rfl) (.cons (Opd.t rfl) .nil)) rfl rfl (dfa_numbers_Swap_s2_ok (hs.re 2 [0, 1] rfl) hr22) ?_
        rintro _ w23 ⟨rfl, hs⟩
        replace hs := Sat.n2 (Γ := Φ) hs rfl
        refine WL_nil ?_
        refine At_then ?_
        refine WC_region ?_
        refine WL_op (Run_move (Opd.t rfl)) rfl rfl rfl rfl <| WL_op (Run_assign (Opd.t rfl)) rfl rfl rfl rfl <| ?_
        refine WL_nil ?_
        refine At_blk_normal ?_
        exact At_again (r21, j16) () hm (hs.re 2 [1, 0] rfl) rfl
    ·
      refine WC_seq ?_
      refine WC_region ?_
      refine WL_op (Run_move (Opd.t rfl)) rfl rfl rfl rfl <| WL_op (Run_add (Opd.t rfl) Opd.c) rfl rfl rfl rfl <| WL_op (Run_assign (Opd.t rfl)) rfl rfl rfl rfl <| ?_
      refine WL_nil ?_
      refine At_then ?_
      refine WC_seq ?_
      refine WC_region ?_
      refine WL_op (Run_move (Opd.t rfl)) rfl rfl rfl rfl <| WL_op (Run_move (Opd.t rfl)) rfl rfl rfl rfl <| ?_
      obtain ⟨b24, e25, hm⟩ := letv_some hm
      refine WL_op (Run.eqB (Run_ltI (Opd.t rfl) (Opd.t rfl)) e25) rfl rfl rfl rfl <| WL_op (Run_move (Opd.t rfl)) rfl rfl rfl rfl <| WL_opG rfl rfl rfl rfl guard_pos (Run_move (Opd.t rfl)) rfl rfl rfl <| WL_opG rfl rfl rfl rfl guard_pos (Run_move (Opd.t rfl)) rfl rfl rfl <| WL_opG rfl rfl rfl rfl guard_pos (Run_move (Opd.t rfl)) rfl rfl rfl <| ?_
      obtain ⟨r26, hr27, -, hm⟩ := callG_some hm
      refine WL_invG rfl rfl rfl guard_pos (f := 68) (t := 80) (u := (.pointer (some ⟨b, 0, none⟩))) (u' := (sl v2)) (name := "Less") (xs := [(.tmp 30), (.tmp 31)]) (vs := [(.int .i64 (IntKind.i64.wrap ((IntKind.i64.wrap ((IntKind.i64.wrap (2 * i6)) + 1)) + 1))), (.int .i64 (IntKind.i64.wrap ((IntKind.i64.wrap (2 * i6)) + 1)))]) (args := [(sl v2), (.int .i64 (IntKind.i64.wrap ((IntKind.i64.wrap ((IntKind.i64.wrap (2 * i6)) + 1)) + 1))), (.int .i64 (IntKind.i64.wrap ((IntKind.i64.wrap (2 * i6)) + 1)))]) Try.call68 (Opd.g rfl id) (fun _ => (Reach.load me80_Less Try.underlying80 (run_load1 (v := (sl v2)) Try.underlying78 rfl (CellsAt.cell0 ((hs.box (i := 0) rfl).part (us := [(sl v2)]) 0 rfl) rfl)))) (.cons (Opd.g rfl id) (.cons (Opd.g rfl id) .nil)) rfl rfl (fun hg => dfa_numbers_Less_s2_ok (hs.re 2 [1, 0] rfl) (hr27 hg)) ?_
      intro v29 w28 hv30 hz31
      replace hs := Sat.ofG (fun hg => (hv30 hg).2.re 2 [1, 0] rfl) hz31 hs
      refine WL_sub1 (v := (.bool r26)) (fun hg => (hv30 hg).1) ?_
      replace hs := Sat.n2 (Γ := Φ) hs rfl
      obtain ⟨b32, e33, hm⟩ := letv_some hm
      refine WL_op (Run.eqB (Run_and (Opd.t rfl) (Opd.g rfl id)) e33) rfl rfl rfl rfl <| ?_
      refine WL_nil ?_
      refine At_then ?_
      refine WC_cond (Opd.t rfl) (fun hc34 => ?_) (fun hc34 => ?_)
      ·
        replace hm := bif_t hc34 hm
        refine WC_region ?_
        refine WL_op (Run_move (Opd.t rfl)) rfl rfl rfl rfl <| WL_op (Run_assign (Opd.t rfl)) rfl rfl rfl rfl <| ?_
        refine WL_nil ?_
        exact At_join (IntKind.i64.wrap ((IntKind.i64.wrap ((IntKind.i64.wrap (2 * i6)) + 1)) + 1)) ⟨hm, (hs.re 2 [0, 1] rfl)⟩ rfl
      ·
        replace hm := bif_f hc34 hm
        refine WC_skip ?_
        exact At_join (IntKind.i64.wrap ((IntKind.i64.wrap (2 * i6)) + 1)) ⟨hm, (hs.re 2 [0, 1] rfl)⟩ rfl

set_option maxRecDepth 100000 in
set_option maxHeartbeats 4000000 in
theorem dfa_numbers_Pop_ok {Φ : Ctx} {w : World} {h : (List Int)} {b : Nat} {v2 : SLV} {R : List Nat} {r : (Int × (List Int))} (hs : Sat (box b 78 [(sl v2)] :: osl (RI .i64) 3 (sl v2) h R :: Φ) w) (hm : dfa_numbers_Pop h = some r) :
    CallsR Try.prog 70 [(.pointer (some ⟨b, 0, none⟩))] w (fun v w' => ∃ v11 : SLV, ∃ R12 : List Nat, v = (.iface 3 (.int .i64 r.1)) ∧ Sat (box b 78 [(sl v11)] :: osl (RI .i64) 3 (sl v11) r.2 R12 :: Φ) w') := by
  refine CallsX_enter Try.func70 rfl Try.ntmps70 rfl ?_
  unfold dfa_numbers_Pop at hm
  refine WC_seq ?_
  refine WC_region ?_
  refine WL_op (Run_assign Opd.c) rfl rfl rfl rfl <| ?_
  refine WL_nil ?_
  refine At_then ?_
  refine WC_seq ?_
  refine WC_region ?_
  refine WL_op (Run_move (Opd.t rfl)) rfl rfl rfl rfl <| WL_op (Run_nilP (Opd.t rfl)) rfl rfl rfl rfl <| WL_op (Run_load1 (v := (sl v2)) Try.underlying78 rfl (Opd.t rfl) (fun _ => (hs.box (i := 0) rfl).part 0 rfl)) rfl rfl rfl rfl <| WL_op (Run_lenSlG Try.underlying78 (Opd.t rfl) (fun _ => (hs.own (i := 1) rfl).len)) rfl rfl rfl rfl <| WL_op (Run_sub (Opd.t rfl) Opd.c) rfl rfl rfl rfl <| WL_op (Run_assign (Opd.t rfl)) rfl rfl rfl rfl <| ?_
  refine WL_nil ?_
  refine At_then ?_
  refine WC_seq ?_
  refine WC_region ?_
  refine WL_op (Run_move (Opd.t rfl)) rfl rfl rfl rfl <| WL_op (Run_nilP (Opd.t rfl)) rfl rfl rfl rfl <| WL_op (Run_load1 (v := (sl v2)) Try.underlying78 rfl (Opd.t rfl) (fun _ => (hs.box (i := 0) rfl).part 0 rfl)) rfl rfl rfl rfl <| WL_op (Run_move (Opd.t rfl)) rfl rfl rfl rfl <| ?_
  obtain ⟨e1, he2, hm⟩ := bind_some' hm
  refine WL_op (Run_idxAddr (p := (elA (sl v2) (IntKind.i64.wrap ((List.length h : Int) - 1)) 1)) Try.underlying78 ti3 (Opd.t rfl) (Opd.t rfl) (fun hg => (Own.atA (A := (RI .i64)) (v := (sl v2)) (hs.own (i := 1) rfl) he2).1)) rfl rfl rfl rfl <| WL_op (Run_load1 (v := (.int .i64 e1)) Try.underlying3 rfl (Opd.t rfl) (fun hg => (Own.cellsF (A := (RI .i64)) (v := (sl v2)) (hs.own (i := 1) rfl) he2 (fun _ h => openT3 h)).sub 0 rfl)) rfl rfl rfl rfl <| WL_op (Run_assign (Opd.t rfl)) rfl rfl rfl rfl <| ?_
  refine WL_nil ?_
  refine At_then ?_
  refine WC_seq ?_
  refine WC_region ?_
  refine WL_op (Run_move (Opd.t rfl)) rfl rfl rfl rfl <| WL_op (Run_move (Opd.t rfl)) rfl rfl rfl rfl <| WL_op (Run_nilP (Opd.t rfl)) rfl rfl rfl rfl <| WL_op (Run_load1 (v := (sl v2)) Try.underlying78 rfl (Opd.t rfl) (fun _ => (hs.box (i := 0) rfl).part 0 rfl)) rfl rfl rfl rfl <| WL_op (Run_move (Opd.t rfl)) rfl rfl rfl rfl <| ?_
  obtain ⟨k3, hm⟩ := chk_some hm
  have hl6 := ((hs.own (i := 1) rfl).len)
  obtain ⟨v5, hv4, hs⟩ := hs.cutOwn (i := 1) rfl k3
  refine WL_op (Run_cutSl (lo := none) (hi := (some (.tmp 20))) Try.underlying78 ti3 (Opd.t rfl) (fun _ => hl6) rfl ⟨_, (Opd.t rfl)⟩ (fun _ => hv4)) rfl rfl rfl rfl <| WL_op (Run_nilP (Opd.t rfl)) rfl rfl rfl rfl <| ?_
  refine WS_store (us := [(sl v5)]) (vs' := [(sl v5)]) hs 0 rfl ti78 (Opd.t rfl) (Opd.t rfl) rfl rfl rfl rfl rfl ?_
  intro w7 hs
  replace hs := Sat.n2 (Γ := Φ) hs rfl
  refine WL_nil ?_
  refine At_then ?_
  refine WC_seq ?_
  refine WC_region ?_
  refine WL_op (Run_move (Opd.t rfl)) rfl rfl rfl rfl <| WL_op (Run_mkIface Try.underlying3 rfl (Opd.t rfl)) rfl rfl rfl rfl <| WL_op (Run_assign (Opd.t rfl)) rfl rfl rfl rfl <| ?_
  refine WL_nil ?_
  refine At_then ?_
  refine WC_ret ?_
  refine At_r1 rfl (ResIs.t rfl) ?_
  cases hm
  exact ⟨v5, R, rfl, (hs.re 2 [0, 1] rfl)⟩

end Go.Proofs.Ytjappdgehmjomaa
