/- Printed by a program: the walks. -/
import Derived.Test.YtjappdgehmjomaaTypes
import Derived.Test.YtjappdgehmjomaaWalk10
namespace Go.Proofs.Ytjappdgehmjomaa
open Go.Proofs

set_option maxRecDepth 100000 in
set_option maxHeartbeats 4000000 in
theorem scrutinyref09_Insert_ok {Φ : Ctx} {w : World} {s : (Int × (List (List Int)))} {w3 : (List Int)} {v1 : SLV} {v4 : SLV} {r : ((Int × (List (List Int))) × Bool × Int)} (hs : Sat (imm (RSl (RSl (RI .u8))) [sl v1] s.2 :: imm (RSl (RI .u8)) [sl v4] w3 :: Φ) w) (hm : scrutinyref09_Insert s w3 = some r) :
    CallsR Try.prog 14 [(.agg #[(.int .i64 s.1), (sl v1)]), (sl v4)] w (fun v w' => ∃ v3 : SLV, v = (.tuple #[(.agg #[(.int .i64 r.1.1), (sl v3)]), (.bool r.2.1), (.int .i64 r.2.2)]) ∧ Sat (imm (RSl (RSl (RI .u8))) [sl v3] r.1.2 :: Φ) w') := by
  refine CallsX_enter Try.func14 rfl Try.ntmps14 rfl ?_
  unfold scrutinyref09_Insert at hm
  refine WC_seq ?_
  refine WC_region ?_
  refine WS_box (zs := [(.int .i64 s.1), (sl v1)]) hs (Opd.t rfl) rfl rfl ?_
  intro b6 w7 hs
  replace hs := Sat.n3 (Γ := Φ) hs rfl
  refine WS_alloc (zs := [(.int .i64 0), (sl (none, 0, 0))]) hs ti34 rfl rfl ?_
  intro b8 w9 hs
  replace hs := Sat.n4 (Γ := Φ) hs rfl
  refine WL_op (Run_assign Opd.c) rfl rfl rfl rfl <| WL_op (Run_assign Opd.c) rfl rfl rfl rfl <| ?_
  refine WL_nil ?_
  refine At_then ?_
  refine WC_seq ?_
  refine WC_seq ?_
  refine WC_region ?_
  refine WL_op (Run_move (Opd.t rfl)) rfl rfl rfl rfl <| WL_op (Run_lenSlG Try.underlying23 (Opd.t rfl) (fun hg => (hs.sl (i := 3) rfl).len)) rfl rfl rfl rfl <| WL_op (Run_fieldAddr fo34_0 (Opd.t rfl)) rfl rfl rfl rfl <| WL_op (Run_load1 (v := (.int .i64 s.1)) Try.underlying3 rfl (Opd.t rfl) (fun _ => (hs.box (i := 1) rfl).part 0 rfl)) rfl rfl rfl rfl <| WL_op (Run_neI (Opd.t rfl) (Opd.t rfl)) rfl rfl rfl rfl <| ?_
  refine WL_nil ?_
  refine At_then ?_
  refine WC_cond (Opd.t rfl) (fun hc10 => ?_) (fun hc10 => ?_)
  ·
    replace hm := bif_t hc10 hm
    refine WC_seq ?_
    refine WC_region ?_
    refine WL_op (Run_loadA (vs := [(.int .i64 s.1), (sl v1)]) Try.underlying34 rfl ti34 (Opd.t rfl) (fun _ => (hs.box (i := 1) rfl).part 0 rfl) rfl) rfl rfl rfl rfl <| ?_
    refine WS_store (us := [(.int .i64 s.1), (sl v1)]) (vs' := [(.int .i64 s.1), (sl v1)]) hs 0 rfl ti34 (Opd.t rfl) (Opd.t rfl) rfl rfl rfl rfl rfl ?_
    intro w11 hs
    replace hs := Sat.n4 (Γ := Φ) hs rfl
    refine WL_op (Run_assign Opd.c) rfl rfl rfl rfl <| WL_op (Run_assign Opd.c) rfl rfl rfl rfl <| ?_
    refine WL_nil ?_
    refine At_then ?_
    refine WC_ret ?_
    refine At_then_ret <| ?_
    refine At_r3 rfl (ResIs.cA (vs := [(.int .i64 s.1), (sl v1)]) rfl Try.underlying34 rfl ti34 ((hs.box (i := 0) rfl).part 0 rfl) rfl) (ResIs.t rfl) (ResIs.t rfl) ?_
    cases hm
    exact ⟨v1, rfl, (hs.re 4 [2] rfl)⟩
  ·
    replace hm := bif_f hc10 hm
    refine WC_skip ?_
    refine At_then ?_
    refine WC_seq ?_
    refine WC_region ?_
    refine WL_op (Run_loadA (vs := [(.int .i64 s.1), (sl v1)]) Try.underlying34 rfl ti34 (Opd.t rfl) (fun _ => (hs.box (i := 1) rfl).part 0 rfl) rfl) rfl rfl rfl rfl <| WL_op (Run_move (Opd.t rfl)) rfl rfl rfl rfl <| ?_
    obtain ⟨r12, hr13, hm⟩ := bind_some' hm
    refine WL_call (f := 21) (first := []) (cap := []) (xs := [(.tmp 17), (.tmp 18)]) (vs := [(.agg #[(.int .i64 s.1), (sl v1)]), (sl v4)]) (args := [(.agg #[(.int .i64 s.1), (sl v1)]), (sl v4)]) Try.call21 Opd.f (.cons (Opd.t rfl) (.cons (Opd.t rfl) .nil)) rfl rfl (scrutinyref09_Has_ok (hs.re 4 [2, 3, 0, 1, 2, 3] rfl) hr13) ?_
    rintro _ w14 ⟨rfl, hs⟩
    replace hs := Sat.n4 (Γ := Φ) hs rfl
    refine WL_op (Run_assign (Opd.t rfl)) rfl rfl rfl rfl <| ?_
    refine WL_nil ?_
    refine At_then ?_
    refine WC_seq ?_
    refine WC_seq ?_
    refine WC_region ?_
    refine WL_op (Run_move (Opd.t rfl)) rfl rfl rfl rfl <| ?_
    refine WL_nil ?_
    refine At_then ?_
    refine WC_cond (Opd.t rfl) (fun hc15 => ?_) (fun hc15 => ?_)
    ·
      replace hm := bif_t hc15 hm
      refine WC_seq ?_
      refine WC_region ?_
      refine WL_op (Run_loadA (vs := [(.int .i64 s.1), (sl v1)]) Try.underlying34 rfl ti34 (Opd.t rfl) (fun _ => (hs.box (i := 1) rfl).part 0 rfl) rfl) rfl rfl rfl rfl <| ?_
      refine WS_store (us := [(.int .i64 s.1), (sl v1)]) (vs' := [(.int .i64 s.1), (sl v1)]) hs 0 rfl ti34 (Opd.t rfl) (Opd.t rfl) rfl rfl rfl rfl rfl ?_
      intro w16 hs
      replace hs := Sat.n4 (Γ := Φ) hs rfl
      refine WL_op (Run_assign Opd.c) rfl rfl rfl rfl <| WL_op (Run_assign Opd.c) rfl rfl rfl rfl <| ?_
      refine WL_nil ?_
      refine At_then ?_
      refine WC_ret ?_
      refine At_then_ret <| ?_
      refine At_r3 rfl (ResIs.cA (vs := [(.int .i64 s.1), (sl v1)]) rfl Try.underlying34 rfl ti34 ((hs.box (i := 0) rfl).part 0 rfl) rfl) (ResIs.t rfl) (ResIs.t rfl) ?_
      cases hm
      exact ⟨v1, rfl, (hs.re 4 [2] rfl)⟩
    ·
      replace hm := bif_f hc15 hm
      refine WC_skip ?_
      refine At_then ?_
      refine WC_seq ?_
      refine WC_region ?_
      refine WL_op (Run_assign Opd.c) rfl rfl rfl rfl <| ?_
      refine WL_nil ?_
      refine At_then ?_
      refine WC_seq ?_
      refine WC_region ?_
      refine WL_op (Run_assign Opd.c) rfl rfl rfl rfl <| ?_
      refine WL_nil ?_
      refine At_then ?_
      refine WC_seq ?_
      refine WC_seq ?_
      refine WC_region ?_
      refine WL_op (Run_assign Opd.c) rfl rfl rfl rfl <| ?_
      refine WL_nil ?_
      refine At_then ?_
      refine WC_block ?_
      replace hs := hs.addNil (RSl (RI .u8)) 23
      refine WC_loop (σ := (List (List Int)) × Bool × Int) (γ := SLV × List Nat) (F := (scrutinyref09_Insert_L1 s w3)) (N := FUEL) (s0 := ([], false, 0)) (r := r) (fun ⟨l18, laid21, i22⟩ ⟨v19, R20⟩ w17 => Sat (imm (RSl (RI .u8)) [sl v4] w3 :: box b6 34 [(.int .i64 s.1), (sl v1)] :: imm (RSl (RSl (RI .u8))) [sl v1] s.2 :: box b8 34 [(.int .i64 0), (sl (none, 0, 0))] :: osl (RSl (RI .u8)) 23 (sl v19) l18 R20 :: Φ) w17) (fun ⟨l18, laid21, i22⟩ ⟨v19, R20⟩ => [(1, true, (sl v4)), (2, true, (.pointer (some ⟨b6, 0, none⟩))), (4, true, (.pointer (some ⟨b8, 0, none⟩))), (8, true, (sl v19)), (9, true, (.bool laid21)), (10, true, (.int .i64 i22))]) hm ((none, 0, 0), []) (hs.re 5 [4, 2, 3, 1, 0] rfl) rfl ?_
      rintro again23 ⟨l18, laid21, i22⟩ ⟨v19, R20⟩ w17 hm hs
      unfold scrutinyref09_Insert_L1 at hm
      dsimp only at hm
      refine WC_seq ?_
      refine WC_seq ?_
      refine WC_region ?_
      refine WL_op (Run_move (Opd.t rfl)) rfl rfl rfl rfl <| WL_op (Run_fieldAddr fo34_1 (Opd.t rfl)) rfl rfl rfl rfl <| WL_op (Run_load1 (v := (sl v1)) Try.underlying22 rfl (Opd.t rfl) (fun _ => (hs.box (i := 1) rfl).part 1 rfl)) rfl rfl rfl rfl <| WL_op (Run_lenSlG Try.underlying22 (Opd.t rfl) (fun hg => (hs.sl (i := 2) rfl).len)) rfl rfl rfl rfl <| WL_op (Run_ltI (Opd.t rfl) (Opd.t rfl)) rfl rfl rfl rfl <| ?_
      refine WL_nil ?_
      refine At_then ?_
      refine WC_cond (Opd.t rfl) (fun hc24 => ?_) (fun hc24 => ?_)
      ·
        replace hm := bif_t hc24 hm
        refine WC_skip ?_
        refine At_then ?_
        refine WC_seq ?_
        refine WC_block ?_
        refine WC_seq_cut (γ := (List (List Int)) × SLV × List Nat × Bool) (fun ⟨l26, v27, R28, laid29⟩ w25 => scrutinyref09_Insert_K2 s i22 again23 l26 laid29 = some r ∧ Sat (imm (RSl (RI .u8)) [sl v4] w3 :: box b6 34 [(.int .i64 s.1), (sl v1)] :: imm (RSl (RSl (RI .u8))) [sl v1] s.2 :: box b8 34 [(.int .i64 0), (sl (none, 0, 0))] :: osl (RSl (RI .u8)) 23 (sl v27) l26 R28 :: Φ) w25) (fun ⟨l26, v27, R28, laid29⟩ => [(1, true, (sl v4)), (2, true, (.pointer (some ⟨b6, 0, none⟩))), (4, true, (.pointer (some ⟨b8, 0, none⟩))), (8, true, (sl v27)), (9, true, (.bool laid29)), (10, true, (.int .i64 i22))]) ?_ ?_
        ·
          rintro ⟨l26, v27, R28, laid29⟩ w25 ⟨hm, hs⟩
          unfold scrutinyref09_Insert_K2 at hm
          refine WC_region ?_
          refine WL_op (Run_move (Opd.t rfl)) rfl rfl rfl rfl <| WL_op (Run_fieldAddr fo34_1 (Opd.t rfl)) rfl rfl rfl rfl <| WL_op (Run_load1 (v := (sl v1)) Try.underlying22 rfl (Opd.t rfl) (fun _ => (hs.box (i := 1) rfl).part 1 rfl)) rfl rfl rfl rfl <| WL_op (Run_move (Opd.t rfl)) rfl rfl rfl rfl <| ?_
          obtain ⟨e30, he31, hm⟩ := bind_some' hm
          obtain ⟨v32, hC33, hN34, hR35⟩ := cellsM23 (g := true) (fun hg => (hs.sl (i := 2) rfl)) (fun hg => he31)
          replace hs := hs.addL [elem true (elA (sl v1) i22 1) [(sl v32)], imm (RSl (RI .u8)) [sl v32] e30] rfl ⟨fun hg => ⟨hN34 hg, hC33 hg⟩, ⟨_, rfl, hR35 rfl⟩, trivial⟩
          replace hs := Sat.n7 (Γ := Φ) hs rfl
          refine WL_op (Run_idxAddr (p := (elA (sl v1) i22 1)) Try.underlying22 ti23 (Opd.t rfl) (Opd.t rfl) (fun hg => (SRd.atA (A := (RSl (RI .u8))) (v := (sl v1)) (hs.sl (i := 4) rfl) he31).1)) rfl rfl rfl rfl <| WL_op (Run_load1 (v := (sl v32)) Try.underlying23 rfl (Opd.t rfl) (fun hg => ((hs.elem (i := 0) rfl) hg).sub 0 rfl)) rfl rfl rfl rfl <| ?_
          refine WS_lit (A := (RSl (RI .u8))) (xs := [e30]) (zs := [(sl (none, 0, 0))]) (cells := [(sl v32)]) (parts := [(0, (.tmp 53))]) hs Try.underlying22 ti23 rfl rfl rfl (.cons (Opd.t rfl) .nil) (by kernel_rfl) rfl (ARd.cons (A := (RSl (RI .u8))) (c := [(sl v32)]) (x := e30) ⟨_, rfl, (hs.sl (i := 1) rfl)⟩ ARd.nil) rfl ?_
          intro b36 w37 hs
          replace hs := Sat.n8 (Γ := Φ) hs rfl
          replace hs := hs.freeze (i := 0) rfl
          obtain ⟨k38, hm⟩ := chk_some hm
          refine WS_append (A := (RSl (RI .u8))) hs 7 rfl Try.underlying22 ti23 rfl rfl (Opd.t rfl) (Opd.t rfl) (hs.sl (i := 0) rfl) k38 rfl ?_
          intro v39 R40 w41 hs
          replace hs := Sat.n8 (Γ := Φ) hs rfl
          refine WL_op (Run_assign (Opd.t rfl)) rfl rfl rfl rfl <| ?_
          refine WL_nil ?_
          refine At_blk_normal ?_
          refine At_then ?_
          refine WC_region ?_
          refine WL_op (Run_move (Opd.t rfl)) rfl rfl rfl rfl <| WL_op (Run_add (Opd.t rfl) Opd.c) rfl rfl rfl rfl <| WL_op (Run_assign (Opd.t rfl)) rfl rfl rfl rfl <| ?_
          refine WL_nil ?_
          exact At_again ((l26 ++ ([e30] : List (List Int))), laid29, (IntKind.i64.wrap (i22 + 1))) (v39, R40) hm (hs.re 8 [3, 4, 5, 6, 7] rfl) rfl
        ·
          refine WC_seq ?_
          refine WC_region_mixed [0, 1, 2, 4, 12, 4, 36, 4, 196, 260, 516, 1044, 2052] (.q 0 0 (.q 1 1 (.q 2 3 (.q 3 7 (.q 4 15 (.q 5 31 (.q 6 63 (.q 7 127 (.q 8 255 (.q 9 511 (.q 10 1023 (.q 11 2047 (.q 12 4095 .nil))))))))))))) (by kernel_rfl) (by kernel_rfl) ?_
          intro w42 hx43
          replace hs := hs.ext hx43
          refine WD_pure (fun _ => (Run_move (Opd.t rfl))) rfl rfl rfl rfl <| ?_
          obtain ⟨b44, e45, hm⟩ := letv_some hm
          refine WD_pure (fun _ => (Run.eqB (Run_notB (Opd.t rfl)) e45)) rfl rfl rfl rfl <| WD_pure (fun _ => (Run_move (Opd.t rfl))) rfl rfl rfl rfl <| WD_pureG rfl rfl rfl rfl guard_pos (fun _ => (Run_move (Opd.t rfl))) rfl rfl rfl <| WD_opG (fun w => b44 = true → SRd (RI .u8) (fun _ => False) w (sl v4) w3) (fun hg => (hs.sl (i := 0) rfl).mv (Mv.weaken _ (fun _ h => h.elim))) rfl rfl rfl rfl guard_pos (fun _ hJ => (Run_b2s Try.underlying23 Try.underlying5 Try.underlying9 (Opd.g rfl id) hJ)) rfl rfl rfl <| WD_pureG rfl rfl rfl rfl guard_pos (fun _ => (Run_fieldAddr fo34_1 (Opd.t rfl))) rfl rfl rfl <| WD_opG (fun w => CellsAt w ⟨b6, 1, none⟩ [(sl v1)]) ((hs.box (i := 1) rfl).part 1 rfl) rfl rfl rfl rfl guard_pos (fun _ hJ => (Run_load1 (v := (sl v1)) Try.underlying22 rfl (Opd.g rfl id) (fun _ => hJ))) rfl rfl rfl <| WD_pureG rfl rfl rfl rfl guard_pos (fun _ => (Run_move (Opd.t rfl))) rfl rfl rfl <| ?_
          obtain ⟨e46, he47, -, hm⟩ := callG_some hm
          obtain ⟨v48, hC49, hN50, hR51⟩ := cellsM23 (g := b44) (fun hg => (hs.sl (i := 2) rfl)) (fun hg => (he47 hg))
          replace hs := hs.addL [elem b44 (elA (sl v1) i22 1) [(sl v48)], immG b44 (RSl (RI .u8)) [sl v48] e46] rfl ⟨fun hg => ⟨hN50 hg, hC49 hg⟩, fun hg => ⟨_, rfl, hR51 hg⟩, trivial⟩
          replace hs := Sat.n7 (Γ := Φ) hs rfl
          refine WD_pureG rfl rfl rfl rfl guard_pos (fun _ => (Run_idxAddr (p := (elA (sl v1) i22 1)) Try.underlying22 ti23 (Opd.g rfl id) (Opd.g rfl id) (fun hg => (SRd.atA (A := (RSl (RI .u8))) (v := (sl v1)) (hs.sl (i := 4) rfl) (he47 hg)).1))) rfl rfl rfl <| WD_opG (fun w => b44 = true → CellsAt w (elA (sl v1) i22 1) [(sl v48)]) (fun hg => ((hs.elem (i := 0) rfl) hg).sub 0 rfl) rfl rfl rfl rfl guard_pos (fun _ hJ => (Run_load1 (v := (sl v48)) Try.underlying23 rfl (Opd.g rfl id) hJ)) rfl rfl rfl <| WD_opG (fun w => b44 = true → SRd (RI .u8) (fun _ => False) w (sl v48) e46) (fun hg => ((hs.slG (i := 1) rfl) hg).mv (Mv.weaken _ (fun _ h => h.elim))) rfl rfl rfl rfl guard_pos (fun _ hJ => (Run_b2s Try.underlying23 Try.underlying5 Try.underlying9 (Opd.g rfl id) hJ)) rfl rfl rfl <| ?_
          obtain ⟨b52, e53, hm⟩ := letv_some hm
          refine WD_pureG rfl rfl rfl rfl guard_pos (fun _ => (Run.eqB (Run_ltS (Opd.g rfl id) (Opd.g rfl id)) e53)) rfl rfl rfl <| ?_
          obtain ⟨b54, e55, hm⟩ := letv_some hm
          refine WD_pure (fun _ => (Run.eqB (Run_and (Opd.t rfl) (Opd.g rfl id)) e55)) rfl rfl rfl rfl <| ?_
          refine WD_nil ?_
          refine At_then ?_
          refine WC_cond (Opd.t rfl) (fun hc56 => ?_) (fun hc56 => ?_)
          ·
            replace hm := bif_t hc56 hm
            refine WC_seq ?_
            refine WC_region ?_
            refine WL_op (Run_move (Opd.t rfl)) rfl rfl rfl rfl <| ?_
            refine WS_lit0 (A := (RI .u8)) hs Try.underlying23 ti5 rfl ?_
            intro b57 w58 hs
            replace hs := Sat.n8 (Γ := Φ) hs rfl
            refine WL_op (Run_move (Opd.t rfl)) rfl rfl rfl rfl <| ?_
            obtain ⟨k59, hm⟩ := chk_some hm
            refine WS_append (A := (RI .u8)) hs 0 rfl Try.underlying23 ti5 rfl rfl (Opd.t rfl) (Opd.t rfl) (hs.sl (i := 3) rfl) k59 rfl ?_
            intro v60 R61 w62 hs
            replace hs := Sat.n8 (Γ := Φ) hs rfl
            replace hs := hs.freeze (i := 0) rfl
            refine WS_lit (A := (RSl (RI .u8))) (xs := [(([] : List Int) ++ w3)]) (zs := [(sl (none, 0, 0))]) (cells := [(sl v60)]) (parts := [(0, (.tmp 45))]) hs Try.underlying22 ti23 rfl rfl rfl (.cons (Opd.t rfl) .nil) (by kernel_rfl) rfl (ARd.cons (A := (RSl (RI .u8))) (c := [(sl v60)]) (x := (([] : List Int) ++ w3)) ⟨_, rfl, (hs.sl (i := 0) rfl)⟩ ARd.nil) rfl ?_
            intro b63 w64 hs
            replace hs := Sat.n9 (Γ := Φ) hs rfl
            replace hs := hs.freeze (i := 0) rfl
            obtain ⟨k65, hm⟩ := chk_some hm
            refine WS_append (A := (RSl (RI .u8))) hs 8 rfl Try.underlying22 ti23 rfl rfl (Opd.t rfl) (Opd.t rfl) (hs.sl (i := 0) rfl) k65 rfl ?_
            intro v66 R67 w68 hs
            replace hs := Sat.n9 (Γ := Φ) hs rfl
            refine WL_op (Run_assign (Opd.t rfl)) rfl rfl rfl rfl <| ?_
            refine WL_nil ?_
            refine At_then ?_
            refine WC_region ?_
            refine WL_op (Run_assign Opd.c) rfl rfl rfl rfl <| ?_
            refine WL_nil ?_
            exact At_join ((l18 ++ ([(([] : List Int) ++ w3)] : List (List Int))), v66, R67, true) ⟨hm, (hs.re 9 [4, 5, 6, 7, 8] rfl)⟩ rfl
          ·
            replace hm := bif_f hc56 hm
            refine WC_skip ?_
            exact At_join (l18, v19, R20, laid21) ⟨hm, (hs.re 7 [2, 3, 4, 5, 6] rfl)⟩ rfl
      ·
        replace hm := bif_f hc24 hm
        refine WC_exit ?_
        refine At_then_exit <| At_then_exit <| At_blk_here <| ?_
        refine At_then ?_
        refine WC_seq_cut (γ := (List (List Int)) × SLV × List Nat) (fun ⟨l70, v71, R72⟩ w69 => scrutinyref09_Insert_K3 s l70 = some r ∧ Sat (box b6 34 [(.int .i64 s.1), (sl v1)] :: imm (RSl (RSl (RI .u8))) [sl v1] s.2 :: box b8 34 [(.int .i64 0), (sl (none, 0, 0))] :: osl (RSl (RI .u8)) 23 (sl v71) l70 R72 :: Φ) w69) (fun ⟨l70, v71, R72⟩ => [(2, true, (.pointer (some ⟨b6, 0, none⟩))), (4, true, (.pointer (some ⟨b8, 0, none⟩))), (8, true, (sl v71))]) ?_ ?_
        ·
          rintro ⟨l70, v71, R72⟩ w69 ⟨hm, hs⟩
          unfold scrutinyref09_Insert_K3 at hm
          refine WC_seq ?_
          refine WC_region ?_
          refine WL_op (Run_fieldAddr fo34_0 (Opd.t rfl)) rfl rfl rfl rfl <| WL_op (Run_load1 (v := (.int .i64 s.1)) Try.underlying3 rfl (Opd.t rfl) (fun _ => (hs.box (i := 0) rfl).part 0 rfl)) rfl rfl rfl rfl <| WL_op (Run_move (Opd.t rfl)) rfl rfl rfl rfl <| WL_op (Run_build (parts := [(0, (.tmp 65)), (1, (.tmp 66))]) (v := (.agg #[(.int .i64 s.1), (sl v71)])) (.cons (Opd.t rfl) (.cons (Opd.t rfl) .nil)) (fun _ => by kernel_rfl)) rfl rfl rfl rfl <| ?_
          refine WS_store (us := [(.int .i64 s.1), (sl v71)]) (vs' := [(.int .i64 s.1), (sl v71)]) hs 2 rfl ti34 (Opd.t rfl) (Opd.t rfl) rfl rfl rfl rfl rfl ?_
          intro w73 hs
          replace hs := Sat.n4 (Γ := Φ) hs rfl
          refine WL_op (Run_assign Opd.c) rfl rfl rfl rfl <| WL_op (Run_assign Opd.c) rfl rfl rfl rfl <| ?_
          refine WL_nil ?_
          refine At_then ?_
          refine WC_ret ?_
          refine At_r3 rfl (ResIs.cA (vs := [(.int .i64 s.1), (sl v71)]) rfl Try.underlying34 rfl ti34 ((hs.box (i := 2) rfl).part 0 rfl) rfl) (ResIs.t rfl) (ResIs.t rfl) ?_
          replace hs := hs.freeze (i := 3) rfl
          cases hm
          exact ⟨v71, rfl, (hs.re 4 [3] rfl)⟩
        ·
          refine WC_seq ?_
          refine WC_region ?_
          refine WL_op (Run_move (Opd.t rfl)) rfl rfl rfl rfl <| WL_op (Run_notB (Opd.t rfl)) rfl rfl rfl rfl <| ?_
          refine WL_nil ?_
          refine At_then ?_
          refine WC_cond (Opd.t rfl) (fun hc74 => ?_) (fun hc74 => ?_)
          ·
            replace hm := bif_t hc74 hm
            refine WC_region ?_
            refine WL_op (Run_move (Opd.t rfl)) rfl rfl rfl rfl <| ?_
            refine WS_lit0 (A := (RI .u8)) hs Try.underlying23 ti5 rfl ?_
            intro b75 w76 hs
            replace hs := Sat.n6 (Γ := Φ) hs rfl
            refine WL_op (Run_move (Opd.t rfl)) rfl rfl rfl rfl <| ?_
            obtain ⟨k77, hm⟩ := chk_some hm
            refine WS_append (A := (RI .u8)) hs 0 rfl Try.underlying23 ti5 rfl rfl (Opd.t rfl) (Opd.t rfl) (hs.sl (i := 1) rfl) k77 rfl ?_
            intro v78 R79 w80 hs
            replace hs := Sat.n6 (Γ := Φ) hs rfl
            replace hs := hs.freeze (i := 0) rfl
            refine WS_lit (A := (RSl (RI .u8))) (xs := [(([] : List Int) ++ w3)]) (zs := [(sl (none, 0, 0))]) (cells := [(sl v78)]) (parts := [(0, (.tmp 61))]) hs Try.underlying22 ti23 rfl rfl rfl (.cons (Opd.t rfl) .nil) (by kernel_rfl) rfl (ARd.cons (A := (RSl (RI .u8))) (c := [(sl v78)]) (x := (([] : List Int) ++ w3)) ⟨_, rfl, (hs.sl (i := 0) rfl)⟩ ARd.nil) rfl ?_
            intro b81 w82 hs
            replace hs := Sat.n7 (Γ := Φ) hs rfl
            replace hs := hs.freeze (i := 0) rfl
            obtain ⟨k83, hm⟩ := chk_some hm
            refine WS_append (A := (RSl (RI .u8))) hs 6 rfl Try.underlying22 ti23 rfl rfl (Opd.t rfl) (Opd.t rfl) (hs.sl (i := 0) rfl) k83 rfl ?_
            intro v84 R85 w86 hs
            replace hs := Sat.n7 (Γ := Φ) hs rfl
            refine WL_op (Run_assign (Opd.t rfl)) rfl rfl rfl rfl <| ?_
            refine WL_nil ?_
            exact At_join ((l18 ++ ([(([] : List Int) ++ w3)] : List (List Int))), v84, R85) ⟨hm, (hs.re 7 [3, 4, 5, 6] rfl)⟩ rfl
          ·
            replace hm := bif_f hc74 hm
            refine WC_skip ?_
            exact At_join (l18, v19, R20) ⟨hm, (hs.re 5 [1, 2, 3, 4] rfl)⟩ rfl

set_option maxRecDepth 100000 in
set_option maxHeartbeats 4000000 in
theorem scrutinyref09_left_ok {Φ : Ctx} {w : World} {s : (Int × (List (List Int)))} {w3 : (List Int)} {n : Int} {v1 : SLV} {v4 : SLV} {r : Str} (hs : Sat (imm (RSl (RSl (RI .u8))) [sl v1] s.2 :: imm (RSl (RI .u8)) [sl v4] w3 :: Φ) w) (hm : scrutinyref09_left s w3 n = some r) :
    CallsR Try.prog 27 [(.agg #[(.int .i64 s.1), (sl v1)]), (sl v4), (.int .i64 n)] w (fun v w' => v = (S r) ∧ Sat (Φ) w') := by
  refine CallsX_enter Try.func27 rfl Try.ntmps27 rfl ?_
  unfold scrutinyref09_left at hm
  refine WC_seq ?_
  refine WC_region ?_
  refine WS_box (zs := [(.int .i64 s.1), (sl v1)]) hs (Opd.t rfl) rfl rfl ?_
  intro b3 w4 hs
  replace hs := Sat.n3 (Γ := Φ) hs rfl
  refine WL_op (Run_assign Opd.c) rfl rfl rfl rfl <| ?_
  refine WL_nil ?_
  refine At_then ?_
  refine WC_seq ?_
  refine WC_region ?_
  refine WL_op (Run_assign Opd.c) rfl rfl rfl rfl <| ?_
  refine WL_nil ?_
  refine At_then ?_
  refine WC_seq ?_
  refine WC_seq ?_
  refine WC_region ?_
  refine WL_op (Run_assign Opd.c) rfl rfl rfl rfl <| ?_
  refine WL_nil ?_
  refine At_then ?_
  refine WC_block ?_
  refine WC_loop (σ := Str × Int) (γ := Unit) (F := (scrutinyref09_left_L1 s w3 n)) (N := FUEL) (s0 := ([], 0)) (r := r) (fun ⟨out6, i7⟩ (_ : Unit) w5 => Sat (imm (RSl (RI .u8)) [sl v4] w3 :: box b3 34 [(.int .i64 s.1), (sl v1)] :: imm (RSl (RSl (RI .u8))) [sl v1] s.2 :: Φ) w5) (fun ⟨out6, i7⟩ (_ : Unit) => [(1, true, (sl v4)), (2, true, (.int .i64 n)), (3, true, (.pointer (some ⟨b3, 0, none⟩))), (7, true, (S out6)), (8, true, (.int .i64 i7))]) hm () (hs.re 3 [2, 0, 1] rfl) rfl ?_
  rintro again8 ⟨out6, i7⟩ _ w5 hm hs
  unfold scrutinyref09_left_L1 at hm
  dsimp only at hm
  refine WC_seq ?_
  refine WC_seq ?_
  refine WC_region ?_
  refine WL_op (Run_move (Opd.t rfl)) rfl rfl rfl rfl <| WL_op (Run_fieldAddr fo34_1 (Opd.t rfl)) rfl rfl rfl rfl <| WL_op (Run_load1 (v := (sl v1)) Try.underlying22 rfl (Opd.t rfl) (fun _ => (hs.box (i := 1) rfl).part 1 rfl)) rfl rfl rfl rfl <| WL_op (Run_lenSlG Try.underlying22 (Opd.t rfl) (fun hg => (hs.sl (i := 2) rfl).len)) rfl rfl rfl rfl <| WL_op (Run_ltI (Opd.t rfl) (Opd.t rfl)) rfl rfl rfl rfl <| ?_
  refine WL_nil ?_
  refine At_then ?_
  refine WC_cond (Opd.t rfl) (fun hc9 => ?_) (fun hc9 => ?_)
  ·
    replace hm := bif_t hc9 hm
    refine WC_skip ?_
    refine At_then ?_
    refine WC_seq ?_
    refine WC_block ?_
    refine WC_seq ?_
    refine WC_region_mixed [0, 1, 0, 6, 8, 0, 48, 64, 0, 0, 768, 1024, 2176] (.q 0 0 (.q 1 1 (.q 2 3 (.q 3 7 (.q 4 15 (.q 5 31 (.q 6 63 (.q 7 127 (.q 8 255 (.q 9 511 (.q 10 1023 (.q 11 2047 (.q 12 4095 .nil))))))))))))) (by kernel_rfl) (by kernel_rfl) ?_
    intro w10 hx11
    replace hs := hs.ext hx11
    refine WD_pure (fun _ => (Run_fieldAddr fo34_1 (Opd.t rfl))) rfl rfl rfl rfl <| WD_op (fun w => CellsAt w ⟨b3, 1, none⟩ [(sl v1)]) ((hs.box (i := 1) rfl).part 1 rfl) (fun _ hJ => (Run_load1 (v := (sl v1)) Try.underlying22 rfl (Opd.t rfl) (fun _ => hJ))) rfl rfl rfl rfl <| WD_pure (fun _ => (Run_move (Opd.t rfl))) rfl rfl rfl rfl <| ?_
    obtain ⟨e12, he13, hm⟩ := bind_some' hm
    obtain ⟨v14, hC15, hN16, hR17⟩ := cellsM23 (g := true) (fun hg => (hs.sl (i := 2) rfl)) (fun hg => he13)
    replace hs := hs.addL [elem true (elA (sl v1) i7 1) [(sl v14)], imm (RSl (RI .u8)) [sl v14] e12] rfl ⟨fun hg => ⟨hN16 hg, hC15 hg⟩, ⟨_, rfl, hR17 rfl⟩, trivial⟩
    replace hs := Sat.n5 (Γ := Φ) hs rfl
    refine WD_pure (fun _ => (Run_idxAddr (p := (elA (sl v1) i7 1)) Try.underlying22 ti23 (Opd.t rfl) (Opd.t rfl) (fun hg => (SRd.atA (A := (RSl (RI .u8))) (v := (sl v1)) (hs.sl (i := 4) rfl) he13).1))) rfl rfl rfl rfl <| WD_op (fun w => true = true → CellsAt w (elA (sl v1) i7 1) [(sl v14)]) (fun hg => ((hs.elem (i := 0) rfl) hg).sub 0 rfl) (fun _ hJ => (Run_load1 (v := (sl v14)) Try.underlying23 rfl (Opd.t rfl) hJ)) rfl rfl rfl rfl <| WD_pure (fun _ => (Run_move (Opd.t rfl))) rfl rfl rfl rfl <| ?_
    obtain ⟨k21, hm⟩ := chk_some hm
    obtain ⟨v19, hv18, h20⟩ := SRd.cutS (A := (RI .u8)) (M := Ctx.M _) (fun _ => hs.sl (i := 1) rfl) (fun _ => k21)
    refine WD_pure (fun _ => (Run_cutSl (lo := none) (hi := (some (.tmp 21))) Try.underlying23 ti5 (Opd.t rfl) (fun hg => (hs.sl (i := 1) rfl).len) rfl ⟨_, (Opd.t rfl)⟩ hv18)) rfl rfl rfl rfl <| ?_
    replace hs := hs.addS (h20 rfl)
    refine WD_op (fun w => true = true → SRd (RI .u8) (fun _ => False) w (sl v19) (cutL e12 0 n)) (fun hg => (hs.sl (i := 0) rfl).mv (Mv.weaken _ (fun _ h => h.elim))) (fun _ hJ => (Run_b2s Try.underlying23 Try.underlying5 Try.underlying9 (Opd.t rfl) hJ)) rfl rfl rfl rfl <| WD_pure (fun _ => (Run_move (Opd.t rfl))) rfl rfl rfl rfl <| WD_pure (fun _ => (Run_move (Opd.t rfl))) rfl rfl rfl rfl <| ?_
    obtain ⟨k25, hm⟩ := chk_some hm
    obtain ⟨v23, hv22, h24⟩ := SRd.cutS (A := (RI .u8)) (M := Ctx.M _) (fun _ => hs.sl (i := 3) rfl) (fun _ => k25)
    refine WD_pure (fun _ => (Run_cutSl (lo := none) (hi := (some (.tmp 25))) Try.underlying23 ti5 (Opd.t rfl) (fun hg => (hs.sl (i := 3) rfl).len) rfl ⟨_, (Opd.t rfl)⟩ hv22)) rfl rfl rfl rfl <| ?_
    replace hs := hs.addS (h24 rfl)
    refine WD_op (fun w => true = true → SRd (RI .u8) (fun _ => False) w (sl v23) (cutL w3 0 n)) (fun hg => (hs.sl (i := 0) rfl).mv (Mv.weaken _ (fun _ h => h.elim))) (fun _ hJ => (Run_b2s Try.underlying23 Try.underlying5 Try.underlying9 (Opd.t rfl) hJ)) rfl rfl rfl rfl <| WD_pure (fun _ => (Run_eqS (Opd.t rfl) (Opd.t rfl))) rfl rfl rfl rfl <| ?_
    refine WD_nil ?_
    refine At_then ?_
    refine WC_cond (Opd.t rfl) (fun hc26 => ?_) (fun hc26 => ?_)
    ·
      replace hm := bif_t hc26 hm
      refine WC_region ?_
      refine WL_op (Run_move (Opd.t rfl)) rfl rfl rfl rfl <| WL_op (Run_fieldAddr fo34_1 (Opd.t rfl)) rfl rfl rfl rfl <| WL_op (Run_load1 (v := (sl v1)) Try.underlying22 rfl (Opd.t rfl) (fun _ => (hs.box (i := 5) rfl).part 1 rfl)) rfl rfl rfl rfl <| WL_op (Run_move (Opd.t rfl)) rfl rfl rfl rfl <| ?_
      obtain ⟨e27, he28, hm⟩ := bind_some' hm
      obtain ⟨v29, hC30, hN31, hR32⟩ := cellsM23 (g := true) (fun hg => (hs.sl (i := 6) rfl)) (fun hg => he28)
      replace hs := hs.addL [elem true (elA (sl v1) i7 1) [(sl v29)], imm (RSl (RI .u8)) [sl v29] e27] rfl ⟨fun hg => ⟨hN31 hg, hC30 hg⟩, ⟨_, rfl, hR32 rfl⟩, trivial⟩
      replace hs := Sat.n9 (Γ := Φ) hs rfl
      refine WL_op (Run_idxAddr (p := (elA (sl v1) i7 1)) Try.underlying22 ti23 (Opd.t rfl) (Opd.t rfl) (fun hg => (SRd.atA (A := (RSl (RI .u8))) (v := (sl v1)) (hs.sl (i := 8) rfl) he28).1)) rfl rfl rfl rfl <| WL_op (Run_load1 (v := (sl v29)) Try.underlying23 rfl (Opd.t rfl) (fun hg => ((hs.elem (i := 0) rfl) hg).sub 0 rfl)) rfl rfl rfl rfl <| WL_op (Run_move (Opd.t rfl)) rfl rfl rfl rfl <| ?_
      obtain ⟨k36, hm⟩ := chk_some hm
      obtain ⟨v34, hv33, h35⟩ := SRd.cutS (A := (RI .u8)) (M := Ctx.M _) (fun _ => hs.sl (i := 1) rfl) (fun _ => k36)
      refine WL_op (Run_cutSl (lo := (some (.tmp 35))) (hi := none) Try.underlying23 ti5 (Opd.t rfl) (fun hg => (hs.sl (i := 1) rfl).len) ⟨_, (Opd.t rfl)⟩ rfl hv33) rfl rfl rfl rfl <| ?_
      replace hs := hs.addS (h35 rfl)
      refine WL_op (Run_b2s Try.underlying23 Try.underlying5 Try.underlying9 (Opd.t rfl) (fun _ => hs.sl (i := 0) rfl)) rfl rfl rfl rfl <| ?_
      obtain ⟨k37, hm⟩ := chk_some hm
      refine WL_op (Run_cat (Opd.t rfl) (Opd.t rfl) (fun _ => k37)) rfl rfl rfl rfl <| WL_op (Run_assign (Opd.t rfl)) rfl rfl rfl rfl <| ?_
      refine WL_nil ?_
      refine At_blk_normal ?_
      refine At_then ?_
      refine WC_region ?_
      refine WL_op (Run_move (Opd.t rfl)) rfl rfl rfl rfl <| WL_op (Run_add (Opd.t rfl) Opd.c) rfl rfl rfl rfl <| WL_op (Run_assign (Opd.t rfl)) rfl rfl rfl rfl <| ?_
      refine WL_nil ?_
      exact At_again ((out6 ++ (strOf (cutL e27 n ((List.length e27) : Int)))), (IntKind.i64.wrap (i7 + 1))) () hm (hs.re 10 [7, 8, 9] rfl) rfl
    ·
      replace hm := bif_f hc26 hm
      refine WC_skip ?_
      refine At_blk_normal ?_
      refine At_then ?_
      refine WC_region ?_
      refine WL_op (Run_move (Opd.t rfl)) rfl rfl rfl rfl <| WL_op (Run_add (Opd.t rfl) Opd.c) rfl rfl rfl rfl <| WL_op (Run_assign (Opd.t rfl)) rfl rfl rfl rfl <| ?_
      refine WL_nil ?_
      exact At_again (out6, (IntKind.i64.wrap (i7 + 1))) () hm (hs.re 7 [4, 5, 6] rfl) rfl
  ·
    replace hm := bif_f hc9 hm
    refine WC_exit ?_
    refine At_then_exit <| At_then_exit <| At_blk_here <| ?_
    refine At_then ?_
    refine WC_seq ?_
    refine WC_region ?_
    refine WL_op (Run_move (Opd.t rfl)) rfl rfl rfl rfl <| WL_op (Run_assign (Opd.t rfl)) rfl rfl rfl rfl <| ?_
    refine WL_nil ?_
    refine At_then ?_
    refine WC_ret ?_
    refine At_r1 rfl (ResIs.t rfl) ?_
    cases hm
    exact ⟨rfl, (hs.re 3 [] rfl)⟩

set_option maxRecDepth 100000 in
set_option maxHeartbeats 4000000 in
theorem scrutinyref09_Size_ok {Φ : Ctx} {w : World} {s : (Int × (List (List Int)))} {v1 : SLV} {r : Int} (hs : Sat (imm (RSl (RSl (RI .u8))) [sl v1] s.2 :: Φ) w) (hm : scrutinyref09_Size s = some r) :
    CallsR Try.prog 17 [(.agg #[(.int .i64 s.1), (sl v1)])] w (fun v w' => v = (.int .i64 r) ∧ Sat (Φ) w') := by
  refine CallsX_enter Try.func17 rfl Try.ntmps17 rfl ?_
  unfold scrutinyref09_Size at hm
  refine WC_seq ?_
  refine WC_region ?_
  refine WS_box (zs := [(.int .i64 s.1), (sl v1)]) hs (Opd.t rfl) rfl rfl ?_
  intro b3 w4 hs
  replace hs := Sat.n2 (Γ := Φ) hs rfl
  refine WL_op (Run_assign Opd.c) rfl rfl rfl rfl <| ?_
  refine WL_nil ?_
  refine At_then ?_
  refine WC_seq ?_
  refine WC_region ?_
  refine WL_op (Run_assign Opd.c) rfl rfl rfl rfl <| ?_
  refine WL_nil ?_
  refine At_then ?_
  refine WC_seq ?_
  refine WC_seq ?_
  refine WC_region ?_
  refine WL_op (Run_assign Opd.c) rfl rfl rfl rfl <| ?_
  refine WL_nil ?_
  refine At_then ?_
  refine WC_block ?_
  refine WC_loop (σ := Int × Int) (γ := Unit) (F := (scrutinyref09_Size_L1 s)) (N := FUEL) (s0 := (0, 0)) (r := r) (fun ⟨n6, k7⟩ (_ : Unit) w5 => Sat (box b3 34 [(.int .i64 s.1), (sl v1)] :: imm (RSl (RSl (RI .u8))) [sl v1] s.2 :: Φ) w5) (fun ⟨n6, k7⟩ (_ : Unit) => [(1, true, (.pointer (some ⟨b3, 0, none⟩))), (3, true, (.int .i64 n6)), (4, true, (.int .i64 k7))]) hm () (hs.re 2 [0, 1] rfl) rfl ?_
  rintro again8 ⟨n6, k7⟩ _ w5 hm hs
  unfold scrutinyref09_Size_L1 at hm
  dsimp only at hm
  refine WC_seq ?_
  refine WC_seq ?_
  refine WC_region ?_
  refine WL_op (Run_move (Opd.t rfl)) rfl rfl rfl rfl <| WL_op (Run_fieldAddr fo34_0 (Opd.t rfl)) rfl rfl rfl rfl <| WL_op (Run_load1 (v := (.int .i64 s.1)) Try.underlying3 rfl (Opd.t rfl) (fun _ => (hs.box (i := 0) rfl).part 0 rfl)) rfl rfl rfl rfl <| WL_op (Run_leI (Opd.t rfl) (Opd.t rfl)) rfl rfl rfl rfl <| ?_
  refine WL_nil ?_
  refine At_then ?_
  refine WC_cond (Opd.t rfl) (fun hc9 => ?_) (fun hc9 => ?_)
  ·
    replace hm := bif_t hc9 hm
    refine WC_skip ?_
    refine At_then ?_
    refine WC_seq ?_
    refine WC_block ?_
    refine WC_seq ?_
    refine WC_region ?_
    refine WL_op (Run_assign Opd.c) rfl rfl rfl rfl <| ?_
    refine WL_nil ?_
    refine At_then ?_
    refine WC_seq ?_
    refine WC_seq ?_
    refine WC_region ?_
    refine WL_op (Run_assign Opd.c) rfl rfl rfl rfl <| ?_
    refine WL_nil ?_
    refine At_then ?_
    refine WC_block ?_
    replace hs := hs.addNil RS 9
    refine WC_loop (σ := (List Str) × Int) (γ := SLV × List Nat) (F := (scrutinyref09_Size_L2 s n6 k7 again8)) (N := FUEL) (s0 := ([], 0)) (r := r) (fun ⟨seen11, i14⟩ ⟨v12, R13⟩ w10 => Sat (box b3 34 [(.int .i64 s.1), (sl v1)] :: imm (RSl (RSl (RI .u8))) [sl v1] s.2 :: osl RS 9 (sl v12) seen11 R13 :: Φ) w10) (fun ⟨seen11, i14⟩ ⟨v12, R13⟩ => [(1, true, (.pointer (some ⟨b3, 0, none⟩))), (3, true, (.int .i64 n6)), (4, true, (.int .i64 k7)), (5, true, (sl v12)), (6, true, (.int .i64 i14))]) hm ((none, 0, 0), []) (hs.re 3 [1, 2, 0] rfl) rfl ?_
    rintro again15 ⟨seen11, i14⟩ ⟨v12, R13⟩ w10 hm hs
    unfold scrutinyref09_Size_L2 at hm
    dsimp only at hm
    refine WC_seq ?_
    refine WC_seq ?_
    refine WC_region ?_
    refine WL_op (Run_move (Opd.t rfl)) rfl rfl rfl rfl <| WL_op (Run_fieldAddr fo34_1 (Opd.t rfl)) rfl rfl rfl rfl <| WL_op (Run_load1 (v := (sl v1)) Try.underlying22 rfl (Opd.t rfl) (fun _ => (hs.box (i := 0) rfl).part 1 rfl)) rfl rfl rfl rfl <| WL_op (Run_lenSlG Try.underlying22 (Opd.t rfl) (fun hg => (hs.sl (i := 1) rfl).len)) rfl rfl rfl rfl <| WL_op (Run_ltI (Opd.t rfl) (Opd.t rfl)) rfl rfl rfl rfl <| ?_
    refine WL_nil ?_
    refine At_then ?_
    refine WC_cond (Opd.t rfl) (fun hc16 => ?_) (fun hc16 => ?_)
    ·
      replace hm := bif_t hc16 hm
      refine WC_skip ?_
      refine At_then ?_
      refine WC_seq ?_
      refine WC_block ?_
      refine WC_seq ?_
      refine WC_region_mixed [0, 0, 2, 0, 12, 16, 0, 97, 255] (.q 0 0 (.q 1 1 (.q 2 3 (.q 3 7 (.q 4 15 (.q 5 31 (.q 6 63 (.l 7 127 (.q 8 255 .nil))))))))) (by kernel_rfl) (by kernel_rfl) ?_
      intro w17 hx18
      replace hs := hs.ext hx18
      refine WD_op (fun w => CellsAt w ⟨b3, 0, none⟩ [(.int .i64 s.1), (sl v1)]) ((hs.box (i := 0) rfl).part 0 rfl) (fun _ hJ => (Run_loadA (vs := [(.int .i64 s.1), (sl v1)]) Try.underlying34 rfl ti34 (Opd.t rfl) (fun _ => hJ) rfl)) rfl rfl rfl rfl <| WD_pure (fun _ => (Run_fieldAddr fo34_1 (Opd.t rfl))) rfl rfl rfl rfl <| WD_op (fun w => CellsAt w ⟨b3, 1, none⟩ [(sl v1)]) ((hs.box (i := 0) rfl).part 1 rfl) (fun _ hJ => (Run_load1 (v := (sl v1)) Try.underlying22 rfl (Opd.t rfl) (fun _ => hJ))) rfl rfl rfl rfl <| WD_pure (fun _ => (Run_move (Opd.t rfl))) rfl rfl rfl rfl <| ?_
      obtain ⟨e19, he20, hm⟩ := bind_some' hm
      obtain ⟨v21, hC22, hN23, hR24⟩ := cellsM23 (g := true) (fun hg => (hs.sl (i := 1) rfl)) (fun hg => he20)
      replace hs := hs.addL [elem true (elA (sl v1) i14 1) [(sl v21)], imm (RSl (RI .u8)) [sl v21] e19] rfl ⟨fun hg => ⟨hN23 hg, hC22 hg⟩, ⟨_, rfl, hR24 rfl⟩, trivial⟩
      replace hs := Sat.n5 (Γ := Φ) hs rfl
      refine WD_pure (fun _ => (Run_idxAddr (p := (elA (sl v1) i14 1)) Try.underlying22 ti23 (Opd.t rfl) (Opd.t rfl) (fun hg => (SRd.atA (A := (RSl (RI .u8))) (v := (sl v1)) (hs.sl (i := 3) rfl) he20).1))) rfl rfl rfl rfl <| WD_op (fun w => true = true → CellsAt w (elA (sl v1) i14 1) [(sl v21)]) (fun hg => ((hs.elem (i := 0) rfl) hg).sub 0 rfl) (fun _ hJ => (Run_load1 (v := (sl v21)) Try.underlying23 rfl (Opd.t rfl) hJ)) rfl rfl rfl rfl <| WD_pure (fun _ => (Run_move (Opd.t rfl))) rfl rfl rfl rfl <| ?_
      refine WD_loud (pend' := [(2, fun w => CellsAt w ⟨b3, 1, none⟩ [(sl v1)])]) rfl (by kernel_rfl) ?_
      obtain ⟨r25, hr26, hm⟩ := bind_some' hm
      refine WL_call (f := 27) (first := []) (cap := []) (xs := [(.tmp 23), (.tmp 28), (.tmp 29)]) (vs := [(.agg #[(.int .i64 s.1), (sl v1)]), (sl v21), (.int .i64 k7)]) (args := [(.agg #[(.int .i64 s.1), (sl v1)]), (sl v21), (.int .i64 k7)]) Try.call27 Opd.f (.cons (Opd.t rfl) (.cons (Opd.t rfl) (.cons (Opd.t rfl) .nil))) rfl rfl (scrutinyref09_left_ok (hs.re 5 [3, 1, 0, 1, 2, 3, 4] rfl) hr26) ?_
      rintro _ w27 ⟨rfl, hs⟩
      replace hs := Sat.n5 (Γ := Φ) hs rfl
      refine WL_nil ?_
      refine At_QK (allJ_cons ((hs.box (i := 2) rfl).part 1 rfl) allJ_nil) ?_
      refine WD_pure (fun _ => (Run_assign (Opd.t rfl))) rfl rfl rfl rfl <| ?_
      refine WD_nil ?_
      refine At_then ?_
      refine WC_seq ?_
      refine WC_region ?_
      refine WL_op (Run_assign Opd.c) rfl rfl rfl rfl <| ?_
      refine WL_nil ?_
      refine At_then ?_
      refine WC_seq ?_
      refine WC_seq ?_
      refine WC_region ?_
      refine WL_op (Run_assign Opd.c) rfl rfl rfl rfl <| ?_
      refine WL_nil ?_
      refine At_then ?_
      refine WC_block ?_
      refine WC_loop (σ := Bool × Int) (γ := Unit) (F := (scrutinyref09_Size_L3 seen11 i14 again15 r25)) (N := FUEL) (s0 := (false, 0)) (r := r) (fun ⟨is29, j30⟩ (_ : Unit) w28 => Sat (box b3 34 [(.int .i64 s.1), (sl v1)] :: imm (RSl (RSl (RI .u8))) [sl v1] s.2 :: osl RS 9 (sl v12) seen11 R13 :: Φ) w28) (fun ⟨is29, j30⟩ (_ : Unit) => [(1, true, (.pointer (some ⟨b3, 0, none⟩))), (3, true, (.int .i64 n6)), (4, true, (.int .i64 k7)), (5, true, (sl v12)), (6, true, (.int .i64 i14)), (7, true, (S r25)), (8, true, (.bool is29)), (9, true, (.int .i64 j30))]) hm () (hs.re 5 [2, 3, 4] rfl) rfl ?_
      rintro again31 ⟨is29, j30⟩ _ w28 hm hs
      unfold scrutinyref09_Size_L3 at hm
      dsimp only at hm
      refine WC_seq ?_
      refine WC_seq ?_
      refine WC_region ?_
      refine WL_op (Run_move (Opd.t rfl)) rfl rfl rfl rfl <| WL_op (Run_move (Opd.t rfl)) rfl rfl rfl rfl <| WL_op (Run_lenSlG Try.underlying64 (Opd.t rfl) (fun _ => (hs.own (i := 2) rfl).len)) rfl rfl rfl rfl <| WL_op (Run_ltI (Opd.t rfl) (Opd.t rfl)) rfl rfl rfl rfl <| ?_
      refine WL_nil ?_
      refine At_then ?_
      refine WC_cond (Opd.t rfl) (fun hc32 => ?_) (fun hc32 => ?_)
      ·
        replace hm := bif_t hc32 hm
        refine WC_skip ?_
        refine At_then ?_
        refine WC_seq ?_
        refine WC_block ?_
        refine WC_region ?_
        refine WL_op (Run_move (Opd.t rfl)) rfl rfl rfl rfl <| WL_op (Run_move (Opd.t rfl)) rfl rfl rfl rfl <| WL_opG rfl rfl rfl rfl guard_neg (Run_move (Opd.t rfl)) rfl rfl rfl <| WL_opG rfl rfl rfl rfl guard_neg (Run_move (Opd.t rfl)) rfl rfl rfl <| ?_
        obtain ⟨e33, he34, -, hm⟩ := callG_some hm
        refine WL_opG rfl rfl rfl rfl guard_neg (Run_idxAddr (p := (elA (sl v12) j30 1)) Try.underlying64 ti9 (Opd.g rfl id) (Opd.g rfl id) (fun hg => (Own.atA (A := RS) (v := (sl v12)) (hs.own (i := 2) rfl) (he34 hg)).1)) rfl rfl rfl <| WL_opG rfl rfl rfl rfl guard_neg (Run_load1 (v := (S e33)) Try.underlying9 rfl (Opd.g rfl id) (fun hg => (Own.cellsF (A := RS) (v := (sl v12)) (hs.own (i := 2) rfl) (he34 hg) (fun _ h => openT9 h)).sub 0 rfl)) rfl rfl rfl <| WL_opG rfl rfl rfl rfl guard_neg (Run_move (Opd.t rfl)) rfl rfl rfl <| ?_
        obtain ⟨b35, e36, hm⟩ := letv_some hm
        refine WL_opG rfl rfl rfl rfl guard_neg (Run.eqB (Run_eqS (Opd.g rfl id) (Opd.g rfl id)) e36) rfl rfl rfl <| ?_
        obtain ⟨b37, e38, hm⟩ := letv_some hm
        refine WL_op (Run.eqB (Run_or (Opd.t rfl) (Opd.g rfl id)) e38) rfl rfl rfl rfl <| WL_op (Run_assign (Opd.t rfl)) rfl rfl rfl rfl <| ?_
        refine WL_nil ?_
        refine At_blk_normal ?_
        refine At_then ?_
        refine WC_region ?_
        refine WL_op (Run_move (Opd.t rfl)) rfl rfl rfl rfl <| WL_op (Run_add (Opd.t rfl) Opd.c) rfl rfl rfl rfl <| WL_op (Run_assign (Opd.t rfl)) rfl rfl rfl rfl <| ?_
        refine WL_nil ?_
        exact At_again (b37, (IntKind.i64.wrap (j30 + 1))) () hm (hs.re 3 [0, 1, 2] rfl) rfl
      ·
        replace hm := bif_f hc32 hm
        refine WC_exit ?_
        refine At_then_exit <| At_then_exit <| At_blk_here <| ?_
        refine At_then ?_
        refine WC_seq ?_
        refine WC_region ?_
        refine WL_op (Run_move (Opd.t rfl)) rfl rfl rfl rfl <| WL_op (Run_notB (Opd.t rfl)) rfl rfl rfl rfl <| ?_
        refine WL_nil ?_
        refine At_then ?_
        refine WC_cond (Opd.t rfl) (fun hc39 => ?_) (fun hc39 => ?_)
        ·
          replace hm := bif_t hc39 hm
          refine WC_region ?_
          refine WL_op (Run_move (Opd.t rfl)) rfl rfl rfl rfl <| WL_op (Run_move (Opd.t rfl)) rfl rfl rfl rfl <| ?_
          refine WS_lit (A := RS) (xs := [r25]) (zs := [(S [])]) (cells := [(S r25)]) (parts := [(0, (.tmp 49))]) hs Try.underlying64 ti9 rfl rfl rfl (.cons (Opd.t rfl) .nil) (by kernel_rfl) rfl (ARd.cons (A := RS) (c := [(S r25)]) (x := r25) rfl ARd.nil) rfl ?_
          intro b40 w41 hs
          replace hs := Sat.n4 (Γ := Φ) hs rfl
          replace hs := hs.freeze (i := 0) rfl
          obtain ⟨k42, hm⟩ := chk_some hm
          refine WS_append (A := RS) hs 3 rfl Try.underlying64 ti9 rfl rfl (Opd.t rfl) (Opd.t rfl) (hs.sl (i := 0) rfl) k42 rfl ?_
          intro v43 R44 w45 hs
          replace hs := Sat.n4 (Γ := Φ) hs rfl
          refine WL_op (Run_assign (Opd.t rfl)) rfl rfl rfl rfl <| ?_
          refine WL_nil ?_
          refine At_blk_normal ?_
          refine At_then ?_
          refine WC_region ?_
          refine WL_op (Run_move (Opd.t rfl)) rfl rfl rfl rfl <| WL_op (Run_add (Opd.t rfl) Opd.c) rfl rfl rfl rfl <| WL_op (Run_assign (Opd.t rfl)) rfl rfl rfl rfl <| ?_
          refine WL_nil ?_
          exact At_again ((seen11 ++ ([r25] : List Str)), (IntKind.i64.wrap (i14 + 1))) (v43, R44) hm (hs.re 4 [1, 2, 3] rfl) rfl
        ·
          replace hm := bif_f hc39 hm
          refine WC_skip ?_
          refine At_blk_normal ?_
          refine At_then ?_
          refine WC_region ?_
          refine WL_op (Run_move (Opd.t rfl)) rfl rfl rfl rfl <| WL_op (Run_add (Opd.t rfl) Opd.c) rfl rfl rfl rfl <| WL_op (Run_assign (Opd.t rfl)) rfl rfl rfl rfl <| ?_
          refine WL_nil ?_
          exact At_again (seen11, (IntKind.i64.wrap (i14 + 1))) (v12, R13) hm (hs.re 3 [0, 1, 2] rfl) rfl
    ·
      replace hm := bif_f hc16 hm
      refine WC_exit ?_
      refine At_then_exit <| At_then_exit <| At_blk_here <| ?_
      refine At_then ?_
      refine WC_region ?_
      refine WL_op (Run_move (Opd.t rfl)) rfl rfl rfl rfl <| WL_op (Run_move (Opd.t rfl)) rfl rfl rfl rfl <| WL_op (Run_lenSlG Try.underlying64 (Opd.t rfl) (fun _ => (hs.own (i := 2) rfl).len)) rfl rfl rfl rfl <| WL_op (Run_add (Opd.t rfl) (Opd.t rfl)) rfl rfl rfl rfl <| WL_op (Run_assign (Opd.t rfl)) rfl rfl rfl rfl <| ?_
      refine WL_nil ?_
      refine At_blk_normal ?_
      refine At_then ?_
      refine WC_region ?_
      refine WL_op (Run_move (Opd.t rfl)) rfl rfl rfl rfl <| WL_op (Run_add (Opd.t rfl) Opd.c) rfl rfl rfl rfl <| WL_op (Run_assign (Opd.t rfl)) rfl rfl rfl rfl <| ?_
      refine WL_nil ?_
      exact At_again ((IntKind.i64.wrap (n6 + (List.length seen11 : Int))), (IntKind.i64.wrap (k7 + 1))) () hm (hs.re 3 [0, 1] rfl) rfl
  ·
    replace hm := bif_f hc9 hm
    refine WC_exit ?_
    refine At_then_exit <| At_then_exit <| At_blk_here <| ?_
    refine At_then ?_
    refine WC_seq ?_
    refine WC_region ?_
    refine WL_op (Run_move (Opd.t rfl)) rfl rfl rfl rfl <| WL_op (Run_assign (Opd.t rfl)) rfl rfl rfl rfl <| ?_
    refine WL_nil ?_
    refine At_then ?_
    refine WC_ret ?_
    refine At_r1 rfl (ResIs.t rfl) ?_
    cases hm
    exact ⟨rfl, (hs.re 2 [] rfl)⟩

end Go.Proofs.Ytjappdgehmjomaa
