/- Printed by a program: the walks. -/
import Derived.Test.YtjappdgehmjomaaTypes
import Derived.Test.YtjappdgehmjomaaWalk2
import Derived.Test.YtjappdgehmjomaaWalk3
import Derived.Test.YtjappdgehmjomaaWalk6
import Derived.Test.YtjappdgehmjomaaWalk7
namespace Go.Proofs.Ytjappdgehmjomaa
open Go.Proofs

set_option maxRecDepth 100000 in
set_option maxHeartbeats 4000000 in
theorem dfa_Insert_ok {Φ : Ctx} {w : World} {d : (Int × (List ((List (Int × Int)) × Int)) × Int × Int × (List Int))} {word : (List Int)} {v1 : SLV} {v3 : SLV} {v5 : SLV} {r : ((Int × (List ((List (Int × Int)) × Int)) × Int × Int × (List Int)) × Bool × Int)} (hs : Sat (imm (RSl (RP (RSl (RP (RI .u8) (RI .i64))) (RI .i64))) [sl v1] d.2.1 :: imm (RSl (RI .i64)) [sl v3] d.2.2.2.2 :: imm (RSl (RI .u8)) [sl v5] word :: Φ) w) (hm : dfa_Insert d word = some r) :
    CallsR Try.prog 13 [(.agg #[(.int .i64 d.1), (sl v1), (.int .i64 d.2.2.1), (.int .i64 d.2.2.2.1), (sl v3)]), (sl v5)] w (fun v w' => ∃ v4 : SLV, ∃ v6 : SLV, v = (.tuple #[(.agg #[(.int .i64 r.1.1), (sl v4), (.int .i64 r.1.2.2.1), (.int .i64 r.1.2.2.2.1), (sl v6)]), (.bool r.2.1), (.int .i64 r.2.2)]) ∧ Sat (imm (RSl (RP (RSl (RP (RI .u8) (RI .i64))) (RI .i64))) [sl v4] r.1.2.1 :: imm (RSl (RI .i64)) [sl v6] r.1.2.2.2.2 :: Φ) w') := by
  refine CallsX_enter Try.func13 rfl Try.ntmps13 rfl ?_
  unfold dfa_Insert at hm
  refine WC_seq ?_
  refine WC_region ?_
  refine WS_box (zs := [(.int .i64 d.1), (sl v1), (.int .i64 d.2.2.1), (.int .i64 d.2.2.2.1), (sl v3)]) hs (Opd.t rfl) rfl rfl ?_
  intro b9 w10 hs
  replace hs := Sat.n4 (Γ := Φ) hs rfl
  refine WS_alloc (zs := [(.int .i64 0), (sl (none, 0, 0)), (.int .i64 0), (.int .i64 0), (sl (none, 0, 0))]) hs ti29 rfl rfl ?_
  intro b11 w12 hs
  replace hs := Sat.n5 (Γ := Φ) hs rfl
  refine WL_op (Run_assign Opd.c) rfl rfl rfl rfl <| WL_op (Run_assign Opd.c) rfl rfl rfl rfl <| ?_
  refine WL_nil ?_
  refine At_then ?_
  refine WC_seq ?_
  refine WC_seq ?_
  refine WC_region ?_
  refine WL_op (Run_move (Opd.t rfl)) rfl rfl rfl rfl <| WL_op (Run_lenSlG Try.underlying23 (Opd.t rfl) (fun hg => (hs.sl (i := 4) rfl).len)) rfl rfl rfl rfl <| WL_op (Run_fieldAddr fo29_0 (Opd.t rfl)) rfl rfl rfl rfl <| WL_op (Run_load1 (v := (.int .i64 d.1)) Try.underlying3 rfl (Opd.t rfl) (fun _ => (hs.box (i := 1) rfl).part 0 rfl)) rfl rfl rfl rfl <| ?_
  obtain ⟨b13, e14, hm⟩ := letv_some hm
  refine WL_op (Run.eqB (Run_neI (Opd.t rfl) (Opd.t rfl)) e14) rfl rfl rfl rfl <| WL_op (Run_move (Opd.t rfl)) rfl rfl rfl rfl <| WL_opG rfl rfl rfl rfl guard_neg (Run_fieldAddr fo29_0 (Opd.t rfl)) rfl rfl rfl <| WL_opG rfl rfl rfl rfl guard_neg (Run_load1 (v := (.int .i64 d.1)) Try.underlying3 rfl (Opd.g rfl id) (fun _ => (hs.box (i := 1) rfl).part 0 rfl)) rfl rfl rfl <| ?_
  obtain ⟨b15, e16, hm⟩ := letv_some hm
  refine WL_opG rfl rfl rfl rfl guard_neg (Run.eqB (Run_eqI (Opd.g rfl id) Opd.c) e16) rfl rfl rfl <| ?_
  obtain ⟨b17, e18, hm⟩ := letv_some hm
  refine WL_op (Run.eqB (Run_or (Opd.t rfl) (Opd.g rfl id)) e18) rfl rfl rfl rfl <| ?_
  refine WL_nil ?_
  refine At_then ?_
  refine WC_cond (Opd.t rfl) (fun hc19 => ?_) (fun hc19 => ?_)
  ·
    replace hm := bif_t hc19 hm
    refine WC_seq ?_
    refine WC_region ?_
    refine WL_op (Run_loadA (vs := [(.int .i64 d.1), (sl v1), (.int .i64 d.2.2.1), (.int .i64 d.2.2.2.1), (sl v3)]) Try.underlying29 rfl ti29 (Opd.t rfl) (fun _ => (hs.box (i := 1) rfl).part 0 rfl) rfl) rfl rfl rfl rfl <| ?_
    refine WS_store (us := [(.int .i64 d.1), (sl v1), (.int .i64 d.2.2.1), (.int .i64 d.2.2.2.1), (sl v3)]) (vs' := [(.int .i64 d.1), (sl v1), (.int .i64 d.2.2.1), (.int .i64 d.2.2.2.1), (sl v3)]) hs 0 rfl ti29 (Opd.t rfl) (Opd.t rfl) rfl rfl rfl rfl rfl ?_
    intro w20 hs
    replace hs := Sat.n5 (Γ := Φ) hs rfl
    refine WL_op (Run_assign Opd.c) rfl rfl rfl rfl <| WL_op (Run_assign Opd.c) rfl rfl rfl rfl <| ?_
    refine WL_nil ?_
    refine At_then ?_
    refine WC_ret ?_
    refine At_then_ret <| ?_
    refine At_r3 rfl (ResIs.cA (vs := [(.int .i64 d.1), (sl v1), (.int .i64 d.2.2.1), (.int .i64 d.2.2.2.1), (sl v3)]) rfl Try.underlying29 rfl ti29 ((hs.box (i := 0) rfl).part 0 rfl) rfl) (ResIs.t rfl) (ResIs.t rfl) ?_
    cases hm
    exact ⟨v1, v3, rfl, (hs.re 5 [2, 3] rfl)⟩
  ·
    replace hm := bif_f hc19 hm
    refine WC_skip ?_
    refine At_then ?_
    refine WC_seq ?_
    refine WC_seq ?_
    refine WC_region ?_
    refine WL_op (Run_loadA (vs := [(.int .i64 d.1), (sl v1), (.int .i64 d.2.2.1), (.int .i64 d.2.2.2.1), (sl v3)]) Try.underlying29 rfl ti29 (Opd.t rfl) (fun _ => (hs.box (i := 1) rfl).part 0 rfl) rfl) rfl rfl rfl rfl <| WL_op (Run_move (Opd.t rfl)) rfl rfl rfl rfl <| ?_
    obtain ⟨r21, hr22, hm⟩ := bind_some' hm
    refine WL_call (f := 20) (first := []) (cap := []) (xs := [(.tmp 20), (.tmp 21)]) (vs := [(.agg #[(.int .i64 d.1), (sl v1), (.int .i64 d.2.2.1), (.int .i64 d.2.2.2.1), (sl v3)]), (sl v5)]) (args := [(.agg #[(.int .i64 d.1), (sl v1), (.int .i64 d.2.2.1), (.int .i64 d.2.2.2.1), (sl v3)]), (sl v5)]) Try.call20 Opd.f (.cons (Opd.t rfl) (.cons (Opd.t rfl) .nil)) rfl rfl (dfa_Has_ok (hs.re 5 [2, 3, 4, 0, 1, 2, 3, 4] rfl) hr22) ?_
    rintro _ w23 ⟨rfl, hs⟩
    replace hs := Sat.n5 (Γ := Φ) hs rfl
    refine WL_nil ?_
    refine At_then ?_
    refine WC_cond (Opd.t rfl) (fun hc24 => ?_) (fun hc24 => ?_)
    ·
      replace hm := bif_t hc24 hm
      refine WC_seq ?_
      refine WC_region ?_
      refine WL_op (Run_loadA (vs := [(.int .i64 d.1), (sl v1), (.int .i64 d.2.2.1), (.int .i64 d.2.2.2.1), (sl v3)]) Try.underlying29 rfl ti29 (Opd.t rfl) (fun _ => (hs.box (i := 1) rfl).part 0 rfl) rfl) rfl rfl rfl rfl <| ?_
      refine WS_store (us := [(.int .i64 d.1), (sl v1), (.int .i64 d.2.2.1), (.int .i64 d.2.2.2.1), (sl v3)]) (vs' := [(.int .i64 d.1), (sl v1), (.int .i64 d.2.2.1), (.int .i64 d.2.2.2.1), (sl v3)]) hs 0 rfl ti29 (Opd.t rfl) (Opd.t rfl) rfl rfl rfl rfl rfl ?_
      intro w25 hs
      replace hs := Sat.n5 (Γ := Φ) hs rfl
      refine WL_op (Run_assign Opd.c) rfl rfl rfl rfl <| WL_op (Run_assign Opd.c) rfl rfl rfl rfl <| ?_
      refine WL_nil ?_
      refine At_then ?_
      refine WC_ret ?_
      refine At_then_ret <| ?_
      refine At_r3 rfl (ResIs.cA (vs := [(.int .i64 d.1), (sl v1), (.int .i64 d.2.2.1), (.int .i64 d.2.2.2.1), (sl v3)]) rfl Try.underlying29 rfl ti29 ((hs.box (i := 0) rfl).part 0 rfl) rfl) (ResIs.t rfl) (ResIs.t rfl) ?_
      cases hm
      exact ⟨v1, v3, rfl, (hs.re 5 [2, 3] rfl)⟩
    ·
      replace hm := bif_f hc24 hm
      refine WC_skip ?_
      refine At_then ?_
      refine WC_seq ?_
      refine WC_region ?_
      refine WL_op (Run_loadA (vs := [(.int .i64 d.1), (sl v1), (.int .i64 d.2.2.1), (.int .i64 d.2.2.2.1), (sl v3)]) Try.underlying29 rfl ti29 (Opd.t rfl) (fun _ => (hs.box (i := 1) rfl).part 0 rfl) rfl) rfl rfl rfl rfl <| ?_
      refine WS_makeMap mk54 mv54 hs rfl ?_
      intro b26 w27 hs
      replace hs := Sat.n6 (Γ := Φ) hs rfl
      refine WL_op (Run_build (parts := [(0, (.tmp 24)), (1, (.tmp 25))]) (v := (.agg #[(.int .i64 d.1), (sl v1), (.int .i64 d.2.2.1), (.int .i64 d.2.2.2.1), (sl v3), (.map (some b26))])) (.cons (Opd.t rfl) (.cons (Opd.t rfl) .nil)) (fun _ => by kernel_rfl)) rfl rfl rfl rfl <| ?_
      refine WS_box (zs := [(.int .i64 d.1), (sl v1), (.int .i64 d.2.2.1), (.int .i64 d.2.2.2.1), (sl v3), (.map (some b26))]) hs (Opd.t rfl) rfl rfl ?_
      intro b28 w29 hs
      replace hs := Sat.n7 (Γ := Φ) hs rfl
      refine WL_op (Run_assign (Opd.t rfl)) rfl rfl rfl rfl <| ?_
      refine WL_nil ?_
      refine At_then ?_
      refine WC_seq ?_
      refine WC_region_mixed [0, 0, 0, 4, 8, 0, 32, 80, 157, 413, 669, 1181, 4095, 8191, 12287, 20479] (.q 0 0 (.q 1 1 (.q 2 3 (.q 3 7 (.q 5 15 (.q 6 47 (.l 4 111 (.l 7 127 (.q 8 255 (.q 9 511 (.q 10 1023 (.l 11 2047 (.q 12 4095 (.q 13 8191 (.q 14 16383 (.l 15 32767 .nil)))))))))))))))) (by kernel_rfl) (by kernel_rfl) ?_
      intro w30 hx31
      replace hs := hs.ext hx31
      refine WD_pure (fun _ => (Run_move (Opd.t rfl))) rfl rfl rfl rfl <| WD_pure (fun _ => (Run_move (Opd.t rfl))) rfl rfl rfl rfl <| WD_pure (fun _ => (Run_fieldAddr fo29_1 (Opd.t rfl))) rfl rfl rfl rfl <| WD_op (fun w => CellsAt w ⟨b9, 1, none⟩ [(sl v1)]) ((hs.box (i := 3) rfl).part 1 rfl) (fun _ hJ => (Run_load1 (v := (sl v1)) Try.underlying26 rfl (Opd.t rfl) (fun _ => hJ))) rfl rfl rfl rfl <| WD_pure (fun _ => (Run_fieldAddr fo29_4 (Opd.t rfl))) rfl rfl rfl rfl <| WD_op (fun w => CellsAt w ⟨b9, 4, none⟩ [(sl v3)]) ((hs.box (i := 3) rfl).part 4 rfl) (fun _ hJ => (Run_load1 (v := (sl v3)) Try.underlying27 rfl (Opd.t rfl) (fun _ => hJ))) rfl rfl rfl rfl <| ?_
      refine WD_loud (pend' := [(6, fun w => CellsAt w ⟨b9, 4, none⟩ [(sl v3)])]) rfl (by kernel_rfl) ?_
      obtain ⟨r32, hr33, hm⟩ := bind_some' hm
      refine WL_call (f := 23) (first := []) (cap := []) (xs := [(.tmp 31)]) (vs := [(sl v1)]) (args := [(sl v1)]) Try.call23 Opd.f (.cons (Opd.t rfl) .nil) rfl rfl (slices_Clone_api_Node_api_Node_ok (hs.re 7 [4, 0, 1, 2, 3, 4, 5, 6] rfl) hr33) ?_
      rintro _ w36 ⟨v34, R35, rfl, hs⟩
      replace hs := Sat.n8 (Γ := Φ) hs rfl
      refine WL_nil ?_
      refine At_QK (allJ_cons ((hs.box (i := 4) rfl).part 4 rfl) allJ_nil) ?_
      refine WD_loud (pend' := []) rfl (by kernel_rfl) ?_
      obtain ⟨r37, hr38, hm⟩ := bind_some' hm
      refine WL_call (f := 24) (first := []) (cap := []) (xs := [(.tmp 34)]) (vs := [(sl v3)]) (args := [(sl v3)]) Try.call24 Opd.f (.cons (Opd.t rfl) .nil) rfl rfl (slices_Clone_int_int_ok (hs.re 8 [6, 0, 1, 2, 3, 4, 5, 6, 7] rfl) hr38) ?_
      rintro _ w41 ⟨v39, R40, rfl, hs⟩
      replace hs := Sat.n9 (Γ := Φ) hs rfl
      refine WL_nil ?_
      refine At_QK allJ_nil ?_
      refine WD_pure (fun _ => (Run_nilP (Opd.t rfl))) rfl rfl rfl rfl <| WD_pure (fun _ => (Run_fieldAddr fo56_0 (Opd.t rfl))) rfl rfl rfl rfl <| WD_pure (fun _ => (Run_fieldAddr fo29_1 (Opd.t rfl))) rfl rfl rfl rfl <| ?_
      refine WD_loud (pend' := []) rfl (by kernel_rfl) ?_
      refine WS_store (us := [(sl v34)]) (vs' := [(.int .i64 d.1), (sl v34), (.int .i64 d.2.2.1), (.int .i64 d.2.2.2.1), (sl v3), (.map (some b26))]) hs 2 rfl ti26 (Opd.t rfl) (Opd.t rfl) rfl rfl rfl rfl rfl ?_
      intro w42 hs
      replace hs := Sat.n9 (Γ := Φ) hs rfl
      refine WL_nil ?_
      refine At_QK allJ_nil ?_
      refine WD_pure (fun _ => (Run_nilP (Opd.t rfl))) rfl rfl rfl rfl <| WD_pure (fun _ => (Run_fieldAddr fo56_0 (Opd.t rfl))) rfl rfl rfl rfl <| WD_pure (fun _ => (Run_fieldAddr fo29_4 (Opd.t rfl))) rfl rfl rfl rfl <| ?_
      refine WD_loud (pend' := []) rfl (by kernel_rfl) ?_
      refine WS_store (us := [(sl v39)]) (vs' := [(.int .i64 d.1), (sl v34), (.int .i64 d.2.2.1), (.int .i64 d.2.2.2.1), (sl v39), (.map (some b26))]) hs 2 rfl ti27 (Opd.t rfl) (Opd.t rfl) rfl rfl rfl rfl rfl ?_
      intro w43 hs
      replace hs := Sat.n9 (Γ := Φ) hs rfl
      refine WL_nil ?_
      refine At_QK allJ_nil ?_
      refine WD_nil ?_
      refine At_then ?_
      refine WC_seq ?_
      refine WC_region ?_
      refine WL_op (Run_move (Opd.t rfl)) rfl rfl rfl rfl <| WL_op (Run_nilP (Opd.t rfl)) rfl rfl rfl rfl <| WL_op (Run_fieldAddr fo56_0 (Opd.t rfl)) rfl rfl rfl rfl <| WL_op (Run_fieldAddr fo29_2 (Opd.t rfl)) rfl rfl rfl rfl <| WL_op (Run_load1 (v := (.int .i64 d.2.2.1)) Try.underlying3 rfl (Opd.t rfl) (fun _ => (hs.box (i := 2) rfl).part 2 rfl)) rfl rfl rfl rfl <| WL_op (Run_assign (Opd.t rfl)) rfl rfl rfl rfl <| ?_
      refine WL_nil ?_
      refine At_then ?_
      refine WC_seq ?_
      refine WC_region ?_
      refine WL_op (Run_move (Opd.t rfl)) rfl rfl rfl rfl <| WL_op (Run_move (Opd.t rfl)) rfl rfl rfl rfl <| WL_op (Run_move (Opd.t rfl)) rfl rfl rfl rfl <| WL_op (Run_move (Opd.t rfl)) rfl rfl rfl rfl <| ?_
      obtain ⟨r44, hr45, hm⟩ := bind_some' hm
      refine WL_call (f := 25) (first := []) (cap := []) (xs := [(.tmp 48), (.tmp 49), (.tmp 50)]) (vs := [(.pointer (some ⟨b28, 0, none⟩)), (.int .i64 d.2.2.1), (sl v5)]) (args := [(.pointer (some ⟨b28, 0, none⟩)), (.int .i64 d.2.2.1), (sl v5)]) Try.call25 Opd.f (.cons (Opd.t rfl) (.cons (Opd.t rfl) (.cons (Opd.t rfl) .nil))) rfl rfl (dfa_work_put_ok (young := (some [] : (Option (List (Int × Bool))))) (hs.re 9 [2, 8, 1, 0, 3, 4, 5, 6, 7, 8] rfl) hr45) ?_
      rintro _ w50 ⟨v46, R47, v48, R49, rfl, hs⟩
      replace hs := Sat.n9 (Γ := Φ) hs rfl
      refine WL_op (Run_nilP (Opd.t rfl)) rfl rfl rfl rfl <| WL_op (Run_fieldAddr fo56_0 (Opd.t rfl)) rfl rfl rfl rfl <| WL_op (Run_fieldAddr fo29_2 (Opd.t rfl)) rfl rfl rfl rfl <| ?_
      refine WS_store (us := [(.int .i64 r44.1)]) (vs' := [(.int .i64 d.1), (sl v46), (.int .i64 r44.1), (.int .i64 d.2.2.2.1), (sl v48), (.map (some b26))]) hs 0 rfl ti3 (Opd.t rfl) (Opd.t rfl) rfl rfl rfl rfl rfl ?_
      intro w51 hs
      replace hs := Sat.n9 (Γ := Φ) hs rfl
      refine WL_nil ?_
      refine At_then ?_
      refine WC_seq ?_
      refine WC_region_mixed [0, 1, 2, 4, 8, 0, 32, 64, 128, 256, 528, 1024, 2048, 4096, 16383, 32767, 49151] (.q 0 0 (.q 1 1 (.q 2 3 (.q 3 7 (.q 4 15 (.q 5 31 (.q 6 63 (.q 7 127 (.q 8 255 (.q 9 511 (.q 10 1023 (.q 11 2047 (.q 12 4095 (.q 13 8191 (.q 14 16383 (.q 15 32767 (.l 16 65535 .nil))))))))))))))))) (by kernel_rfl) (by kernel_rfl) ?_
      intro w52 hx53
      replace hs := hs.ext hx53
      refine WD_pure (fun _ => (Run_move (Opd.t rfl))) rfl rfl rfl rfl <| WD_pure (fun _ => (Run_nilP (Opd.t rfl))) rfl rfl rfl rfl <| WD_pure (fun _ => (Run_fieldAddr fo56_0 (Opd.t rfl))) rfl rfl rfl rfl <| WD_pure (fun _ => (Run_fieldAddr fo29_1 (Opd.t rfl))) rfl rfl rfl rfl <| WD_op (fun w => CellsAt w ⟨b28, 1, none⟩ [(sl v46)]) ((hs.box (i := 0) rfl).part 1 rfl) (fun _ hJ => (Run_load1 (v := (sl v46)) Try.underlying26 rfl (Opd.t rfl) (fun _ => hJ))) rfl rfl rfl rfl <| WD_pure (fun _ => (Run_move (Opd.t rfl))) rfl rfl rfl rfl <| WD_pure (fun _ => (Run_nilP (Opd.t rfl))) rfl rfl rfl rfl <| WD_pure (fun _ => (Run_fieldAddr fo56_0 (Opd.t rfl))) rfl rfl rfl rfl <| ?_
      refine WD_pure (fun _ => (Run_fieldAddr fo29_2 (Opd.t rfl))) rfl rfl rfl rfl <| WD_op (fun w => CellsAt w ⟨b28, 2, none⟩ [(.int .i64 r44.1)]) ((hs.box (i := 0) rfl).part 2 rfl) (fun _ hJ => (Run_load1 (v := (.int .i64 r44.1)) Try.underlying3 rfl (Opd.t rfl) (fun _ => hJ))) rfl rfl rfl rfl <| ?_
      obtain ⟨e54, he55, hm⟩ := bind_some' hm
      obtain ⟨v56, hC57, hN58, hR59⟩ := cellsMO60 (g := true) (fun hg => (hs.own (i := 1) rfl)) (fun hg => he55)
      replace hs := hs.addL [imm (RSl (RP (RI .u8) (RI .i64))) [sl v56] e54.1] rfl ⟨⟨_, rfl, hR59 rfl⟩, trivial⟩
      replace hs := Sat.n10 (Γ := Φ) hs rfl
      refine WD_pure (fun _ => (Run_idxAddr (p := (elA (sl v46) r44.1 2)) Try.underlying26 ti60 (Opd.t rfl) (Opd.t rfl) (fun hg => (Own.atA (A := (RP (RSl (RP (RI .u8) (RI .i64))) (RI .i64))) (v := (sl v46)) (hs.own (i := 2) rfl) he55).1))) rfl rfl rfl rfl <| WD_pure (fun _ => (Run_fieldAddr fo60_1 (Opd.t rfl))) rfl rfl rfl rfl <| WD_op (fun w => true = true → CellsAt w ((elA (sl v46) r44.1 2).add 1) [(.int .i64 e54.2)]) (fun hg => ((hC57 hg).sub (us := [(.int .i64 e54.2)]) 1 rfl).sub 0 rfl) (fun _ hJ => (Run_load1 (v := (.int .i64 e54.2)) Try.underlying3 rfl (Opd.t rfl) hJ)) rfl rfl rfl rfl <| WD_pure (fun _ => (Run_add (Opd.t rfl) Opd.c)) rfl rfl rfl rfl <| ?_
      obtain ⟨e60, he61, hm⟩ := bind_some' hm
      obtain ⟨v62, hC63, hN64, hR65⟩ := cellsMO60 (g := true) (fun hg => (hs.own (i := 2) rfl)) (fun hg => he61)
      replace hs := hs.addL [imm (RSl (RP (RI .u8) (RI .i64))) [sl v62] e60.1] rfl ⟨⟨_, rfl, hR65 rfl⟩, trivial⟩
      replace hs := Sat.n11 (Γ := Φ) hs rfl
      refine WD_pure (fun _ => (Run_idxAddr (p := (elA (sl v46) r44.1 2)) Try.underlying26 ti60 (Opd.t rfl) (Opd.t rfl) (fun hg => (Own.atA (A := (RP (RSl (RP (RI .u8) (RI .i64))) (RI .i64))) (v := (sl v46)) (hs.own (i := 3) rfl) he61).1))) rfl rfl rfl rfl <| WD_pure (fun _ => (Run_fieldAddr fo60_1 (Opd.t rfl))) rfl rfl rfl rfl <| ?_
      refine WD_loud (pend' := []) rfl (by kernel_rfl) ?_
      refine WS_storeEl (A := (RP (RSl (RP (RI .u8) (RI .i64))) (RI .i64))) (k := 1) (us := [(.int .i64 (IntKind.i64.wrap (e54.2 + 1)))]) (vs := [(sl v62), (.int .i64 e60.2)]) (vs' := [(sl v62), (.int .i64 (IntKind.i64.wrap (e54.2 + 1)))]) (u := (e60.1, (IntKind.i64.wrap (e54.2 + 1)))) hs 3 rfl ti3 he61 (Opd.t rfl) (Opd.t rfl) rfl rfl rfl (hC63 rfl) rfl rfl rfl ⟨_, _, rfl, ⟨_, rfl, (hs.sl (i := 0) rfl)⟩, rfl⟩ ?_
      intro w66 hs
      replace hs := Sat.n11 (Γ := Φ) hs rfl
      refine WL_nil ?_
      refine At_QK allJ_nil ?_
      refine WD_nil ?_
      refine At_then ?_
      refine WC_seq_cut (γ := (List ((List (Int × Int)) × Int)) × (List Int) × SLV × List Nat) (fun ⟨l68, c69, v70, R71⟩ w67 => dfa_Insert_K1 d r44 l68 c69 = some r ∧ Sat (box b11 29 [(.int .i64 0), (sl (none, 0, 0)), (.int .i64 0), (.int .i64 0), (sl (none, 0, 0))] :: box b28 56 [(.int .i64 d.1), (sl v46), (.int .i64 r44.1), (.int .i64 d.2.2.2.1), (sl v70), (.map (some b26))] :: osl (RP (RSl (RP (RI .u8) (RI .i64))) (RI .i64)) 60 (sl v46) l68 R47 :: osl (RI .i64) 3 (sl v70) c69 R71 :: omap mk54 mv54 (.map (some b26)) r44.2.2.2 :: Φ) w67) (fun ⟨l68, c69, v70, R71⟩ => [(4, true, (.pointer (some ⟨b11, 0, none⟩))), (7, true, (.pointer (some ⟨b28, 0, none⟩)))]) ?_ ?_
      ·
        rintro ⟨l68, c69, v70, R71⟩ w67 ⟨hm, hs⟩
        unfold dfa_Insert_K1 at hm
        refine WC_seq ?_
        refine WC_region ?_
        refine WL_op (Run_move (Opd.t rfl)) rfl rfl rfl rfl <| WL_op (Run_nilP (Opd.t rfl)) rfl rfl rfl rfl <| WL_op (Run_fieldAddr fo56_0 (Opd.t rfl)) rfl rfl rfl rfl <| WL_op (Run_fieldAddr fo29_3 (Opd.t rfl)) rfl rfl rfl rfl <| WL_op (Run_load1 (v := (.int .i64 d.2.2.2.1)) Try.underlying3 rfl (Opd.t rfl) (fun _ => (hs.box (i := 1) rfl).part 3 rfl)) rfl rfl rfl rfl <| WL_op (Run_add (Opd.t rfl) Opd.c) rfl rfl rfl rfl <| WL_op (Run_nilP (Opd.t rfl)) rfl rfl rfl rfl <| WL_op (Run_fieldAddr fo56_0 (Opd.t rfl)) rfl rfl rfl rfl <| ?_
        refine WL_op (Run_fieldAddr fo29_3 (Opd.t rfl)) rfl rfl rfl rfl <| ?_
        refine WS_store (us := [(.int .i64 (IntKind.i64.wrap (d.2.2.2.1 + 1)))]) (vs' := [(.int .i64 d.1), (sl v46), (.int .i64 r44.1), (.int .i64 (IntKind.i64.wrap (d.2.2.2.1 + 1))), (sl v70), (.map (some b26))]) hs 1 rfl ti3 (Opd.t rfl) (Opd.t rfl) rfl rfl rfl rfl rfl ?_
        intro w72 hs
        replace hs := Sat.n5 (Γ := Φ) hs rfl
        refine WL_nil ?_
        refine At_then ?_
        refine WC_seq ?_
        refine WC_region ?_
        refine WL_op (Run_move (Opd.t rfl)) rfl rfl rfl rfl <| WL_op (Run_nilP (Opd.t rfl)) rfl rfl rfl rfl <| WL_op (Run_fieldAddr fo56_0 (Opd.t rfl)) rfl rfl rfl rfl <| WL_op (Run_loadA (vs := [(.int .i64 d.1), (sl v46), (.int .i64 r44.1), (.int .i64 (IntKind.i64.wrap (d.2.2.2.1 + 1))), (sl v70)]) Try.underlying29 rfl ti29 (Opd.t rfl) (fun _ => (hs.box (i := 1) rfl).part 0 rfl) rfl) rfl rfl rfl rfl <| ?_
        refine WS_store (us := [(.int .i64 d.1), (sl v46), (.int .i64 r44.1), (.int .i64 (IntKind.i64.wrap (d.2.2.2.1 + 1))), (sl v70)]) (vs' := [(.int .i64 d.1), (sl v46), (.int .i64 r44.1), (.int .i64 (IntKind.i64.wrap (d.2.2.2.1 + 1))), (sl v70)]) hs 0 rfl ti29 (Opd.t rfl) (Opd.t rfl) rfl rfl rfl rfl rfl ?_
        intro w73 hs
        replace hs := Sat.n5 (Γ := Φ) hs rfl
        refine WL_op (Run_assign Opd.c) rfl rfl rfl rfl <| WL_op (Run_assign Opd.c) rfl rfl rfl rfl <| ?_
        refine WL_nil ?_
        refine At_then ?_
        refine WC_ret ?_
        refine At_r3 rfl (ResIs.cA (vs := [(.int .i64 d.1), (sl v46), (.int .i64 r44.1), (.int .i64 (IntKind.i64.wrap (d.2.2.2.1 + 1))), (sl v70)]) rfl Try.underlying29 rfl ti29 ((hs.box (i := 0) rfl).part 0 rfl) rfl) (ResIs.t rfl) (ResIs.t rfl) ?_
        replace hs := hs.freeze (i := 2) rfl
        replace hs := hs.freeze (i := 3) rfl
        cases hm
        exact ⟨v46, v70, rfl, (hs.re 5 [2, 3] rfl)⟩
      ·
        refine WC_seq ?_
        refine WC_region ?_
        refine WL_op (Run_move (Opd.t rfl)) rfl rfl rfl rfl <| WL_op (Run_neI (Opd.t rfl) Opd.c) rfl rfl rfl rfl <| ?_
        refine WL_nil ?_
        refine At_then ?_
        refine WC_cond (Opd.t rfl) (fun hc74 => ?_) (fun hc74 => ?_)
        ·
          replace hm := bif_t hc74 hm
          refine WC_region ?_
          refine WL_op (Run_move (Opd.t rfl)) rfl rfl rfl rfl <| WL_op (Run_move (Opd.t rfl)) rfl rfl rfl rfl <| ?_
          obtain ⟨r75, hr76, hm⟩ := bind_some' hm
          refine WL_call (f := 26) (first := []) (cap := []) (xs := [(.tmp 73), (.tmp 74)]) (vs := [(.pointer (some ⟨b28, 0, none⟩)), (.int .i64 d.2.2.1)]) (args := [(.pointer (some ⟨b28, 0, none⟩)), (.int .i64 d.2.2.1)]) Try.call26 Opd.f (.cons (Opd.t rfl) (.cons (Opd.t rfl) .nil)) rfl rfl (dfa_work_leave_ok (Node := (List.set r44.2.1 (Int.toNat r44.1) (e60.1, (IntKind.i64.wrap (e54.2 + 1))))) (hs.re 11 [2, 3, 4, 5, 0, 1, 6, 7, 8, 9, 10] rfl) hr76) ?_
          rintro _ w79 ⟨v77, R78, rfl, hs⟩
          replace hs := Sat.n11 (Γ := Φ) hs rfl
          refine WL_nil ?_
          exact At_join (r75.1, r75.2, v77, R78) ⟨hm, (hs.re 11 [6, 0, 1, 2, 3] rfl)⟩ rfl
        ·
          replace hm := bif_f hc74 hm
          refine WC_skip ?_
          exact At_join ((List.set r44.2.1 (Int.toNat r44.1) (e60.1, (IntKind.i64.wrap (e54.2 + 1)))), r44.2.2.1, v48, R49) ⟨hm, (hs.re 11 [6, 2, 3, 4, 5] rfl)⟩ rfl

set_option maxRecDepth 100000 in
set_option maxHeartbeats 4000000 in
theorem dfa_Size_ok {Φ : Ctx} {w : World} {d : (Int × (List ((List (Int × Int)) × Int)) × Int × Int × (List Int))} {v1 : SLV} {v3 : SLV} {r : Int} (hs : Sat (imm (RSl (RP (RSl (RP (RI .u8) (RI .i64))) (RI .i64))) [sl v1] d.2.1 :: imm (RSl (RI .i64)) [sl v3] d.2.2.2.2 :: Φ) w) (hm : dfa_Size d = some r) :
    CallsR Try.prog 16 [(.agg #[(.int .i64 d.1), (sl v1), (.int .i64 d.2.2.1), (.int .i64 d.2.2.2.1), (sl v3)])] w (fun v w' => v = (.int .i64 r) ∧ Sat (Φ) w') := by
  refine CallsX_enter Try.func16 rfl Try.ntmps16 rfl ?_
  unfold dfa_Size at hm
  refine WC_seq ?_
  refine WC_region ?_
  refine WS_box (zs := [(.int .i64 d.1), (sl v1), (.int .i64 d.2.2.1), (.int .i64 d.2.2.2.1), (sl v3)]) hs (Opd.t rfl) rfl rfl ?_
  intro b3 w4 hs
  replace hs := Sat.n3 (Γ := Φ) hs rfl
  refine WL_op (Run_assign Opd.c) rfl rfl rfl rfl <| ?_
  refine WL_nil ?_
  refine At_then ?_
  refine WC_seq ?_
  refine WC_region ?_
  refine WL_op (Run_fieldAddr fo29_1 (Opd.t rfl)) rfl rfl rfl rfl <| WL_op (Run_load1 (v := (sl v1)) Try.underlying26 rfl (Opd.t rfl) (fun _ => (hs.box (i := 0) rfl).part 1 rfl)) rfl rfl rfl rfl <| WL_op (Run_lenSlG Try.underlying26 (Opd.t rfl) (fun hg => (hs.sl (i := 1) rfl).len)) rfl rfl rfl rfl <| WL_op (Run_fieldAddr fo29_4 (Opd.t rfl)) rfl rfl rfl rfl <| WL_op (Run_load1 (v := (sl v3)) Try.underlying27 rfl (Opd.t rfl) (fun _ => (hs.box (i := 0) rfl).part 4 rfl)) rfl rfl rfl rfl <| WL_op (Run_lenSlG Try.underlying27 (Opd.t rfl) (fun hg => (hs.sl (i := 2) rfl).len)) rfl rfl rfl rfl <| WL_op (Run_sub (Opd.t rfl) (Opd.t rfl)) rfl rfl rfl rfl <| WL_op (Run_assign (Opd.t rfl)) rfl rfl rfl rfl <| ?_
  refine WL_nil ?_
  refine At_then ?_
  refine WC_ret ?_
  refine At_r1 rfl (ResIs.t rfl) ?_
  cases hm
  exact ⟨rfl, (hs.re 3 [] rfl)⟩

set_option maxRecDepth 100000 in
set_option maxHeartbeats 4000000 in
theorem dfa_Many_ok {Φ : Ctx} {w : World} {d : (Int × (List ((List (Int × Int)) × Int)) × Int × Int × (List Int))} {v1 : SLV} {v3 : SLV} {r : Int} (hs : Sat (imm (RSl (RP (RSl (RP (RI .u8) (RI .i64))) (RI .i64))) [sl v1] d.2.1 :: imm (RSl (RI .i64)) [sl v3] d.2.2.2.2 :: Φ) w) (hm : dfa_Many d = some r) :
    CallsR Try.prog 15 [(.agg #[(.int .i64 d.1), (sl v1), (.int .i64 d.2.2.1), (.int .i64 d.2.2.2.1), (sl v3)])] w (fun v w' => v = (.int .i64 r) ∧ Sat (Φ) w') := by
  refine CallsX_enter Try.func15 rfl Try.ntmps15 rfl ?_
  unfold dfa_Many at hm
  refine WC_seq ?_
  refine WC_region ?_
  refine WS_box (zs := [(.int .i64 d.1), (sl v1), (.int .i64 d.2.2.1), (.int .i64 d.2.2.2.1), (sl v3)]) hs (Opd.t rfl) rfl rfl ?_
  intro b3 w4 hs
  replace hs := Sat.n3 (Γ := Φ) hs rfl
  refine WL_op (Run_assign Opd.c) rfl rfl rfl rfl <| ?_
  refine WL_nil ?_
  refine At_then ?_
  refine WC_seq ?_
  refine WC_region ?_
  refine WL_op (Run_fieldAddr fo29_3 (Opd.t rfl)) rfl rfl rfl rfl <| WL_op (Run_load1 (v := (.int .i64 d.2.2.2.1)) Try.underlying3 rfl (Opd.t rfl) (fun _ => (hs.box (i := 0) rfl).part 3 rfl)) rfl rfl rfl rfl <| WL_op (Run_assign (Opd.t rfl)) rfl rfl rfl rfl <| ?_
  refine WL_nil ?_
  refine At_then ?_
  refine WC_ret ?_
  refine At_r1 rfl (ResIs.t rfl) ?_
  cases hm
  exact ⟨rfl, (hs.re 3 [] rfl)⟩

set_option maxRecDepth 100000 in
set_option maxHeartbeats 4000000 in
theorem slices_Clip_byte_byte_ok {Φ : Ctx} {w : World} {s : (List Int)} {v1 : SLV} {r : (List Int)} (hs : Sat (imm (RSl (RI .u8)) [sl v1] s :: Φ) w) (hm : slices_Clip_byte_byte s = some r) :
    CallsR Try.prog 30 [(sl v1)] w (fun v w' => ∃ pa3 : Option Addr, v = (sl (pa3, List.length r, List.length r)) ∧ Sat (imm (RSl (RI .u8)) [sl (pa3, List.length r, List.length r)] r :: Φ) w') := by
  refine CallsX_enter Try.func30 rfl Try.ntmps30 rfl ?_
  unfold slices_Clip_byte_byte at hm
  refine WC_seq ?_
  refine WC_region ?_
  refine WL_op (Run_assign Opd.c) rfl rfl rfl rfl <| ?_
  refine WL_nil ?_
  refine At_then ?_
  refine WC_seq ?_
  refine WC_region ?_
  refine WL_op (Run_move (Opd.t rfl)) rfl rfl rfl rfl <| WL_op (Run_move (Opd.t rfl)) rfl rfl rfl rfl <| WL_op (Run_lenSlG Try.underlying23 (Opd.t rfl) (fun hg => (hs.sl (i := 0) rfl).len)) rfl rfl rfl rfl <| WL_op (Run_move (Opd.t rfl)) rfl rfl rfl rfl <| WL_op (Run_lenSlG Try.underlying23 (Opd.t rfl) (fun hg => (hs.sl (i := 0) rfl).len)) rfl rfl rfl rfl <| ?_
  obtain ⟨k7, hm⟩ := chk_some hm
  obtain ⟨pa8, hv4, h6⟩ := SRd.cut3C (A := (RI .u8)) (M := Ctx.M _) (hs.sl (i := 0) rfl) k7
  refine WL_op (Run_cutSl3 (lo := none) (hi := (some (.tmp 5))) Try.underlying23 ti5 (Opd.t rfl) (fun hg => (hs.sl (i := 0) rfl).len) rfl ⟨_, (Opd.t rfl)⟩ (Opd.t rfl) (fun _ => hv4)) rfl rfl rfl rfl <| ?_
  replace hs := hs.addS h6
  refine WL_op (Run_assign (Opd.t rfl)) rfl rfl rfl rfl <| ?_
  refine WL_nil ?_
  refine At_then ?_
  refine WC_ret ?_
  refine At_r1 rfl (ResIs.t rfl) ?_
  cases hm
  exact ⟨pa8, rfl, (hs.re 2 [0] rfl)⟩

end Go.Proofs.Ytjappdgehmjomaa
