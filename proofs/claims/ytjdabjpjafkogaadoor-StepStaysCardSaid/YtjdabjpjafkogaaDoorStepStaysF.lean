/-
  Own texts for the statement StepStays, cut down to what it needs: Walk26, TrA, TrPa, TrSys, TrPb, TrRKey, TrRRead. (cut and joined by a program)
-/
import Derived.Test.YtjdabjpjafkogaaDoorStepStaysA
import Derived.Test.YtjdabjpjafkogaaDoorStepStaysB
import Derived.Test.YtjdabjpjafkogaaDoorStepStaysC
import Derived.Test.YtjdabjpjafkogaaDoorStepStaysD
import Derived.Test.YtjdabjpjafkogaaDoorStepStaysE
import Derived.KernelRfl
namespace Go.Proofs.YtjdabjpjafkogaaDoor
open Go.Proofs
set_option maxRecDepth 100000 in
set_option maxHeartbeats 4000000 in
theorem scrutinylaw15_StepStays_ok {Φ : Ctx} {w : World} {text : Str} {v1 : (List Int)} {v2 : SLV} {r : Bool} (hs : Sat (imm (RSl (RI .i64)) [sl v2] v1 :: gl 0 (pow10L.map (Value.int .u64)) :: Φ) w) (hm : scrutinylaw15_StepStays text v1 = some r) :
  CallsR Tryd.prog 7 [(S text), (sl v2)] w (fun v w' => v = (.bool r) ∧ Sat (Φ) w') := by
 refine CallsX_enter Tryd.func7 rfl Tryd.ntmps7 rfl ?_
 unfold scrutinylaw15_StepStays at hm
 refine WC_seq <| WC_region ?_
 refine Wo (Run_assign Opd.c) rfl <| ?_
 refine WL_nil <| At_then <| WC_seq <| WC_region ?_
 obtain ⟨r3, hr4, hm⟩ := bind_some' hm
 refine WL_call (f := 9) (first := []) (cap := []) (xs := []) (vs := []) (args := []) Tryd.call9 Opd.f .nil rfl rfl (scrutinylaw15_shown_ok (hs.re 2 [1, 0, 1] rfl) hr4) ?_
 rintro _ w5 ⟨rfl, hs⟩
 replace hs := Sat.n2 (Γ := Φ) hs rfl
 refine Wo (Run_assign (O rfl)) rfl <| ?_
 refine WL_nil <| At_then <| WC_seq <| WC_region ?_
 refine Wo (Run_move (O rfl)) rfl <| ?_
 obtain ⟨r6, hr7, hm⟩ := bind_some' hm
 refine WL_call (f := 10) (first := []) (cap := []) (xs := [(.tmp 25)]) (vs := [(S text)]) (args := [(S text)]) Tryd.call10 Opd.f (.cons (O rfl) .nil) rfl rfl (scrutinyref15_Of_ok (hs.re 2 [0, 1] rfl) hr7) ?_
 rintro _ w18 ⟨v8, R9, v10, R11, v12, R13, v14, R15, v16, R17, rfl, hs⟩
 replace hs := Sat.n7 (Γ := Φ) hs rfl
 refine Wo (Run_move (O rfl)) rfl <| Wo (Run_extract (vs := [(.agg #[(sl v8), (sl v10), (sl v12), (sl v14), (sl v16)]), (.bool r6.2)]) (O rfl) rfl) rfl <| Wo (Run_extract (vs := [(.agg #[(sl v8), (sl v10), (sl v12), (sl v14), (sl v16)]), (.bool r6.2)]) (O rfl) rfl) rfl <| ?_
 refine WS_alloc (zs := [(sl (none, 0, 0)), (sl (none, 0, 0)), (sl (none, 0, 0)), (sl (none, 0, 0)), (sl (none, 0, 0))]) hs ti28 rfl rfl ?_
 intro b19 w20 hs
 replace hs := Sat.n8 (Γ := Φ) hs rfl
 refine WS_store (us := [(sl v8), (sl v10), (sl v12), (sl v14), (sl v16)]) (vs' := [(sl v8), (sl v10), (sl v12), (sl v14), (sl v16)]) hs 0 rfl ti28 (O rfl) (O rfl) rfl rfl rfl rfl rfl ?_
 intro w21 hs
 replace hs := Sat.n8 (Γ := Φ) hs rfl
 refine Wo (Run_assign (O rfl)) rfl <| ?_
 refine WL_nil <| At_then <| WC_seq <| WC_seq <| WC_region ?_
 refine Wo (Run_move (O rfl)) rfl <| ?_
 obtain ⟨b22, e23, hm⟩ := letv_some hm
 refine Wo (Run.eqB (Run_notB (O rfl)) e23) rfl <| Wo (Run_move (O rfl)) rfl <| Wg rfl guard_neg (Run_loadA (vs := [(sl v8), (sl v10), (sl v12), (sl v14), (sl v16)]) Tryd.underlying28 rfl ti28 (O rfl) (fun _ => (hs.box (i := 0) rfl).part 0 rfl) rfl) rfl <| Wg rfl guard_neg (Run_move (O rfl)) rfl <| ?_
 replace hs := hs.freeze (i := 1) rfl
 replace hs := hs.freeze (i := 2) rfl
 replace hs := hs.freeze (i := 3) rfl
 replace hs := hs.freeze (i := 4) rfl
 replace hs := hs.freeze (i := 5) rfl
 obtain ⟨r24, hr25, -, hm⟩ := callG_some hm
 refine WL_callG rfl rfl rfl guard_neg (f := 11) (first := []) (cap := []) (xs := [(.tmp 32), (.tmp 33)]) (vs := [(.agg #[(sl v8), (sl v10), (sl v12), (sl v14), (sl v16)]), (sl v2)]) (args := [(.agg #[(sl v8), (sl v10), (sl v12), (sl v14), (sl v16)]), (sl v2)]) Tryd.call11 Opd.f (.cons (Opd.g rfl id) (.cons (Opd.g rfl id) .nil)) rfl rfl (fun hg => scrutinyref15_In_ok (hs.re 8 [1, 2, 3, 4, 5, 6, 0, 1, 2, 3, 4, 5, 6, 7] rfl) (hr25 hg)) ?_
 intro v27 w26 hv28 hz29
 replace hs := Sat.ofG (fun hg => (hv28 hg).2.re 8 [0, 1, 2, 3, 4, 5, 6, 7] rfl) hz29 hs
 refine WL_sub1 (v := (.bool r24)) (fun hg => (hv28 hg).1) ?_
 replace hs := Sat.n8 (Γ := Φ) hs rfl
 obtain ⟨b30, e31, hm⟩ := letv_some hm
 refine Wg rfl guard_neg (Run.eqB (Run_notB (Opd.g rfl id)) e31) rfl <| ?_
 obtain ⟨b32, e33, hm⟩ := letv_some hm
 refine Wo (Run.eqB (Run_or (O rfl) (Opd.g rfl id)) e33) rfl <| Wo (Run_move (O rfl)) rfl <| Wg rfl guard_neg (Run_fieldAddr fo28_0 (O rfl)) rfl <| Wg rfl guard_neg (Run_load1 (v := (sl v8)) Tryd.underlying24 rfl (Opd.g rfl id) (fun _ => (hs.box (i := 0) rfl).part 0 rfl)) rfl <| Wg rfl guard_neg (Run_lenSlG Tryd.underlying24 (Opd.g rfl id) (fun hg => (hs.sl (i := 1) rfl).len)) rfl <| ?_
 obtain ⟨b34, e35, hm⟩ := letv_some hm
 refine Wg rfl guard_neg (Run.eqB (Run_ltI (Opd.g rfl id) Opd.c) e35) rfl <| ?_
 obtain ⟨b36, e37, hm⟩ := letv_some hm
 refine Wo (Run.eqB (Run_or (O rfl) (Opd.g rfl id)) e37) rfl <| Wo (Run_move (O rfl)) rfl <| Wg rfl guard_neg (Run_fieldAddr fo28_3 (O rfl)) rfl <| Wg rfl guard_neg (Run_load1 (v := (sl v14)) Tryd.underlying24 rfl (Opd.g rfl id) (fun _ => (hs.box (i := 0) rfl).part 3 rfl)) rfl <| Wg rfl guard_neg (Run_lenSlG Tryd.underlying24 (Opd.g rfl id) (fun hg => (hs.sl (i := 4) rfl).len)) rfl <| ?_
 obtain ⟨b38, e39, hm⟩ := letv_some hm
 refine Wg rfl guard_neg (Run.eqB (Run_ltI (Opd.g rfl id) Opd.c) e39) rfl <| ?_
 obtain ⟨b40, e41, hm⟩ := letv_some hm
 refine Wo (Run.eqB (Run_or (O rfl) (Opd.g rfl id)) e41) rfl <| ?_
 refine WL_nil <| At_then ?_
 refine WC_cond (O rfl) (fun hc42 => ?_) (fun hc42 => ?_)
 ·
  replace hm := bif_t hc42 hm
  refine WC_seq <| WC_region ?_
  refine Wo (Run_move (O rfl)) rfl <| Wo (Run_assign (O rfl)) rfl <| ?_
  refine WL_nil <| At_then ?_
  refine WC_ret ?_
  refine At_then_ret <| ?_
  refine At_r1 rfl (ResIs.t rfl) ?_
  cases hm
  exact ⟨rfl, (hs.re 8 [] rfl)⟩
 ·
  replace hm := bif_f hc42 hm
  refine WC_skip ?_
  refine At_then <| WC_seq <| WC_seq <| WC_region ?_
  refine Wo (Run_assign Opd.c) rfl <| ?_
  refine WL_nil <| At_then ?_
  refine WC_block ?_
  refine WC_loop (σ := Int) (γ := Unit) (F := (scrutinylaw15_StepStays_L1 v1 r3 r6)) (N := FUEL) (s0 := 0) (r := r) (fun i44 (_ : Unit) w43 => Sat (imm (RSl (RI .i64)) [sl v2] v1 :: box b19 28 [(sl v8), (sl v10), (sl v12), (sl v14), (sl v16)] :: imm (RSl RS) [sl v8] r6.1.1 :: imm (RSl (RP (RI .i64) (RI .i64))) [sl v10] r6.1.2.1 :: imm (RSl (RI .i64)) [sl v12] r6.1.2.2.1 :: imm (RSl RS) [sl v14] r6.1.2.2.2.1 :: imm (RSl (RP (RI .i64) (RP RExpr (RSl (RP (RI .i64) RExpr))))) [sl v16] r6.1.2.2.2.2 :: gl 0 (pow10L.map (Value.int .u64)) :: Φ) w43) (fun i44 (_ : Unit) => [(1, true, (sl v2)), (5, true, (.bool r3)), (6, true, (.pointer (some ⟨b19, 0, none⟩))), (8, true, (.int .i64 i44))]) hm () (hs.re 8 [6, 0, 1, 2, 3, 4, 5, 7] rfl) rfl ?_
  rintro again45 i44 _ w43 hm hs
  unfold scrutinylaw15_StepStays_L1 at hm
  refine WC_seq <| WC_seq <| WC_region ?_
  refine Wo (Run_move (O rfl)) rfl <| Wo (Run_fieldAddr fo28_4 (O rfl)) rfl <| Wo (Run_load1 (v := (sl v16)) Tryd.underlying26 rfl (O rfl) (fun _ => (hs.box (i := 1) rfl).part 4 rfl)) rfl <| Wo (Run_lenSlG Tryd.underlying26 (O rfl) (fun hg => (hs.sl (i := 6) rfl).len)) rfl <| Wo (Run_ltI (O rfl) (O rfl)) rfl <| ?_
  refine WL_nil <| At_then ?_
  refine WC_cond (O rfl) (fun hc46 => ?_) (fun hc46 => ?_)
  ·
   replace hm := bif_t hc46 hm
   refine WC_skip ?_
   refine At_then <| WC_seq ?_
   refine WC_block ?_
   refine WC_seq <| WC_region ?_
   refine Wo (Run_fieldAddr fo28_4 (O rfl)) rfl <| Wo (Run_load1 (v := (sl v16)) Tryd.underlying26 rfl (O rfl) (fun _ => (hs.box (i := 1) rfl).part 4 rfl)) rfl <| Wo (Run_move (O rfl)) rfl <| ?_
   obtain ⟨e47, he48, hm⟩ := bind_some' hm
   obtain ⟨v49, v50, hC51, hN52, hR53, hR54⟩ := cellsM60 (g := true) (fun hg => (hs.sl (i := 6) rfl)) (fun hg => he48)
   replace hs := hs.addL [elem true (elA (sl v16) i44 6) [(.int .i64 e47.1), (.int .i64 e47.2.1.op), (.int .i64 e47.2.1.n), (.int .i64 e47.2.1.at_), (sl v49), (sl v50)], imm (RSl RExpr) [sl v49] e47.2.1.l, imm (RSl (RP (RI .i64) RExpr)) [sl v50] e47.2.2] rfl ⟨fun hg => ⟨hN52 hg, hC51 hg⟩, ⟨_, rfl, hR53 rfl⟩, ⟨_, rfl, hR54 rfl⟩, trivial⟩
   replace hs := Sat.n11 (Γ := Φ) hs rfl
   refine WL_op (Run_idxAddr (p := (elA (sl v16) i44 6)) Tryd.underlying26 ti60 (O rfl) (O rfl) (fun hg => (SRd.atA (A := (RP (RI .i64) (RP RExpr (RSl (RP (RI .i64) RExpr))))) (v := (sl v16)) (hs.sl (i := 9) rfl) he48).1)) rfl rfl rfl rfl <| Wo (Run_fieldAddr fo60_1 (O rfl)) rfl <| Wo (Run_loadA (vs := [(.int .i64 e47.2.1.op), (.int .i64 e47.2.1.n), (.int .i64 e47.2.1.at_), (sl v49)]) Tryd.underlying57 rfl ti57 (O rfl) (fun hg => (((hs.elem (i := 0) rfl) hg).sub (us := [(.int .i64 e47.2.1.op), (.int .i64 e47.2.1.n), (.int .i64 e47.2.1.at_), (sl v49)]) 1 rfl).sub 0 rfl) rfl) rfl <| ?_
   obtain ⟨r55, hr56, hm⟩ := bind_some' hm
   refine WL_call (f := 24) (first := []) (cap := []) (xs := [(.tmp 62)]) (vs := [(.agg #[(.int .i64 e47.2.1.op), (.int .i64 e47.2.1.n), (.int .i64 e47.2.1.at_), (sl v49)])]) (args := [(.agg #[(.int .i64 e47.2.1.op), (.int .i64 e47.2.1.n), (.int .i64 e47.2.1.at_), (sl v49)])]) Tryd.call24 Opd.f (.cons (O rfl) .nil) rfl rfl (scrutinyref13_Few_ok (hs.re 11 [1, 0, 1, 2, 3, 4, 5, 6, 7, 8, 9, 10] rfl) hr56) ?_
   rintro _ w57 ⟨rfl, hs⟩
   replace hs := Sat.n11 (Γ := Φ) hs rfl
   refine Wo (Run_notB (O rfl)) rfl <| ?_
   refine WL_nil <| At_then ?_
   refine WC_cond (O rfl) (fun hc58 => ?_) (fun hc58 => ?_)
   ·
    replace hm := bif_t hc58 hm
    refine WC_seq <| WC_region ?_
    refine Wo (Run_move (O rfl)) rfl <| Wo (Run_assign (O rfl)) rfl <| ?_
    refine WL_nil <| At_then ?_
    refine WC_ret ?_
    refine At_blk_ret <| At_then_ret <| At_then_ret <| At_blk_ret <| At_then_ret <| ?_
    refine At_r1 rfl (ResIs.t rfl) ?_
    cases hm
    exact ⟨rfl, (hs.re 11 [] rfl)⟩
   ·
    replace hm := bif_f hc58 hm
    refine WC_skip ?_
    refine At_blk_normal ?_
    refine At_then <| WC_region ?_
    refine Wo (Run_move (O rfl)) rfl <| Wo (Run_add (O rfl) Opd.c) rfl <| Wo (Run_assign (O rfl)) rfl <| ?_
    refine WL_nil ?_
    exact At_again (IntKind.i64.wrap (i44 + 1)) () hm (hs.re 11 [3, 4, 5, 6, 7, 8, 9, 10] rfl) rfl
  ·
   replace hm := bif_f hc46 hm
   refine WC_exit ?_
   refine At_then_exit <| At_then_exit <| At_blk_here <| ?_
   refine At_then <| WC_seq <| WC_region ?_
   refine Wo (Run_loadA (vs := [(sl v8), (sl v10), (sl v12), (sl v14), (sl v16)]) Tryd.underlying28 rfl ti28 (O rfl) (fun _ => (hs.box (i := 1) rfl).part 0 rfl) rfl) rfl <| ?_
   refine WS_alloc (zs := [(sl (none, 0, 0)), (sl (none, 0, 0)), (sl (none, 0, 0)), (sl (none, 0, 0)), (sl (none, 0, 0))]) hs ti28 rfl rfl ?_
   intro b59 w60 hs
   replace hs := Sat.n9 (Γ := Φ) hs rfl
   refine WS_store (us := [(sl v8), (sl v10), (sl v12), (sl v14), (sl v16)]) (vs' := [(sl v8), (sl v10), (sl v12), (sl v14), (sl v16)]) hs 0 rfl ti28 (O rfl) (O rfl) rfl rfl rfl rfl rfl ?_
   intro w61 hs
   replace hs := Sat.n9 (Γ := Φ) hs rfl
   refine WL_nil <| At_then <| WC_seq <| WC_region ?_
   refine Wo (Run_fieldAddr fo28_4 (O rfl)) rfl <| ?_
   refine WS_store (us := [(sl (none, 0, 0))]) (vs' := [(sl v8), (sl v10), (sl v12), (sl v14), (sl (none, 0, 0))]) hs 0 rfl ti26 (O rfl) Opd.c rfl rfl rfl rfl rfl ?_
   intro w62 hs
   replace hs := Sat.n9 (Γ := Φ) hs rfl
   refine WL_nil <| At_then <| WC_seq <| WC_region ?_
   refine Wo (Run_loadA (vs := [(sl v8), (sl v10), (sl v12), (sl v14), (sl v16)]) Tryd.underlying28 rfl ti28 (O rfl) (fun _ => (hs.box (i := 2) rfl).part 0 rfl) rfl) rfl <| ?_
   refine WS_alloc (zs := [(sl (none, 0, 0)), (sl (none, 0, 0)), (sl (none, 0, 0)), (sl (none, 0, 0)), (sl (none, 0, 0))]) hs ti28 rfl rfl ?_
   intro b63 w64 hs
   replace hs := Sat.n10 (Γ := Φ) hs rfl
   refine WS_store (us := [(sl v8), (sl v10), (sl v12), (sl v14), (sl v16)]) (vs' := [(sl v8), (sl v10), (sl v12), (sl v14), (sl v16)]) hs 0 rfl ti28 (O rfl) (O rfl) rfl rfl rfl rfl rfl ?_
   intro w65 hs
   replace hs := Sat.n10 (Γ := Φ) hs rfl
   refine WL_nil <| At_then <| WC_seq <| WC_region ?_
   refine Wo (Run_fieldAddr fo28_4 (O rfl)) rfl <| ?_
   refine WS_store (us := [(sl (none, 0, 0))]) (vs' := [(sl v8), (sl v10), (sl v12), (sl v14), (sl (none, 0, 0))]) hs 0 rfl ti26 (O rfl) Opd.c rfl rfl rfl rfl rfl ?_
   intro w66 hs
   replace hs := Sat.n10 (Γ := Φ) hs rfl
   refine WL_nil <| At_then <| WC_seq <| WC_seq <| WC_region ?_
   refine Wo (Run_assign Opd.c) rfl <| ?_
   refine WL_nil <| At_then ?_
   refine WC_block ?_
   replace hs := hs.addNil (RP (RI .i64) (RP RExpr (RSl (RP (RI .i64) RExpr)))) 60
   refine WC_loop (σ := (List (Int × Ex × (List (Int × Ex)))) × Int) (γ := SLV × List Nat) (F := (scrutinylaw15_StepStays_L2 v1 r3 r6)) (N := FUEL) (s0 := ([], 0)) (r := r) (fun ⟨l68, i71⟩ ⟨v69, R70⟩ w67 => Sat (imm (RSl (RI .i64)) [sl v2] v1 :: box b19 28 [(sl v8), (sl v10), (sl v12), (sl v14), (sl v16)] :: imm (RSl RS) [sl v8] r6.1.1 :: imm (RSl (RP (RI .i64) (RI .i64))) [sl v10] r6.1.2.1 :: imm (RSl (RI .i64)) [sl v12] r6.1.2.2.1 :: imm (RSl RS) [sl v14] r6.1.2.2.2.1 :: imm (RSl (RP (RI .i64) (RP RExpr (RSl (RP (RI .i64) RExpr))))) [sl v16] r6.1.2.2.2.2 :: box b59 28 [(sl v8), (sl v10), (sl v12), (sl v14), (sl (none, 0, 0))] :: box b63 28 [(sl v8), (sl v10), (sl v12), (sl v14), (sl v69)] :: osl (RP (RI .i64) (RP RExpr (RSl (RP (RI .i64) RExpr)))) 60 (sl v69) l68 R70 :: gl 0 (pow10L.map (Value.int .u64)) :: Φ) w67) (fun ⟨l68, i71⟩ ⟨v69, R70⟩ => [(1, true, (sl v2)), (5, true, (.bool r3)), (6, true, (.pointer (some ⟨b19, 0, none⟩))), (9, true, (.pointer (some ⟨b59, 0, none⟩))), (10, true, (.pointer (some ⟨b63, 0, none⟩))), (11, true, (.int .i64 i71))]) hm ((none, 0, 0), []) (hs.re 11 [3, 4, 5, 6, 7, 8, 9, 2, 1, 0, 10] rfl) rfl ?_
   rintro again72 ⟨l68, i71⟩ ⟨v69, R70⟩ w67 hm hs
   unfold scrutinylaw15_StepStays_L2 at hm
   dsimp only at hm
   refine WC_seq <| WC_seq <| WC_region ?_
   refine Wo (Run_move (O rfl)) rfl <| Wo (Run_fieldAddr fo28_4 (O rfl)) rfl <| Wo (Run_load1 (v := (sl v16)) Tryd.underlying26 rfl (O rfl) (fun _ => (hs.box (i := 1) rfl).part 4 rfl)) rfl <| Wo (Run_lenSlG Tryd.underlying26 (O rfl) (fun hg => (hs.sl (i := 6) rfl).len)) rfl <| Wo (Run_ltI (O rfl) (O rfl)) rfl <| ?_
   refine WL_nil <| At_then ?_
   refine WC_cond (O rfl) (fun hc73 => ?_) (fun hc73 => ?_)
   ·
    replace hm := bif_t hc73 hm
    refine WC_skip ?_
    refine At_then <| WC_seq ?_
    refine WC_block ?_
    refine WC_seq <| WC_region ?_
    refine Wo (Run_fieldAddr fo28_4 (O rfl)) rfl <| Wo (Run_load1 (v := (sl v16)) Tryd.underlying26 rfl (O rfl) (fun _ => (hs.box (i := 1) rfl).part 4 rfl)) rfl <| Wo (Run_move (O rfl)) rfl <| ?_
    obtain ⟨e74, he75, hm⟩ := bind_some' hm
    obtain ⟨v76, v77, hC78, hN79, hR80, hR81⟩ := cellsM60 (g := true) (fun hg => (hs.sl (i := 6) rfl)) (fun hg => he75)
    replace hs := hs.addL [elem true (elA (sl v16) i71 6) [(.int .i64 e74.1), (.int .i64 e74.2.1.op), (.int .i64 e74.2.1.n), (.int .i64 e74.2.1.at_), (sl v76), (sl v77)], imm (RSl RExpr) [sl v76] e74.2.1.l, imm (RSl (RP (RI .i64) RExpr)) [sl v77] e74.2.2] rfl ⟨fun hg => ⟨hN79 hg, hC78 hg⟩, ⟨_, rfl, hR80 rfl⟩, ⟨_, rfl, hR81 rfl⟩, trivial⟩
    replace hs := Sat.n14 (Γ := Φ) hs rfl
    refine WL_op (Run_idxAddr (p := (elA (sl v16) i71 6)) Tryd.underlying26 ti60 (O rfl) (O rfl) (fun hg => (SRd.atA (A := (RP (RI .i64) (RP RExpr (RSl (RP (RI .i64) RExpr))))) (v := (sl v16)) (hs.sl (i := 9) rfl) he75).1)) rfl rfl rfl rfl <| Wo (Run_loadA (vs := [(.int .i64 e74.1), (.int .i64 e74.2.1.op), (.int .i64 e74.2.1.n), (.int .i64 e74.2.1.at_), (sl v76), (sl v77)]) Tryd.underlying60 rfl ti60 (O rfl) (fun hg => ((hs.elem (i := 0) rfl) hg).sub 0 rfl) rfl) rfl <| ?_
    refine WS_alloc (zs := [(.int .i64 0), (.int .i64 0), (.int .i64 0), (.int .i64 0), (sl (none, 0, 0)), (sl (none, 0, 0))]) hs ti60 rfl rfl ?_
    intro b82 w83 hs
    replace hs := Sat.n15 (Γ := Φ) hs rfl
    refine WS_store (us := [(.int .i64 e74.1), (.int .i64 e74.2.1.op), (.int .i64 e74.2.1.n), (.int .i64 e74.2.1.at_), (sl v76), (sl v77)]) (vs' := [(.int .i64 e74.1), (.int .i64 e74.2.1.op), (.int .i64 e74.2.1.n), (.int .i64 e74.2.1.at_), (sl v76), (sl v77)]) hs 0 rfl ti60 (O rfl) (O rfl) rfl rfl rfl rfl rfl ?_
    intro w84 hs
    replace hs := Sat.n15 (Γ := Φ) hs rfl
    refine WL_nil <| At_then <| WC_seq <| WC_region ?_
    refine Wo (Run_fieldAddr fo28_4 (O rfl)) rfl <| Wo (Run_load1 (v := (sl v16)) Tryd.underlying26 rfl (O rfl) (fun _ => (hs.box (i := 5) rfl).part 4 rfl)) rfl <| Wo (Run_move (O rfl)) rfl <| ?_
    obtain ⟨e85, he86, hm⟩ := bind_some' hm
    obtain ⟨v87, v88, hC89, hN90, hR91, hR92⟩ := cellsM60 (g := true) (fun hg => (hs.sl (i := 10) rfl)) (fun hg => he86)
    replace hs := hs.addL [elem true (elA (sl v16) i71 6) [(.int .i64 e85.1), (.int .i64 e85.2.1.op), (.int .i64 e85.2.1.n), (.int .i64 e85.2.1.at_), (sl v87), (sl v88)], imm (RSl RExpr) [sl v87] e85.2.1.l, imm (RSl (RP (RI .i64) RExpr)) [sl v88] e85.2.2] rfl ⟨fun hg => ⟨hN90 hg, hC89 hg⟩, ⟨_, rfl, hR91 rfl⟩, ⟨_, rfl, hR92 rfl⟩, trivial⟩
    replace hs := Sat.n18 (Γ := Φ) hs rfl
    refine WL_op (Run_idxAddr (p := (elA (sl v16) i71 6)) Tryd.underlying26 ti60 (O rfl) (O rfl) (fun hg => (SRd.atA (A := (RP (RI .i64) (RP RExpr (RSl (RP (RI .i64) RExpr))))) (v := (sl v16)) (hs.sl (i := 13) rfl) he86).1)) rfl rfl rfl rfl <| Wo (Run_fieldAddr fo60_1 (O rfl)) rfl <| Wo (Run_loadA (vs := [(.int .i64 e85.2.1.op), (.int .i64 e85.2.1.n), (.int .i64 e85.2.1.at_), (sl v87)]) Tryd.underlying57 rfl ti57 (O rfl) (fun hg => (((hs.elem (i := 0) rfl) hg).sub (us := [(.int .i64 e85.2.1.op), (.int .i64 e85.2.1.n), (.int .i64 e85.2.1.at_), (sl v87)]) 1 rfl).sub 0 rfl) rfl) rfl <| Wo (Run_build (parts := [(0, (.const (.int .i64 14)))]) (v := (.agg #[(.int .i64 14), (.int .i64 0), (.int .i64 0), (sl (none, 0, 0))])) (.cons Opd.c .nil) (fun _ => by kernel_rfl)) rfl <| ?_
    refine WS_lit (A := RExpr) (xs := [e85.2.1, (Ex.mk 14 0 0 [])]) (zs := [(.int .i64 0), (.int .i64 0), (.int .i64 0), (sl (none, 0, 0))]) (cells := [(.int .i64 e85.2.1.op), (.int .i64 e85.2.1.n), (.int .i64 e85.2.1.at_), (sl v87), (.int .i64 14), (.int .i64 0), (.int .i64 0), (sl (none, 0, 0))]) (parts := [(0, (.tmp 87)), (1, (.tmp 88))]) hs Tryd.underlying55 ti57 rfl rfl rfl (.cons (O rfl) (.cons (O rfl) .nil)) (by kernel_rfl) rfl (ARd.cons (A := RExpr) (c := [(.int .i64 e85.2.1.op), (.int .i64 e85.2.1.n), (.int .i64 e85.2.1.at_), (sl v87)]) (x := e85.2.1) (RExpr_closeE (⟨_, rfl, (hs.sl (i := 1) rfl)⟩)) (ARd.cons (A := RExpr) (c := [(.int .i64 14), (.int .i64 0), (.int .i64 0), (sl (none, 0, 0))]) (x := (Ex.mk 14 0 0 [])) (RExpr_close (⟨_, rfl, SRd.nil⟩)) ARd.nil)) rfl ?_
    intro b93 w94 hs
    replace hs := Sat.n19 (Γ := Φ) hs rfl
    refine Wo (Run_build (parts := [(0, (.const (.int .i64 16))), (3, (.tmp 89))]) (v := (.agg #[(.int .i64 16), (.int .i64 0), (.int .i64 0), (sl (some ⟨b93, 0, none⟩, 2, 2))])) (.cons Opd.c (.cons (O rfl) .nil)) (fun _ => by kernel_rfl)) rfl <| Wo (Run_fieldAddr fo60_1 (O rfl)) rfl <| ?_
    refine WS_store (us := [(.int .i64 16), (.int .i64 0), (.int .i64 0), (sl (some ⟨b93, 0, none⟩, 2, 2))]) (vs' := [(.int .i64 e74.1), (.int .i64 16), (.int .i64 0), (.int .i64 0), (sl (some ⟨b93, 0, none⟩, 2, 2)), (sl v77)]) hs 4 rfl ti57 (O rfl) (O rfl) rfl rfl rfl rfl rfl ?_
    intro w95 hs
    replace hs := Sat.n19 (Γ := Φ) hs rfl
    refine WL_nil <| At_then <| WC_region ?_
    refine Wo (Run_fieldAddr fo28_4 (O rfl)) rfl <| Wo (Run_load1 (v := (sl v69)) Tryd.underlying26 rfl (O rfl) (fun _ => (hs.box (i := 16) rfl).part 4 rfl)) rfl <| Wo (Run_loadA (vs := [(.int .i64 e74.1), (.int .i64 16), (.int .i64 0), (.int .i64 0), (sl (some ⟨b93, 0, none⟩, 2, 2)), (sl v77)]) Tryd.underlying60 rfl ti60 (O rfl) (fun _ => (hs.box (i := 4) rfl).part 0 rfl) rfl) rfl <| ?_
    replace hs := hs.freeze (i := 0) rfl
    refine WS_lit (A := (RP (RI .i64) (RP RExpr (RSl (RP (RI .i64) RExpr))))) (xs := [(e74.1, (Ex.mk 16 0 0 ([e85.2.1, (Ex.mk 14 0 0 [])] : List Ex)), e74.2.2)]) (zs := [(.int .i64 0), (.int .i64 0), (.int .i64 0), (.int .i64 0), (sl (none, 0, 0)), (sl (none, 0, 0))]) (cells := [(.int .i64 e74.1), (.int .i64 16), (.int .i64 0), (.int .i64 0), (sl (some ⟨b93, 0, none⟩, 2, 2)), (sl v77)]) (parts := [(0, (.tmp 94))]) hs Tryd.underlying26 ti60 rfl rfl rfl (.cons (O rfl) .nil) (by kernel_rfl) rfl (ARd.cons (A := (RP (RI .i64) (RP RExpr (RSl (RP (RI .i64) RExpr))))) (c := [(.int .i64 e74.1), (.int .i64 16), (.int .i64 0), (.int .i64 0), (sl (some ⟨b93, 0, none⟩, 2, 2)), (sl v77)]) (x := (e74.1, (Ex.mk 16 0 0 ([e85.2.1, (Ex.mk 14 0 0 [])] : List Ex)), e74.2.2)) ⟨_, _, rfl, rfl, ⟨_, _, rfl, (RExpr_close (⟨_, rfl, (hs.sl (i := 0) rfl)⟩)), ⟨_, rfl, (hs.sl (i := 7) rfl)⟩⟩⟩ ARd.nil) rfl ?_
    intro b96 w97 hs
    replace hs := Sat.n20 (Γ := Φ) hs rfl
    replace hs := hs.freeze (i := 0) rfl
    obtain ⟨k98, hm⟩ := chk_some hm
    refine WS_append (A := (RP (RI .i64) (RP RExpr (RSl (RP (RI .i64) RExpr))))) hs 18 rfl Tryd.underlying26 ti60 rfl rfl (O rfl) (O rfl) (hs.sl (i := 0) rfl) k98 rfl ?_
    intro v99 R100 w101 hs
    replace hs := Sat.n20 (Γ := Φ) hs rfl
    refine Wo (Run_fieldAddr fo28_4 (O rfl)) rfl <| ?_
    refine WS_store (us := [(sl v99)]) (vs' := [(sl v8), (sl v10), (sl v12), (sl v14), (sl v99)]) hs 17 rfl ti26 (O rfl) (O rfl) rfl rfl rfl rfl rfl ?_
    intro w102 hs
    replace hs := Sat.n20 (Γ := Φ) hs rfl
    refine WL_nil ?_
    refine At_blk_normal ?_
    refine At_then <| WC_region ?_
    refine Wo (Run_move (O rfl)) rfl <| Wo (Run_add (O rfl) Opd.c) rfl <| Wo (Run_assign (O rfl)) rfl <| ?_
    refine WL_nil ?_
    exact At_again ((l68 ++ ([(e74.1, (Ex.mk 16 0 0 ([e85.2.1, (Ex.mk 14 0 0 [])] : List Ex)), e74.2.2)] : List (Int × Ex × (List (Int × Ex))))), (IntKind.i64.wrap (i71 + 1))) (v99, R100) hm (hs.re 20 [9, 10, 11, 12, 13, 14, 15, 16, 17, 18, 19] rfl) rfl
   ·
    replace hm := bif_f hc73 hm
    refine WC_exit ?_
    refine At_then_exit <| At_then_exit <| At_blk_here <| ?_
    refine At_then <| WC_seq <| WC_region ?_
    refine Wo (Run_loadA (vs := [(sl v8), (sl v10), (sl v12), (sl v14), (sl v16)]) Tryd.underlying28 rfl ti28 (O rfl) (fun _ => (hs.box (i := 1) rfl).part 0 rfl) rfl) rfl <| ?_
    refine WS_alloc (zs := [(sl (none, 0, 0)), (sl (none, 0, 0)), (sl (none, 0, 0)), (sl (none, 0, 0)), (sl (none, 0, 0))]) hs ti28 rfl rfl ?_
    intro b103 w104 hs
    replace hs := Sat.n12 (Γ := Φ) hs rfl
    refine WS_store (us := [(sl v8), (sl v10), (sl v12), (sl v14), (sl v16)]) (vs' := [(sl v8), (sl v10), (sl v12), (sl v14), (sl v16)]) hs 0 rfl ti28 (O rfl) (O rfl) rfl rfl rfl rfl rfl ?_
    intro w105 hs
    replace hs := Sat.n12 (Γ := Φ) hs rfl
    refine WL_nil <| At_then <| WC_seq ?_
    refine WC_region_mixed [0, 0, 2, 5, 0, 16, 32, 64, 0, 0, 512, 1024, 2432, 4096, 8200, 32767, 65535] (.q 1 0 (.q 2 2 (.q 4 6 (.q 5 22 (.q 6 54 (.q 7 118 (.q 8 246 (.q 9 502 (.q 10 1014 (.l2 2038 0 (.l2 2039 3 (.l 11 2047 (.q 12 4095 (.l 13 8191 (.l 14 16383 (.q 15 32767 (.l 16 65535 .nil)))))) 11 (.q 12 4087 (.l2 8183 3 (.l 13 8191 (.l 14 16383 (.q 15 32767 (.l 16 65535 .nil)))) 13 (.l 3 16375 (.l 14 16383 (.q 15 32767 (.l 16 65535 .nil))))))) 11 (.q 12 4086 (.l2 8182 0 (.l2 8183 3 (.l 13 8191 (.l 14 16383 (.q 15 32767 (.l 16 65535 .nil)))) 13 (.l 3 16375 (.l 14 16383 (.q 15 32767 (.l 16 65535 .nil))))) 13 (.l 0 16374 (.l 3 16375 (.l 14 16383 (.q 15 32767 (.l 16 65535 .nil))))))))))))))))) (by kernel_rfl) (by kernel_rfl) ?_
    intro w106 hx107
    replace hs := hs.ext hx107
    refine WD_pure (fun _ => (Run_fieldAddr fo28_4 (O rfl))) rfl rfl rfl rfl <| WD_op (fun w => CellsAt w ⟨b19, 4, none⟩ [(sl v16)]) ((hs.box (i := 2) rfl).part 4 rfl) (fun _ hJ => (Run_load1 (v := (sl v16)) Tryd.underlying26 rfl (O rfl) (fun _ => hJ))) rfl rfl rfl rfl <| WD_pure (fun _ => (Run_fieldAddr fo28_3 (O rfl))) rfl rfl rfl rfl <| WD_op (fun w => CellsAt w ⟨b19, 3, none⟩ [(sl v14)]) ((hs.box (i := 2) rfl).part 3 rfl) (fun _ hJ => (Run_load1 (v := (sl v14)) Tryd.underlying24 rfl (O rfl) (fun _ => hJ))) rfl rfl rfl rfl <| WD_pure (fun _ => (Run_lenSlG Tryd.underlying24 (O rfl) (fun hg => (hs.sl (i := 6) rfl).len))) rfl rfl rfl rfl <| WD_pure (fun _ => (Run_sub (O rfl) Opd.c)) rfl rfl rfl rfl <| WD_pure (fun _ => (Run_build (parts := [(0, (.const (.int .i64 13)))]) (v := (.agg #[(.int .i64 13), (.int .i64 0), (.int .i64 0), (sl (none, 0, 0))])) (.cons Opd.c .nil) (fun _ => by kernel_rfl))) rfl rfl rfl rfl <| WD_pure (fun _ => (Run_build (parts := [(0, (.const (.int .i64 2)))]) (v := (.agg #[(.int .i64 2), (.int .i64 0), (.int .i64 0), (sl (none, 0, 0))])) (.cons Opd.c .nil) (fun _ => by kernel_rfl))) rfl rfl rfl rfl <| ?_
    refine WD_pure (fun _ => (Run_build (parts := [(1, (.tmp 108))]) (v := (.agg #[(.int .i64 0), (.int .i64 2), (.int .i64 0), (.int .i64 0), (sl (none, 0, 0))])) (.cons (O rfl) .nil) (fun _ => by kernel_rfl))) rfl rfl rfl rfl <| ?_
    refine WD_loud2 ?_ ?_
    ·
     refine WD_loud (pend' := [(5, fun w => CellsAt w ⟨b19, 3, none⟩ [(sl v14)]), (2, fun w => CellsAt w ⟨b19, 4, none⟩ [(sl v16)])]) rfl (by kernel_rfl) ?_
     refine WS_lit0 (A := (RP (RI .i64) (RP RExpr (RSl (RP (RI .i64) RExpr))))) hs Tryd.underlying26 ti60 rfl ?_
     intro b108 w109 hs
     replace hs := Sat.n13 (Γ := Φ) hs rfl
     refine WL_nil ?_
     refine At_QK (allJ_cons ((hs.box (i := 3) rfl).part 3 rfl) (allJ_cons ((hs.box (i := 3) rfl).part 4 rfl) allJ_nil)) ?_
     refine WD_loud2 ?_ ?_
     ·
      refine WD_loud (pend' := [(5, fun w => CellsAt w ⟨b19, 3, none⟩ [(sl v14)])]) rfl (by kernel_rfl) ?_
      obtain ⟨k110, hm⟩ := chk_some hm
      refine WS_append (A := (RP (RI .i64) (RP RExpr (RSl (RP (RI .i64) RExpr))))) hs 0 rfl Tryd.underlying26 ti60 rfl rfl (O rfl) (O rfl) (hs.sl (i := 8) rfl) k110 rfl ?_
      intro v111 R112 w113 hs
      replace hs := Sat.n13 (Γ := Φ) hs rfl
      refine WL_nil ?_
      refine At_QK (allJ_cons ((hs.box (i := 3) rfl).part 3 rfl) allJ_nil) ?_
      refine WD_loud (pend' := [(5, fun w => CellsAt w ⟨b19, 3, none⟩ [(sl v14)])]) rfl (by kernel_rfl) ?_
      refine WS_lit (A := (RP (RI .i64) RExpr)) (xs := [(0, (Ex.mk 2 0 0 []))]) (zs := [(.int .i64 0), (.int .i64 0), (.int .i64 0), (.int .i64 0), (sl (none, 0, 0))]) (cells := [(.int .i64 0), (.int .i64 2), (.int .i64 0), (.int .i64 0), (sl (none, 0, 0))]) (parts := [(0, (.tmp 109))]) hs Tryd.underlying58 ti62 rfl rfl rfl (.cons (O rfl) .nil) (by kernel_rfl) rfl (ARd.cons (A := (RP (RI .i64) RExpr)) (c := [(.int .i64 0), (.int .i64 2), (.int .i64 0), (.int .i64 0), (sl (none, 0, 0))]) (x := (0, (Ex.mk 2 0 0 []))) ⟨_, _, rfl, rfl, (RExpr_close (⟨_, rfl, SRd.nil⟩))⟩ ARd.nil) rfl ?_
      intro b114 w115 hs
      replace hs := Sat.n14 (Γ := Φ) hs rfl
      refine WL_nil ?_
      refine At_QK (allJ_cons ((hs.box (i := 4) rfl).part 3 rfl) allJ_nil) ?_
      refine WD_pure (fun _ => (Run_build (parts := [(0, (.tmp 106)), (1, (.tmp 107)), (2, (.tmp 110))]) (v := (.agg #[(.int .i64 (IntKind.i64.wrap ((List.length r6.1.2.2.2.1 : Int) - 1))), (.int .i64 13), (.int .i64 0), (.int .i64 0), (sl (none, 0, 0)), (sl (some ⟨b114, 0, none⟩, 1, 1))])) (.cons (O rfl) (.cons (O rfl) (.cons (O rfl) .nil))) (fun _ => by kernel_rfl))) rfl rfl rfl rfl <| ?_
      refine WD_loud (pend' := [(5, fun w => CellsAt w ⟨b19, 3, none⟩ [(sl v14)])]) rfl (by kernel_rfl) ?_
      replace hs := hs.freeze (i := 0) rfl
      refine WS_lit (A := (RP (RI .i64) (RP RExpr (RSl (RP (RI .i64) RExpr))))) (xs := [((IntKind.i64.wrap ((List.length r6.1.2.2.2.1 : Int) - 1)), (Ex.mk 13 0 0 []), ([(0, (Ex.mk 2 0 0 []))] : List (Int × Ex)))]) (zs := [(.int .i64 0), (.int .i64 0), (.int .i64 0), (.int .i64 0), (sl (none, 0, 0)), (sl (none, 0, 0))]) (cells := [(.int .i64 (IntKind.i64.wrap ((List.length r6.1.2.2.2.1 : Int) - 1))), (.int .i64 13), (.int .i64 0), (.int .i64 0), (sl (none, 0, 0)), (sl (some ⟨b114, 0, none⟩, 1, 1))]) (parts := [(0, (.tmp 111))]) hs Tryd.underlying26 ti60 rfl rfl rfl (.cons (O rfl) .nil) (by kernel_rfl) rfl (ARd.cons (A := (RP (RI .i64) (RP RExpr (RSl (RP (RI .i64) RExpr))))) (c := [(.int .i64 (IntKind.i64.wrap ((List.length r6.1.2.2.2.1 : Int) - 1))), (.int .i64 13), (.int .i64 0), (.int .i64 0), (sl (none, 0, 0)), (sl (some ⟨b114, 0, none⟩, 1, 1))]) (x := ((IntKind.i64.wrap ((List.length r6.1.2.2.2.1 : Int) - 1)), (Ex.mk 13 0 0 []), ([(0, (Ex.mk 2 0 0 []))] : List (Int × Ex)))) ⟨_, _, rfl, rfl, ⟨_, _, rfl, (RExpr_close (⟨_, rfl, SRd.nil⟩)), ⟨_, rfl, (hs.sl (i := 0) rfl)⟩⟩⟩ ARd.nil) rfl ?_
      intro b116 w117 hs
      replace hs := Sat.n15 (Γ := Φ) hs rfl
      refine WL_nil ?_
      refine At_QK (allJ_cons ((hs.box (i := 5) rfl).part 3 rfl) allJ_nil) ?_
      refine WD_loud (pend' := [(5, fun w => CellsAt w ⟨b19, 3, none⟩ [(sl v14)])]) rfl (by kernel_rfl) ?_
      replace hs := hs.freeze (i := 0) rfl
      obtain ⟨k118, hm⟩ := chk_some hm
      refine WS_append (A := (RP (RI .i64) (RP RExpr (RSl (RP (RI .i64) RExpr))))) hs 2 rfl Tryd.underlying26 ti60 rfl rfl (O rfl) (O rfl) (hs.sl (i := 0) rfl) k118 rfl ?_
      intro v119 R120 w121 hs
      replace hs := Sat.n15 (Γ := Φ) hs rfl
      refine WL_nil ?_
      refine At_QK (allJ_cons ((hs.box (i := 5) rfl).part 3 rfl) allJ_nil) ?_
      refine WD_pure (fun _ => (Run_fieldAddr fo28_4 (O rfl))) rfl rfl rfl rfl <| ?_
      refine WD_loud (pend' := []) rfl (by kernel_rfl) ?_
      refine WS_store (us := [(sl v119)]) (vs' := [(sl v8), (sl v10), (sl v12), (sl v14), (sl v119)]) hs 3 rfl ti26 (O rfl) (O rfl) rfl rfl rfl rfl rfl ?_
      intro w122 hs
      replace hs := Sat.n15 (Γ := Φ) hs rfl
      refine WL_nil ?_
      refine At_QK allJ_nil ?_
      refine WD_nil ?_
      refine At_then <| WC_seq <| WC_region ?_
      refine Wo (Run_loadA (vs := [(sl v8), (sl v10), (sl v12), (sl v14), (sl (none, 0, 0))]) Tryd.underlying28 rfl ti28 (O rfl) (fun _ => (hs.box (i := 11) rfl).part 0 rfl) rfl) rfl <| Wo (Run_move (O rfl)) rfl <| ?_
      replace hs := hs.addNilI (RP (RI .i64) (RP RExpr (RSl (RP (RI .i64) RExpr))))
      obtain ⟨r123, hr124, hm⟩ := bind_some' hm
      refine WL_call (f := 14) (first := []) (cap := []) (xs := [(.tmp 116), (.tmp 117)]) (vs := [(.agg #[(sl v8), (sl v10), (sl v12), (sl v14), (sl (none, 0, 0))]), (sl v2)]) (args := [(.agg #[(sl v8), (sl v10), (sl v12), (sl v14), (sl (none, 0, 0))]), (sl v2)]) Tryd.call14 Opd.f (.cons (O rfl) (.cons (O rfl) .nil)) rfl rfl (step_Next_ok (m := (r6.1.1, r6.1.2.1, r6.1.2.2.1, r6.1.2.2.2.1, [])) (hs.re 16 [7, 8, 9, 10, 0, 5, 15, 0, 1, 2, 3, 4, 5, 6, 7, 8, 9, 10, 11, 12, 13, 14, 15] rfl) hr124) ?_
      rintro _ w127 ⟨v125, R126, rfl, hs⟩
      replace hs := Sat.n17 (Γ := Φ) hs rfl
      refine Wo (Run_move (O rfl)) rfl <| Wo (Run_extract (vs := [(sl v125), (.int .i64 r123.2)]) (O rfl) rfl) rfl <| Wo (Run_extract (vs := [(sl v125), (.int .i64 r123.2)]) (O rfl) rfl) rfl <| Wo (Run_assign (O rfl)) rfl <| Wo (Run_assign (O rfl)) rfl <| ?_
      refine WL_nil <| At_then <| WC_seq <| WC_region ?_
      refine Wo (Run_loadA (vs := [(sl v8), (sl v10), (sl v12), (sl v14), (sl v69)]) Tryd.underlying28 rfl ti28 (O rfl) (fun _ => (hs.box (i := 14) rfl).part 0 rfl) rfl) rfl <| Wo (Run_move (O rfl)) rfl <| ?_
      replace hs := hs.freeze (i := 15) rfl
      obtain ⟨r128, hr129, hm⟩ := bind_some' hm
      refine WL_call (f := 14) (first := []) (cap := []) (xs := [(.tmp 122), (.tmp 123)]) (vs := [(.agg #[(sl v8), (sl v10), (sl v12), (sl v14), (sl v69)]), (sl v2)]) (args := [(.agg #[(sl v8), (sl v10), (sl v12), (sl v14), (sl v69)]), (sl v2)]) Tryd.call14 Opd.f (.cons (O rfl) (.cons (O rfl) .nil)) rfl rfl (step_Next_ok (m := (r6.1.1, r6.1.2.1, r6.1.2.2.1, r6.1.2.2.2.1, l68)) (hs.re 17 [8, 9, 10, 11, 15, 6, 16, 0, 1, 2, 3, 4, 5, 6, 7, 8, 9, 10, 11, 12, 13, 14, 15, 16] rfl) hr129) ?_
      rintro _ w132 ⟨v130, R131, rfl, hs⟩
      replace hs := Sat.n18 (Γ := Φ) hs rfl
      refine Wo (Run_move (O rfl)) rfl <| Wo (Run_extract (vs := [(sl v130), (.int .i64 r128.2)]) (O rfl) rfl) rfl <| Wo (Run_extract (vs := [(sl v130), (.int .i64 r128.2)]) (O rfl) rfl) rfl <| Wo (Run_assign (O rfl)) rfl <| Wo (Run_assign (O rfl)) rfl <| ?_
      refine WL_nil <| At_then <| WC_seq <| WC_region ?_
      refine Wo (Run_loadA (vs := [(sl v8), (sl v10), (sl v12), (sl v14), (sl v119)]) Tryd.underlying28 rfl ti28 (O rfl) (fun _ => (hs.box (i := 6) rfl).part 0 rfl) rfl) rfl <| Wo (Run_move (O rfl)) rfl <| ?_
      replace hs := hs.freeze (i := 5) rfl
      obtain ⟨r133, hr134, hm⟩ := bind_some' hm
      refine WL_call (f := 14) (first := []) (cap := []) (xs := [(.tmp 128), (.tmp 129)]) (vs := [(.agg #[(sl v8), (sl v10), (sl v12), (sl v14), (sl v119)]), (sl v2)]) (args := [(.agg #[(sl v8), (sl v10), (sl v12), (sl v14), (sl v119)]), (sl v2)]) Tryd.call14 Opd.f (.cons (O rfl) (.cons (O rfl) .nil)) rfl rfl (step_Next_ok (m := (r6.1.1, r6.1.2.1, r6.1.2.2.1, r6.1.2.2.2.1, ((([] : List (Int × Ex × (List (Int × Ex)))) ++ r6.1.2.2.2.2) ++ ([((IntKind.i64.wrap ((List.length r6.1.2.2.2.1 : Int) - 1)), (Ex.mk 13 0 0 []), ([(0, (Ex.mk 2 0 0 []))] : List (Int × Ex)))] : List (Int × Ex × (List (Int × Ex))))))) (hs.re 18 [9, 10, 11, 12, 5, 7, 17, 0, 1, 2, 3, 4, 5, 6, 7, 8, 9, 10, 11, 12, 13, 14, 15, 16, 17] rfl) hr134) ?_
      rintro _ w137 ⟨v135, R136, rfl, hs⟩
      replace hs := Sat.n19 (Γ := Φ) hs rfl
      refine Wo (Run_move (O rfl)) rfl <| Wo (Run_extract (vs := [(sl v135), (.int .i64 r133.2)]) (O rfl) rfl) rfl <| Wo (Run_extract (vs := [(sl v135), (.int .i64 r133.2)]) (O rfl) rfl) rfl <| Wo (Run_assign (O rfl)) rfl <| Wo (Run_assign (O rfl)) rfl <| ?_
      refine WL_nil <| At_then <| WC_seq <| WC_region ?_
      refine Wo (Run_loadA (vs := [(sl v8), (sl v10), (sl v12), (sl v14), (sl v16)]) Tryd.underlying28 rfl ti28 (O rfl) (fun _ => (hs.box (i := 9) rfl).part 0 rfl) rfl) rfl <| Wo (Run_move (O rfl)) rfl <| ?_
      obtain ⟨r138, hr139, hm⟩ := bind_some' hm
      refine WL_call (f := 14) (first := []) (cap := []) (xs := [(.tmp 134), (.tmp 135)]) (vs := [(.agg #[(sl v8), (sl v10), (sl v12), (sl v14), (sl v16)]), (sl v2)]) (args := [(.agg #[(sl v8), (sl v10), (sl v12), (sl v14), (sl v16)]), (sl v2)]) Tryd.call14 Opd.f (.cons (O rfl) (.cons (O rfl) .nil)) rfl rfl (step_Next_ok (hs.re 19 [10, 11, 12, 13, 14, 8, 18, 0, 1, 2, 3, 4, 5, 6, 7, 8, 9, 10, 11, 12, 13, 14, 15, 16, 17, 18] rfl) hr139) ?_
      rintro _ w142 ⟨v140, R141, rfl, hs⟩
      replace hs := Sat.n20 (Γ := Φ) hs rfl
      refine Wo (Run_move (O rfl)) rfl <| Wo (Run_extract (vs := [(sl v140), (.int .i64 r138.2)]) (O rfl) rfl) rfl <| Wo (Run_extract (vs := [(sl v140), (.int .i64 r138.2)]) (O rfl) rfl) rfl <| Wo (Run_assign (O rfl)) rfl <| Wo (Run_assign (O rfl)) rfl <| ?_
      refine WL_nil <| At_then <| WC_seq <| WC_seq <| WC_region ?_
      refine Wo (Run_move (O rfl)) rfl <| ?_
      obtain ⟨b143, e144, hm⟩ := letv_some hm
      refine Wo (Run.eqB (Run_neI (O rfl) Opd.c) e144) rfl <| Wo (Run_move (O rfl)) rfl <| Wg rfl guard_neg (Run_move (O rfl)) rfl <| ?_
      obtain ⟨b145, e146, hm⟩ := letv_some hm
      refine Wg rfl guard_neg (Run.eqB (Run_neI (Opd.g rfl id) Opd.c) e146) rfl <| ?_
      obtain ⟨b147, e148, hm⟩ := letv_some hm
      refine Wo (Run.eqB (Run_or (O rfl) (Opd.g rfl id)) e148) rfl <| Wo (Run_move (O rfl)) rfl <| Wg rfl guard_neg (Run_move (O rfl)) rfl <| Wg rfl guard_neg (Run_move (O rfl)) rfl <| ?_
      refine WS_litG (A := (RSl (RI .i64))) (xs := [v1]) (zs := [(sl (none, 0, 0))]) (cells := [(sl v2)]) (parts := [(0, (.tmp 147))]) rfl rfl rfl guard_neg hs Tryd.underlying37 ti22 rfl rfl rfl (.cons (Opd.g rfl id) .nil) (by kernel_rfl) rfl (fun hg => (ARd.cons (A := (RSl (RI .i64))) (c := [(sl v2)]) (x := v1) ⟨_, rfl, (hs.sl (i := 9) rfl)⟩ ARd.nil)) rfl ?_
      intro v149 w150 hs
      replace hs := hs.freeze (i := 4) rfl
      obtain ⟨r151, hr152, -, hm⟩ := callG_some hm
      refine WL_callG rfl rfl rfl guard_neg (f := 19) (first := []) (cap := []) (xs := [(.tmp 146), (.tmp 148)]) (vs := [(sl v125), (sl v149)]) (args := [(sl v125), (sl v149)]) Tryd.call19 Opd.f (.cons (Opd.g rfl id) (.cons (Opd.g rfl id) .nil)) rfl rfl (fun hg => scrutinyref02_Vecs_ok ((hs.dupS (i := 0) rfl hg).re 22 [5, 0, 1, 2, 3, 4, 5, 6, 7, 8, 9, 10, 11, 12, 13, 14, 15, 16, 17, 18, 19, 20, 21] rfl) (hr152 hg)) ?_
      intro v154 w153 hv155 hz156
      replace hs := Sat.ofG (fun hg => (hv155 hg).2.re 21 [0, 1, 2, 3, 4, 5, 6, 7, 8, 9, 10, 11, 12, 13, 14, 15, 16, 17, 18, 19, 20] rfl) hz156 hs
      refine WL_sub1 (v := (.bool r151)) (fun hg => (hv155 hg).1) ?_
      replace hs := Sat.n21 (Γ := Φ) hs rfl
      obtain ⟨b157, e158, hm⟩ := letv_some hm
      refine Wg rfl guard_neg (Run.eqB (Run_notB (Opd.g rfl id)) e158) rfl <| ?_
      obtain ⟨b159, e160, hm⟩ := letv_some hm
      refine Wo (Run.eqB (Run_or (O rfl) (Opd.g rfl id)) e160) rfl <| Wo (Run_move (O rfl)) rfl <| Wg rfl guard_neg (Run_move (O rfl)) rfl <| Wg rfl guard_neg (Run_move (O rfl)) rfl <| ?_
      replace hs := hs.freeze (i := 3) rfl
      obtain ⟨r161, hr162, -, hm⟩ := callG_some hm
      refine WL_callG rfl rfl rfl guard_neg (f := 19) (first := []) (cap := []) (xs := [(.tmp 153), (.tmp 154)]) (vs := [(sl v130), (sl v125)]) (args := [(sl v130), (sl v125)]) Tryd.call19 Opd.f (.cons (Opd.g rfl id) (.cons (Opd.g rfl id) .nil)) rfl rfl (fun hg => scrutinyref02_Vecs_ok (hs.re 21 [3, 4, 0, 1, 2, 3, 4, 5, 6, 7, 8, 9, 10, 11, 12, 13, 14, 15, 16, 17, 18, 19, 20] rfl) (hr162 hg)) ?_
      intro v164 w163 hv165 hz166
      replace hs := Sat.ofG (fun hg => (hv165 hg).2.re 21 [0, 1, 2, 3, 4, 5, 6, 7, 8, 9, 10, 11, 12, 13, 14, 15, 16, 17, 18, 19, 20] rfl) hz166 hs
      refine WL_sub1 (v := (.bool r161)) (fun hg => (hv165 hg).1) ?_
      replace hs := Sat.n21 (Γ := Φ) hs rfl
      obtain ⟨b167, e168, hm⟩ := letv_some hm
      refine Wg rfl guard_neg (Run.eqB (Run_notB (Opd.g rfl id)) e168) rfl <| ?_
      obtain ⟨b169, e170, hm⟩ := letv_some hm
      refine Wo (Run.eqB (Run_or (O rfl) (Opd.g rfl id)) e170) rfl <| Wo (Run_move (O rfl)) rfl <| Wg rfl guard_neg (Run_loadA (vs := [(sl v8), (sl v10), (sl v12), (sl v14), (sl v69)]) Tryd.underlying28 rfl ti28 (O rfl) (fun _ => (hs.box (i := 18) rfl).part 0 rfl) rfl) rfl <| Wg rfl guard_neg (Run_move (O rfl)) rfl <| ?_
      obtain ⟨r171, hr172, -, hm⟩ := callG_some hm
      refine WL_callG rfl rfl rfl guard_neg (f := 17) (first := []) (cap := []) (xs := [(.tmp 159), (.tmp 160)]) (vs := [(.agg #[(sl v8), (sl v10), (sl v12), (sl v14), (sl v69)]), (sl v2)]) (args := [(.agg #[(sl v8), (sl v10), (sl v12), (sl v14), (sl v69)]), (sl v2)]) Tryd.call17 Opd.f (.cons (Opd.g rfl id) (.cons (Opd.g rfl id) .nil)) rfl rfl (fun hg => step_Enabled_ok (m := (r6.1.1, r6.1.2.1, r6.1.2.2.1, r6.1.2.2.2.1, l68)) (hs.re 21 [12, 13, 14, 15, 19, 10, 0, 1, 2, 3, 4, 5, 6, 7, 8, 9, 10, 11, 12, 13, 14, 15, 16, 17, 18, 19, 20] rfl) (hr172 hg)) ?_
      intro v176 w175 hv177 hz178
      obtain ⟨v173, hw179, hs⟩ : ∃ v173 : SLV, ((!b169) = true → v176 = (sl v173)) ∧ Sat (immG (!b169) (RSl (RI .i64)) [sl v173] r171 :: immG (!b147) (RSl (RSl (RI .i64))) [sl v149] ([v1] : List (List Int)) :: osl (RSl (RI .i64)) 22 (sl v140) r138.1 R141 :: osl (RSl (RI .i64)) 22 (sl v135) r133.1 R136 :: imm (RSl (RSl (RI .i64))) [sl v130] r128.1 :: imm (RSl (RSl (RI .i64))) [sl v125] r123.1 :: imm (RSl (RP (RI .i64) (RP RExpr (RSl (RP (RI .i64) RExpr))))) [sl (none, 0, 0)] [] :: imm (RSl (RP (RI .i64) (RP RExpr (RSl (RP (RI .i64) RExpr))))) [sl (some ⟨b116, 0, none⟩, 1, 1)] ([((IntKind.i64.wrap ((List.length r6.1.2.2.2.1 : Int) - 1)), (Ex.mk 13 0 0 []), ([(0, (Ex.mk 2 0 0 []))] : List (Int × Ex)))] : List (Int × Ex × (List (Int × Ex)))) :: imm (RSl (RP (RI .i64) RExpr)) [sl (some ⟨b114, 0, none⟩, 1, 1)] ([(0, (Ex.mk 2 0 0 []))] : List (Int × Ex)) :: imm (RSl (RP (RI .i64) (RP RExpr (RSl (RP (RI .i64) RExpr))))) [sl v119] ((([] : List (Int × Ex × (List (Int × Ex)))) ++ r6.1.2.2.2.2) ++ ([((IntKind.i64.wrap ((List.length r6.1.2.2.2.1 : Int) - 1)), (Ex.mk 13 0 0 []), ([(0, (Ex.mk 2 0 0 []))] : List (Int × Ex)))] : List (Int × Ex × (List (Int × Ex))))) :: box b103 28 [(sl v8), (sl v10), (sl v12), (sl v14), (sl v119)] :: imm (RSl (RI .i64)) [sl v2] v1 :: box b19 28 [(sl v8), (sl v10), (sl v12), (sl v14), (sl v16)] :: imm (RSl RS) [sl v8] r6.1.1 :: imm (RSl (RP (RI .i64) (RI .i64))) [sl v10] r6.1.2.1 :: imm (RSl (RI .i64)) [sl v12] r6.1.2.2.1 :: imm (RSl RS) [sl v14] r6.1.2.2.2.1 :: imm (RSl (RP (RI .i64) (RP RExpr (RSl (RP (RI .i64) RExpr))))) [sl v16] r6.1.2.2.2.2 :: box b59 28 [(sl v8), (sl v10), (sl v12), (sl v14), (sl (none, 0, 0))] :: box b63 28 [(sl v8), (sl v10), (sl v12), (sl v14), (sl v69)] :: imm (RSl (RP (RI .i64) (RP RExpr (RSl (RP (RI .i64) RExpr))))) [sl v69] l68 :: gl 0 (pow10L.map (Value.int .u64)) :: Φ) w175 := by
       cases hg : (!b169)
       ·rw [hz178 hg]; exact ⟨(none, 0, 0), (fun h => by cases h), (sat_addG0 hs rfl)⟩
       ·obtain ⟨v173, R174, hq, hs⟩ := hv177 hg
        replace hs := hs.freeze (i := 0) rfl
        replace hs := hs.re 22 [0, 1, 2, 3, 4, 5, 6, 7, 8, 9, 10, 11, 12, 13, 14, 15, 16, 17, 18, 19, 20, 21] rfl
        replace hs := sat_gate hs (i := 0) rfl true
        exact ⟨v173, (fun _ => hq), hs⟩
      refine WL_sub1 (v := (sl v173)) hw179 ?_
      refine Wg rfl guard_neg (Run_lenSlG Tryd.underlying22 (Opd.g rfl id) (fun hg => ((hs.slG (i := 0) rfl) hg).len)) rfl <| ?_
      obtain ⟨b180, e181, hm⟩ := letv_some hm
      refine Wg rfl guard_neg (Run.eqB (Run_neI (Opd.g rfl id) Opd.c) e181) rfl <| ?_
      obtain ⟨b182, e183, hm⟩ := letv_some hm
      refine Wo (Run.eqB (Run_or (O rfl) (Opd.g rfl id)) e183) rfl <| ?_
      refine WL_nil <| At_then ?_
      refine WC_cond (O rfl) (fun hc184 => ?_) (fun hc184 => ?_)
      ·
       replace hm := bif_t hc184 hm
       refine WC_seq <| WC_region ?_
       refine Wo (Run_assign Opd.c) rfl <| ?_
       refine WL_nil <| At_then ?_
       refine WC_ret ?_
       refine At_then_ret <| ?_
       refine At_r1 rfl (ResIs.t rfl) ?_
       cases hm
       exact ⟨rfl, (hs.re 22 [] rfl)⟩
      ·
       replace hm := bif_f hc184 hm
       refine WC_skip ?_
       refine At_then <| WC_seq <| WC_seq <| WC_region ?_
       refine Wo (Run_move (O rfl)) rfl <| Wo (Run_neI (O rfl) Opd.c) rfl <| ?_
       refine WL_nil <| At_then ?_
       refine WC_cond (O rfl) (fun hc185 => ?_) (fun hc185 => ?_)
       ·
        replace hm := bif_t hc185 hm
        refine WC_seq <| WC_region ?_
        refine Wo (Run_move (O rfl)) rfl <| Wo (Run_move (O rfl)) rfl <| WL_opG rfl rfl rfl rfl guard_pos (Run_move (O rfl)) rfl rfl rfl <| WL_opG rfl rfl rfl rfl guard_pos (Run_move (O rfl)) rfl rfl rfl <| ?_
        obtain ⟨b186, e187, hm⟩ := letv_some hm
        refine WL_opG rfl rfl rfl rfl guard_pos (Run.eqB (Run_eqI (Opd.g rfl id) (Opd.g rfl id)) e187) rfl rfl rfl <| ?_
        obtain ⟨b188, e189, hm⟩ := letv_some hm
        refine Wo (Run.eqB (Run_and (O rfl) (Opd.g rfl id)) e189) rfl <| Wo (Run_assign (O rfl)) rfl <| ?_
        refine WL_nil <| At_then ?_
        refine WC_ret ?_
        refine At_then_ret <| ?_
        refine At_r1 rfl (ResIs.t rfl) ?_
        cases hm
        exact ⟨rfl, (hs.re 22 [] rfl)⟩
       ·
        replace hm := bif_f hc185 hm
        refine WC_skip ?_
        refine At_then <| WC_seq <| WC_region ?_
        refine Wo (Run_move (O rfl)) rfl <| Wo (Run_lenSlG Tryd.underlying37 (O rfl) (fun _ => (hs.own (i := 2) rfl).len)) rfl <| Wo (Run_assign (O rfl)) rfl <| ?_
        refine WL_nil <| At_then ?_
        refine WC_seq_cut (γ := Int) (fun want191 w190 => scrutinylaw15_StepStays_K3 v1 r3 r133 want191 = some r ∧ Sat (imm (RSl (RI .i64)) [sl v2] v1 :: osl (RSl (RI .i64)) 22 (sl v135) r133.1 R136 :: gl 0 (pow10L.map (Value.int .u64)) :: Φ) w190) (fun want191 => [(1, true, (sl v2)), (5, true, (.bool r3)), (18, true, (sl v135)), (19, true, (.int .i64 r133.2)), (22, true, (.int .i64 want191))]) ?_ ?_
        ·
         rintro want191 w190 ⟨hm, hs⟩
         unfold scrutinylaw15_StepStays_K3 at hm
         refine WC_seq <| WC_region ?_
         refine Wo (Run_move (O rfl)) rfl <| Wo (Run_move (O rfl)) rfl <| WL_opG rfl rfl rfl rfl guard_pos (Run_move (O rfl)) rfl rfl rfl <| ?_
         obtain ⟨b192, e193, hm⟩ := letv_some hm
         refine WL_opG rfl rfl rfl rfl guard_pos (Run.eqB (Run_eqI (Opd.g rfl id) Opd.c) e193) rfl rfl rfl <| ?_
         obtain ⟨b194, e195, hm⟩ := letv_some hm
         refine Wo (Run.eqB (Run_and (O rfl) (Opd.g rfl id)) e195) rfl <| Wo (Run_move (O rfl)) rfl <| WL_opG rfl rfl rfl rfl guard_pos (Run_move (O rfl)) rfl rfl rfl <| WL_opG rfl rfl rfl rfl guard_pos (Run_lenSlG Tryd.underlying37 (Opd.g rfl id) (fun _ => (hs.own (i := 1) rfl).len)) rfl rfl rfl <| WL_opG rfl rfl rfl rfl guard_pos (Run_move (O rfl)) rfl rfl rfl <| ?_
         obtain ⟨b196, e197, hm⟩ := letv_some hm
         refine WL_opG rfl rfl rfl rfl guard_pos (Run.eqB (Run_eqI (Opd.g rfl id) (Opd.g rfl id)) e197) rfl rfl rfl <| ?_
         obtain ⟨b198, e199, hm⟩ := letv_some hm
         refine Wo (Run.eqB (Run_and (O rfl) (Opd.g rfl id)) e199) rfl <| Wo (Run_move (O rfl)) rfl <| WL_opG rfl rfl rfl rfl guard_pos (Run_move (O rfl)) rfl rfl rfl <| WL_opG rfl rfl rfl rfl guard_pos (Run_move (O rfl)) rfl rfl rfl <| ?_
         replace hs := hs.freeze (i := 1) rfl
         obtain ⟨r200, hr201, -, hm⟩ := callG_some hm
         refine WL_callG rfl rfl rfl guard_pos (f := 22) (first := []) (cap := []) (xs := [(.tmp 193), (.tmp 194)]) (vs := [(sl v135), (sl v2)]) (args := [(sl v135), (sl v2)]) Tryd.call22 Opd.f (.cons (Opd.g rfl id) (.cons (Opd.g rfl id) .nil)) rfl rfl (fun hg => scrutinyref15_Place_ok (hs.re 3 [1, 0, 0, 1, 2] rfl) (hr201 hg)) ?_
         intro v203 w202 hv204 hz205
         replace hs := Sat.ofG (fun hg => (hv204 hg).2.re 3 [0, 1, 2] rfl) hz205 hs
         refine WL_sub1 (v := (.int .i64 r200)) (fun hg => (hv204 hg).1) ?_
         replace hs := Sat.n3 (Γ := Φ) hs rfl
         obtain ⟨b206, e207, hm⟩ := letv_some hm
         refine WL_opG rfl rfl rfl rfl guard_pos (Run.eqB (Run_geI (Opd.g rfl id) Opd.c) e207) rfl rfl rfl <| ?_
         obtain ⟨b208, e209, hm⟩ := letv_some hm
         refine Wo (Run.eqB (Run_and (O rfl) (Opd.g rfl id)) e209) rfl <| Wo (Run_assign (O rfl)) rfl <| ?_
         refine WL_nil <| At_then ?_
         refine WC_ret ?_
         refine At_r1 rfl (ResIs.t rfl) ?_
         cases hm
         exact ⟨rfl, (hs.re 3 [] rfl)⟩
        ·
         refine WC_seq <| WC_region ?_
         refine Wo (Run_move (O rfl)) rfl <| Wo (Run_move (O rfl)) rfl <| ?_
         replace hs := hs.freeze (i := 2) rfl
         obtain ⟨r210, hr211, hm⟩ := bind_some' hm
         refine WL_call (f := 22) (first := []) (cap := []) (xs := [(.tmp 175), (.tmp 176)]) (vs := [(sl v140), (sl v2)]) (args := [(sl v140), (sl v2)]) Tryd.call22 Opd.f (.cons (O rfl) (.cons (O rfl) .nil)) rfl rfl (scrutinyref15_Place_ok (hs.re 22 [2, 11, 0, 1, 2, 3, 4, 5, 6, 7, 8, 9, 10, 11, 12, 13, 14, 15, 16, 17, 18, 19, 20, 21] rfl) hr211) ?_
         rintro _ w212 ⟨rfl, hs⟩
         replace hs := hs.re 22 [3, 11, 21] rfl
         replace hs := Sat.n3 (Γ := Φ) hs rfl
         refine Wo (Run_ltI (O rfl) Opd.c) rfl <| ?_
         refine WL_nil <| At_then ?_
         refine WC_cond (O rfl) (fun hc213 => ?_) (fun hc213 => ?_)
         ·
          replace hm := bif_t hc213 hm
          refine WC_region ?_
          refine Wo (Run_move (O rfl)) rfl <| Wo (Run_add (O rfl) Opd.c) rfl <| Wo (Run_assign (O rfl)) rfl <| ?_
          refine WL_nil ?_
          exact At_join (IntKind.i64.wrap ((List.length r138.1 : Int) + 1)) ⟨hm, (hs.re 3 [1, 0, 2] rfl)⟩ rfl
         ·
          replace hm := bif_f hc213 hm
          refine WC_skip ?_
          exact At_join (List.length r138.1 : Int) ⟨hm, (hs.re 3 [1, 0, 2] rfl)⟩ rfl
     ·
      refine WD_loud (pend' := [(5, fun w => CellsAt w ⟨b19, 3, none⟩ [(sl v14)]), (2, fun w => CellsAt w ⟨b19, 4, none⟩ [(sl v16)])]) rfl (by kernel_rfl) ?_
      refine WS_lit (A := (RP (RI .i64) RExpr)) (xs := [(0, (Ex.mk 2 0 0 []))]) (zs := [(.int .i64 0), (.int .i64 0), (.int .i64 0), (.int .i64 0), (sl (none, 0, 0))]) (cells := [(.int .i64 0), (.int .i64 2), (.int .i64 0), (.int .i64 0), (sl (none, 0, 0))]) (parts := [(0, (.tmp 109))]) hs Tryd.underlying58 ti62 rfl rfl rfl (.cons (O rfl) .nil) (by kernel_rfl) rfl (ARd.cons (A := (RP (RI .i64) RExpr)) (c := [(.int .i64 0), (.int .i64 2), (.int .i64 0), (.int .i64 0), (sl (none, 0, 0))]) (x := (0, (Ex.mk 2 0 0 []))) ⟨_, _, rfl, rfl, (RExpr_close (⟨_, rfl, SRd.nil⟩))⟩ ARd.nil) rfl ?_
      intro b214 w215 hs
      replace hs := Sat.n14 (Γ := Φ) hs rfl
      refine WL_nil ?_
      refine At_QK (allJ_cons ((hs.box (i := 4) rfl).part 3 rfl) (allJ_cons ((hs.box (i := 4) rfl).part 4 rfl) allJ_nil)) ?_
      refine WD_pure (fun _ => (Run_build (parts := [(0, (.tmp 106)), (1, (.tmp 107)), (2, (.tmp 110))]) (v := (.agg #[(.int .i64 (IntKind.i64.wrap ((List.length r6.1.2.2.2.1 : Int) - 1))), (.int .i64 13), (.int .i64 0), (.int .i64 0), (sl (none, 0, 0)), (sl (some ⟨b214, 0, none⟩, 1, 1))])) (.cons (O rfl) (.cons (O rfl) (.cons (O rfl) .nil))) (fun _ => by kernel_rfl))) rfl rfl rfl rfl <| ?_
      refine WD_loud2 ?_ ?_
      ·
       refine WD_loud (pend' := [(5, fun w => CellsAt w ⟨b19, 3, none⟩ [(sl v14)])]) rfl (by kernel_rfl) ?_
       obtain ⟨k216, hm⟩ := chk_some hm
       refine WS_append (A := (RP (RI .i64) (RP RExpr (RSl (RP (RI .i64) RExpr))))) hs 1 rfl Tryd.underlying26 ti60 rfl rfl (O rfl) (O rfl) (hs.sl (i := 9) rfl) k216 rfl ?_
       intro v217 R218 w219 hs
       replace hs := Sat.n14 (Γ := Φ) hs rfl
       refine WL_nil ?_
       refine At_QK (allJ_cons ((hs.box (i := 4) rfl).part 3 rfl) allJ_nil) ?_
       refine WD_loud (pend' := [(5, fun w => CellsAt w ⟨b19, 3, none⟩ [(sl v14)])]) rfl (by kernel_rfl) ?_
       replace hs := hs.freeze (i := 0) rfl
       refine WS_lit (A := (RP (RI .i64) (RP RExpr (RSl (RP (RI .i64) RExpr))))) (xs := [((IntKind.i64.wrap ((List.length r6.1.2.2.2.1 : Int) - 1)), (Ex.mk 13 0 0 []), ([(0, (Ex.mk 2 0 0 []))] : List (Int × Ex)))]) (zs := [(.int .i64 0), (.int .i64 0), (.int .i64 0), (.int .i64 0), (sl (none, 0, 0)), (sl (none, 0, 0))]) (cells := [(.int .i64 (IntKind.i64.wrap ((List.length r6.1.2.2.2.1 : Int) - 1))), (.int .i64 13), (.int .i64 0), (.int .i64 0), (sl (none, 0, 0)), (sl (some ⟨b214, 0, none⟩, 1, 1))]) (parts := [(0, (.tmp 111))]) hs Tryd.underlying26 ti60 rfl rfl rfl (.cons (O rfl) .nil) (by kernel_rfl) rfl (ARd.cons (A := (RP (RI .i64) (RP RExpr (RSl (RP (RI .i64) RExpr))))) (c := [(.int .i64 (IntKind.i64.wrap ((List.length r6.1.2.2.2.1 : Int) - 1))), (.int .i64 13), (.int .i64 0), (.int .i64 0), (sl (none, 0, 0)), (sl (some ⟨b214, 0, none⟩, 1, 1))]) (x := ((IntKind.i64.wrap ((List.length r6.1.2.2.2.1 : Int) - 1)), (Ex.mk 13 0 0 []), ([(0, (Ex.mk 2 0 0 []))] : List (Int × Ex)))) ⟨_, _, rfl, rfl, ⟨_, _, rfl, (RExpr_close (⟨_, rfl, SRd.nil⟩)), ⟨_, rfl, (hs.sl (i := 0) rfl)⟩⟩⟩ ARd.nil) rfl ?_
       intro b220 w221 hs
       replace hs := Sat.n15 (Γ := Φ) hs rfl
       refine WL_nil ?_
       refine At_QK (allJ_cons ((hs.box (i := 5) rfl).part 3 rfl) allJ_nil) ?_
       refine WD_loud (pend' := [(5, fun w => CellsAt w ⟨b19, 3, none⟩ [(sl v14)])]) rfl (by kernel_rfl) ?_
       replace hs := hs.freeze (i := 0) rfl
       obtain ⟨k222, hm⟩ := chk_some hm
       refine WS_append (A := (RP (RI .i64) (RP RExpr (RSl (RP (RI .i64) RExpr))))) hs 2 rfl Tryd.underlying26 ti60 rfl rfl (O rfl) (O rfl) (hs.sl (i := 0) rfl) k222 rfl ?_
       intro v223 R224 w225 hs
       replace hs := Sat.n15 (Γ := Φ) hs rfl
       refine WL_nil ?_
       refine At_QK (allJ_cons ((hs.box (i := 5) rfl).part 3 rfl) allJ_nil) ?_
       refine WD_pure (fun _ => (Run_fieldAddr fo28_4 (O rfl))) rfl rfl rfl rfl <| ?_
       refine WD_loud (pend' := []) rfl (by kernel_rfl) ?_
       refine WS_store (us := [(sl v223)]) (vs' := [(sl v8), (sl v10), (sl v12), (sl v14), (sl v223)]) hs 3 rfl ti26 (O rfl) (O rfl) rfl rfl rfl rfl rfl ?_
       intro w226 hs
       replace hs := Sat.n15 (Γ := Φ) hs rfl
       refine WL_nil ?_
       refine At_QK allJ_nil ?_
       refine WD_nil ?_
       refine At_then <| WC_seq <| WC_region ?_
       refine Wo (Run_loadA (vs := [(sl v8), (sl v10), (sl v12), (sl v14), (sl (none, 0, 0))]) Tryd.underlying28 rfl ti28 (O rfl) (fun _ => (hs.box (i := 11) rfl).part 0 rfl) rfl) rfl <| Wo (Run_move (O rfl)) rfl <| ?_
       replace hs := hs.addNilI (RP (RI .i64) (RP RExpr (RSl (RP (RI .i64) RExpr))))
       obtain ⟨r227, hr228, hm⟩ := bind_some' hm
       refine WL_call (f := 14) (first := []) (cap := []) (xs := [(.tmp 116), (.tmp 117)]) (vs := [(.agg #[(sl v8), (sl v10), (sl v12), (sl v14), (sl (none, 0, 0))]), (sl v2)]) (args := [(.agg #[(sl v8), (sl v10), (sl v12), (sl v14), (sl (none, 0, 0))]), (sl v2)]) Tryd.call14 Opd.f (.cons (O rfl) (.cons (O rfl) .nil)) rfl rfl (step_Next_ok (m := (r6.1.1, r6.1.2.1, r6.1.2.2.1, r6.1.2.2.2.1, [])) (hs.re 16 [7, 8, 9, 10, 0, 5, 15, 0, 1, 2, 3, 4, 5, 6, 7, 8, 9, 10, 11, 12, 13, 14, 15] rfl) hr228) ?_
       rintro _ w231 ⟨v229, R230, rfl, hs⟩
       replace hs := Sat.n17 (Γ := Φ) hs rfl
       refine Wo (Run_move (O rfl)) rfl <| Wo (Run_extract (vs := [(sl v229), (.int .i64 r227.2)]) (O rfl) rfl) rfl <| Wo (Run_extract (vs := [(sl v229), (.int .i64 r227.2)]) (O rfl) rfl) rfl <| Wo (Run_assign (O rfl)) rfl <| Wo (Run_assign (O rfl)) rfl <| ?_
       refine WL_nil <| At_then <| WC_seq <| WC_region ?_
       refine Wo (Run_loadA (vs := [(sl v8), (sl v10), (sl v12), (sl v14), (sl v69)]) Tryd.underlying28 rfl ti28 (O rfl) (fun _ => (hs.box (i := 14) rfl).part 0 rfl) rfl) rfl <| Wo (Run_move (O rfl)) rfl <| ?_
       replace hs := hs.freeze (i := 15) rfl
       obtain ⟨r232, hr233, hm⟩ := bind_some' hm
       refine WL_call (f := 14) (first := []) (cap := []) (xs := [(.tmp 122), (.tmp 123)]) (vs := [(.agg #[(sl v8), (sl v10), (sl v12), (sl v14), (sl v69)]), (sl v2)]) (args := [(.agg #[(sl v8), (sl v10), (sl v12), (sl v14), (sl v69)]), (sl v2)]) Tryd.call14 Opd.f (.cons (O rfl) (.cons (O rfl) .nil)) rfl rfl (step_Next_ok (m := (r6.1.1, r6.1.2.1, r6.1.2.2.1, r6.1.2.2.2.1, l68)) (hs.re 17 [8, 9, 10, 11, 15, 6, 16, 0, 1, 2, 3, 4, 5, 6, 7, 8, 9, 10, 11, 12, 13, 14, 15, 16] rfl) hr233) ?_
       rintro _ w236 ⟨v234, R235, rfl, hs⟩
       replace hs := Sat.n18 (Γ := Φ) hs rfl
       refine Wo (Run_move (O rfl)) rfl <| Wo (Run_extract (vs := [(sl v234), (.int .i64 r232.2)]) (O rfl) rfl) rfl <| Wo (Run_extract (vs := [(sl v234), (.int .i64 r232.2)]) (O rfl) rfl) rfl <| Wo (Run_assign (O rfl)) rfl <| Wo (Run_assign (O rfl)) rfl <| ?_
       refine WL_nil <| At_then <| WC_seq <| WC_region ?_
       refine Wo (Run_loadA (vs := [(sl v8), (sl v10), (sl v12), (sl v14), (sl v223)]) Tryd.underlying28 rfl ti28 (O rfl) (fun _ => (hs.box (i := 6) rfl).part 0 rfl) rfl) rfl <| Wo (Run_move (O rfl)) rfl <| ?_
       replace hs := hs.freeze (i := 5) rfl
       obtain ⟨r237, hr238, hm⟩ := bind_some' hm
       refine WL_call (f := 14) (first := []) (cap := []) (xs := [(.tmp 128), (.tmp 129)]) (vs := [(.agg #[(sl v8), (sl v10), (sl v12), (sl v14), (sl v223)]), (sl v2)]) (args := [(.agg #[(sl v8), (sl v10), (sl v12), (sl v14), (sl v223)]), (sl v2)]) Tryd.call14 Opd.f (.cons (O rfl) (.cons (O rfl) .nil)) rfl rfl (step_Next_ok (m := (r6.1.1, r6.1.2.1, r6.1.2.2.1, r6.1.2.2.2.1, ((([] : List (Int × Ex × (List (Int × Ex)))) ++ r6.1.2.2.2.2) ++ ([((IntKind.i64.wrap ((List.length r6.1.2.2.2.1 : Int) - 1)), (Ex.mk 13 0 0 []), ([(0, (Ex.mk 2 0 0 []))] : List (Int × Ex)))] : List (Int × Ex × (List (Int × Ex))))))) (hs.re 18 [9, 10, 11, 12, 5, 7, 17, 0, 1, 2, 3, 4, 5, 6, 7, 8, 9, 10, 11, 12, 13, 14, 15, 16, 17] rfl) hr238) ?_
       rintro _ w241 ⟨v239, R240, rfl, hs⟩
       replace hs := Sat.n19 (Γ := Φ) hs rfl
       refine Wo (Run_move (O rfl)) rfl <| Wo (Run_extract (vs := [(sl v239), (.int .i64 r237.2)]) (O rfl) rfl) rfl <| Wo (Run_extract (vs := [(sl v239), (.int .i64 r237.2)]) (O rfl) rfl) rfl <| Wo (Run_assign (O rfl)) rfl <| Wo (Run_assign (O rfl)) rfl <| ?_
       refine WL_nil <| At_then <| WC_seq <| WC_region ?_
       refine Wo (Run_loadA (vs := [(sl v8), (sl v10), (sl v12), (sl v14), (sl v16)]) Tryd.underlying28 rfl ti28 (O rfl) (fun _ => (hs.box (i := 9) rfl).part 0 rfl) rfl) rfl <| Wo (Run_move (O rfl)) rfl <| ?_
       obtain ⟨r242, hr243, hm⟩ := bind_some' hm
       refine WL_call (f := 14) (first := []) (cap := []) (xs := [(.tmp 134), (.tmp 135)]) (vs := [(.agg #[(sl v8), (sl v10), (sl v12), (sl v14), (sl v16)]), (sl v2)]) (args := [(.agg #[(sl v8), (sl v10), (sl v12), (sl v14), (sl v16)]), (sl v2)]) Tryd.call14 Opd.f (.cons (O rfl) (.cons (O rfl) .nil)) rfl rfl (step_Next_ok (hs.re 19 [10, 11, 12, 13, 14, 8, 18, 0, 1, 2, 3, 4, 5, 6, 7, 8, 9, 10, 11, 12, 13, 14, 15, 16, 17, 18] rfl) hr243) ?_
       rintro _ w246 ⟨v244, R245, rfl, hs⟩
       replace hs := Sat.n20 (Γ := Φ) hs rfl
       refine Wo (Run_move (O rfl)) rfl <| Wo (Run_extract (vs := [(sl v244), (.int .i64 r242.2)]) (O rfl) rfl) rfl <| Wo (Run_extract (vs := [(sl v244), (.int .i64 r242.2)]) (O rfl) rfl) rfl <| Wo (Run_assign (O rfl)) rfl <| Wo (Run_assign (O rfl)) rfl <| ?_
       refine WL_nil <| At_then <| WC_seq <| WC_seq <| WC_region ?_
       refine Wo (Run_move (O rfl)) rfl <| ?_
       obtain ⟨b247, e248, hm⟩ := letv_some hm
       refine Wo (Run.eqB (Run_neI (O rfl) Opd.c) e248) rfl <| Wo (Run_move (O rfl)) rfl <| Wg rfl guard_neg (Run_move (O rfl)) rfl <| ?_
       obtain ⟨b249, e250, hm⟩ := letv_some hm
       refine Wg rfl guard_neg (Run.eqB (Run_neI (Opd.g rfl id) Opd.c) e250) rfl <| ?_
       obtain ⟨b251, e252, hm⟩ := letv_some hm
       refine Wo (Run.eqB (Run_or (O rfl) (Opd.g rfl id)) e252) rfl <| Wo (Run_move (O rfl)) rfl <| Wg rfl guard_neg (Run_move (O rfl)) rfl <| Wg rfl guard_neg (Run_move (O rfl)) rfl <| ?_
       refine WS_litG (A := (RSl (RI .i64))) (xs := [v1]) (zs := [(sl (none, 0, 0))]) (cells := [(sl v2)]) (parts := [(0, (.tmp 147))]) rfl rfl rfl guard_neg hs Tryd.underlying37 ti22 rfl rfl rfl (.cons (Opd.g rfl id) .nil) (by kernel_rfl) rfl (fun hg => (ARd.cons (A := (RSl (RI .i64))) (c := [(sl v2)]) (x := v1) ⟨_, rfl, (hs.sl (i := 9) rfl)⟩ ARd.nil)) rfl ?_
       intro v253 w254 hs
       replace hs := hs.freeze (i := 4) rfl
       obtain ⟨r255, hr256, -, hm⟩ := callG_some hm
       refine WL_callG rfl rfl rfl guard_neg (f := 19) (first := []) (cap := []) (xs := [(.tmp 146), (.tmp 148)]) (vs := [(sl v229), (sl v253)]) (args := [(sl v229), (sl v253)]) Tryd.call19 Opd.f (.cons (Opd.g rfl id) (.cons (Opd.g rfl id) .nil)) rfl rfl (fun hg => scrutinyref02_Vecs_ok ((hs.dupS (i := 0) rfl hg).re 22 [5, 0, 1, 2, 3, 4, 5, 6, 7, 8, 9, 10, 11, 12, 13, 14, 15, 16, 17, 18, 19, 20, 21] rfl) (hr256 hg)) ?_
       intro v258 w257 hv259 hz260
       replace hs := Sat.ofG (fun hg => (hv259 hg).2.re 21 [0, 1, 2, 3, 4, 5, 6, 7, 8, 9, 10, 11, 12, 13, 14, 15, 16, 17, 18, 19, 20] rfl) hz260 hs
       refine WL_sub1 (v := (.bool r255)) (fun hg => (hv259 hg).1) ?_
       replace hs := Sat.n21 (Γ := Φ) hs rfl
       obtain ⟨b261, e262, hm⟩ := letv_some hm
       refine Wg rfl guard_neg (Run.eqB (Run_notB (Opd.g rfl id)) e262) rfl <| ?_
       obtain ⟨b263, e264, hm⟩ := letv_some hm
       refine Wo (Run.eqB (Run_or (O rfl) (Opd.g rfl id)) e264) rfl <| Wo (Run_move (O rfl)) rfl <| Wg rfl guard_neg (Run_move (O rfl)) rfl <| Wg rfl guard_neg (Run_move (O rfl)) rfl <| ?_
       replace hs := hs.freeze (i := 3) rfl
       obtain ⟨r265, hr266, -, hm⟩ := callG_some hm
       refine WL_callG rfl rfl rfl guard_neg (f := 19) (first := []) (cap := []) (xs := [(.tmp 153), (.tmp 154)]) (vs := [(sl v234), (sl v229)]) (args := [(sl v234), (sl v229)]) Tryd.call19 Opd.f (.cons (Opd.g rfl id) (.cons (Opd.g rfl id) .nil)) rfl rfl (fun hg => scrutinyref02_Vecs_ok (hs.re 21 [3, 4, 0, 1, 2, 3, 4, 5, 6, 7, 8, 9, 10, 11, 12, 13, 14, 15, 16, 17, 18, 19, 20] rfl) (hr266 hg)) ?_
       intro v268 w267 hv269 hz270
       replace hs := Sat.ofG (fun hg => (hv269 hg).2.re 21 [0, 1, 2, 3, 4, 5, 6, 7, 8, 9, 10, 11, 12, 13, 14, 15, 16, 17, 18, 19, 20] rfl) hz270 hs
       refine WL_sub1 (v := (.bool r265)) (fun hg => (hv269 hg).1) ?_
       replace hs := Sat.n21 (Γ := Φ) hs rfl
       obtain ⟨b271, e272, hm⟩ := letv_some hm
       refine Wg rfl guard_neg (Run.eqB (Run_notB (Opd.g rfl id)) e272) rfl <| ?_
       obtain ⟨b273, e274, hm⟩ := letv_some hm
       refine Wo (Run.eqB (Run_or (O rfl) (Opd.g rfl id)) e274) rfl <| Wo (Run_move (O rfl)) rfl <| Wg rfl guard_neg (Run_loadA (vs := [(sl v8), (sl v10), (sl v12), (sl v14), (sl v69)]) Tryd.underlying28 rfl ti28 (O rfl) (fun _ => (hs.box (i := 18) rfl).part 0 rfl) rfl) rfl <| Wg rfl guard_neg (Run_move (O rfl)) rfl <| ?_
       obtain ⟨r275, hr276, -, hm⟩ := callG_some hm
       refine WL_callG rfl rfl rfl guard_neg (f := 17) (first := []) (cap := []) (xs := [(.tmp 159), (.tmp 160)]) (vs := [(.agg #[(sl v8), (sl v10), (sl v12), (sl v14), (sl v69)]), (sl v2)]) (args := [(.agg #[(sl v8), (sl v10), (sl v12), (sl v14), (sl v69)]), (sl v2)]) Tryd.call17 Opd.f (.cons (Opd.g rfl id) (.cons (Opd.g rfl id) .nil)) rfl rfl (fun hg => step_Enabled_ok (m := (r6.1.1, r6.1.2.1, r6.1.2.2.1, r6.1.2.2.2.1, l68)) (hs.re 21 [12, 13, 14, 15, 19, 10, 0, 1, 2, 3, 4, 5, 6, 7, 8, 9, 10, 11, 12, 13, 14, 15, 16, 17, 18, 19, 20] rfl) (hr276 hg)) ?_
       intro v280 w279 hv281 hz282
       obtain ⟨v277, hw283, hs⟩ : ∃ v277 : SLV, ((!b273) = true → v280 = (sl v277)) ∧ Sat (immG (!b273) (RSl (RI .i64)) [sl v277] r275 :: immG (!b251) (RSl (RSl (RI .i64))) [sl v253] ([v1] : List (List Int)) :: osl (RSl (RI .i64)) 22 (sl v244) r242.1 R245 :: osl (RSl (RI .i64)) 22 (sl v239) r237.1 R240 :: imm (RSl (RSl (RI .i64))) [sl v234] r232.1 :: imm (RSl (RSl (RI .i64))) [sl v229] r227.1 :: imm (RSl (RP (RI .i64) (RP RExpr (RSl (RP (RI .i64) RExpr))))) [sl (none, 0, 0)] [] :: imm (RSl (RP (RI .i64) (RP RExpr (RSl (RP (RI .i64) RExpr))))) [sl (some ⟨b220, 0, none⟩, 1, 1)] ([((IntKind.i64.wrap ((List.length r6.1.2.2.2.1 : Int) - 1)), (Ex.mk 13 0 0 []), ([(0, (Ex.mk 2 0 0 []))] : List (Int × Ex)))] : List (Int × Ex × (List (Int × Ex)))) :: imm (RSl (RP (RI .i64) RExpr)) [sl (some ⟨b214, 0, none⟩, 1, 1)] ([(0, (Ex.mk 2 0 0 []))] : List (Int × Ex)) :: imm (RSl (RP (RI .i64) (RP RExpr (RSl (RP (RI .i64) RExpr))))) [sl v223] ((([] : List (Int × Ex × (List (Int × Ex)))) ++ r6.1.2.2.2.2) ++ ([((IntKind.i64.wrap ((List.length r6.1.2.2.2.1 : Int) - 1)), (Ex.mk 13 0 0 []), ([(0, (Ex.mk 2 0 0 []))] : List (Int × Ex)))] : List (Int × Ex × (List (Int × Ex))))) :: box b103 28 [(sl v8), (sl v10), (sl v12), (sl v14), (sl v223)] :: imm (RSl (RI .i64)) [sl v2] v1 :: box b19 28 [(sl v8), (sl v10), (sl v12), (sl v14), (sl v16)] :: imm (RSl RS) [sl v8] r6.1.1 :: imm (RSl (RP (RI .i64) (RI .i64))) [sl v10] r6.1.2.1 :: imm (RSl (RI .i64)) [sl v12] r6.1.2.2.1 :: imm (RSl RS) [sl v14] r6.1.2.2.2.1 :: imm (RSl (RP (RI .i64) (RP RExpr (RSl (RP (RI .i64) RExpr))))) [sl v16] r6.1.2.2.2.2 :: box b59 28 [(sl v8), (sl v10), (sl v12), (sl v14), (sl (none, 0, 0))] :: box b63 28 [(sl v8), (sl v10), (sl v12), (sl v14), (sl v69)] :: imm (RSl (RP (RI .i64) (RP RExpr (RSl (RP (RI .i64) RExpr))))) [sl v69] l68 :: gl 0 (pow10L.map (Value.int .u64)) :: Φ) w279 := by
        cases hg : (!b273)
        ·rw [hz282 hg]; exact ⟨(none, 0, 0), (fun h => by cases h), (sat_addG0 hs rfl)⟩
        ·obtain ⟨v277, R278, hq, hs⟩ := hv281 hg
         replace hs := hs.freeze (i := 0) rfl
         replace hs := hs.re 22 [0, 1, 2, 3, 4, 5, 6, 7, 8, 9, 10, 11, 12, 13, 14, 15, 16, 17, 18, 19, 20, 21] rfl
         replace hs := sat_gate hs (i := 0) rfl true
         exact ⟨v277, (fun _ => hq), hs⟩
       refine WL_sub1 (v := (sl v277)) hw283 ?_
       refine Wg rfl guard_neg (Run_lenSlG Tryd.underlying22 (Opd.g rfl id) (fun hg => ((hs.slG (i := 0) rfl) hg).len)) rfl <| ?_
       obtain ⟨b284, e285, hm⟩ := letv_some hm
       refine Wg rfl guard_neg (Run.eqB (Run_neI (Opd.g rfl id) Opd.c) e285) rfl <| ?_
       obtain ⟨b286, e287, hm⟩ := letv_some hm
       refine Wo (Run.eqB (Run_or (O rfl) (Opd.g rfl id)) e287) rfl <| ?_
       refine WL_nil <| At_then ?_
       refine WC_cond (O rfl) (fun hc288 => ?_) (fun hc288 => ?_)
       ·
        replace hm := bif_t hc288 hm
        refine WC_seq <| WC_region ?_
        refine Wo (Run_assign Opd.c) rfl <| ?_
        refine WL_nil <| At_then ?_
        refine WC_ret ?_
        refine At_then_ret <| ?_
        refine At_r1 rfl (ResIs.t rfl) ?_
        cases hm
        exact ⟨rfl, (hs.re 22 [] rfl)⟩
       ·
        replace hm := bif_f hc288 hm
        refine WC_skip ?_
        refine At_then <| WC_seq <| WC_seq <| WC_region ?_
        refine Wo (Run_move (O rfl)) rfl <| Wo (Run_neI (O rfl) Opd.c) rfl <| ?_
        refine WL_nil <| At_then ?_
        refine WC_cond (O rfl) (fun hc289 => ?_) (fun hc289 => ?_)
        ·
         replace hm := bif_t hc289 hm
         refine WC_seq <| WC_region ?_
         refine Wo (Run_move (O rfl)) rfl <| Wo (Run_move (O rfl)) rfl <| WL_opG rfl rfl rfl rfl guard_pos (Run_move (O rfl)) rfl rfl rfl <| WL_opG rfl rfl rfl rfl guard_pos (Run_move (O rfl)) rfl rfl rfl <| ?_
         obtain ⟨b290, e291, hm⟩ := letv_some hm
         refine WL_opG rfl rfl rfl rfl guard_pos (Run.eqB (Run_eqI (Opd.g rfl id) (Opd.g rfl id)) e291) rfl rfl rfl <| ?_
         obtain ⟨b292, e293, hm⟩ := letv_some hm
         refine Wo (Run.eqB (Run_and (O rfl) (Opd.g rfl id)) e293) rfl <| Wo (Run_assign (O rfl)) rfl <| ?_
         refine WL_nil <| At_then ?_
         refine WC_ret ?_
         refine At_then_ret <| ?_
         refine At_r1 rfl (ResIs.t rfl) ?_
         cases hm
         exact ⟨rfl, (hs.re 22 [] rfl)⟩
        ·
         replace hm := bif_f hc289 hm
         refine WC_skip ?_
         refine At_then <| WC_seq <| WC_region ?_
         refine Wo (Run_move (O rfl)) rfl <| Wo (Run_lenSlG Tryd.underlying37 (O rfl) (fun _ => (hs.own (i := 2) rfl).len)) rfl <| Wo (Run_assign (O rfl)) rfl <| ?_
         refine WL_nil <| At_then ?_
         refine WC_seq_cut (γ := Int) (fun want295 w294 => scrutinylaw15_StepStays_K3 v1 r3 r237 want295 = some r ∧ Sat (imm (RSl (RI .i64)) [sl v2] v1 :: osl (RSl (RI .i64)) 22 (sl v239) r237.1 R240 :: gl 0 (pow10L.map (Value.int .u64)) :: Φ) w294) (fun want295 => [(1, true, (sl v2)), (5, true, (.bool r3)), (18, true, (sl v239)), (19, true, (.int .i64 r237.2)), (22, true, (.int .i64 want295))]) ?_ ?_
         ·
          rintro want295 w294 ⟨hm, hs⟩
          unfold scrutinylaw15_StepStays_K3 at hm
          refine WC_seq <| WC_region ?_
          refine Wo (Run_move (O rfl)) rfl <| Wo (Run_move (O rfl)) rfl <| WL_opG rfl rfl rfl rfl guard_pos (Run_move (O rfl)) rfl rfl rfl <| ?_
          obtain ⟨b296, e297, hm⟩ := letv_some hm
          refine WL_opG rfl rfl rfl rfl guard_pos (Run.eqB (Run_eqI (Opd.g rfl id) Opd.c) e297) rfl rfl rfl <| ?_
          obtain ⟨b298, e299, hm⟩ := letv_some hm
          refine Wo (Run.eqB (Run_and (O rfl) (Opd.g rfl id)) e299) rfl <| Wo (Run_move (O rfl)) rfl <| WL_opG rfl rfl rfl rfl guard_pos (Run_move (O rfl)) rfl rfl rfl <| WL_opG rfl rfl rfl rfl guard_pos (Run_lenSlG Tryd.underlying37 (Opd.g rfl id) (fun _ => (hs.own (i := 1) rfl).len)) rfl rfl rfl <| WL_opG rfl rfl rfl rfl guard_pos (Run_move (O rfl)) rfl rfl rfl <| ?_
          obtain ⟨b300, e301, hm⟩ := letv_some hm
          refine WL_opG rfl rfl rfl rfl guard_pos (Run.eqB (Run_eqI (Opd.g rfl id) (Opd.g rfl id)) e301) rfl rfl rfl <| ?_
          obtain ⟨b302, e303, hm⟩ := letv_some hm
          refine Wo (Run.eqB (Run_and (O rfl) (Opd.g rfl id)) e303) rfl <| Wo (Run_move (O rfl)) rfl <| WL_opG rfl rfl rfl rfl guard_pos (Run_move (O rfl)) rfl rfl rfl <| WL_opG rfl rfl rfl rfl guard_pos (Run_move (O rfl)) rfl rfl rfl <| ?_
          replace hs := hs.freeze (i := 1) rfl
          obtain ⟨r304, hr305, -, hm⟩ := callG_some hm
          refine WL_callG rfl rfl rfl guard_pos (f := 22) (first := []) (cap := []) (xs := [(.tmp 193), (.tmp 194)]) (vs := [(sl v239), (sl v2)]) (args := [(sl v239), (sl v2)]) Tryd.call22 Opd.f (.cons (Opd.g rfl id) (.cons (Opd.g rfl id) .nil)) rfl rfl (fun hg => scrutinyref15_Place_ok (hs.re 3 [1, 0, 0, 1, 2] rfl) (hr305 hg)) ?_
          intro v307 w306 hv308 hz309
          replace hs := Sat.ofG (fun hg => (hv308 hg).2.re 3 [0, 1, 2] rfl) hz309 hs
          refine WL_sub1 (v := (.int .i64 r304)) (fun hg => (hv308 hg).1) ?_
          replace hs := Sat.n3 (Γ := Φ) hs rfl
          obtain ⟨b310, e311, hm⟩ := letv_some hm
          refine WL_opG rfl rfl rfl rfl guard_pos (Run.eqB (Run_geI (Opd.g rfl id) Opd.c) e311) rfl rfl rfl <| ?_
          obtain ⟨b312, e313, hm⟩ := letv_some hm
          refine Wo (Run.eqB (Run_and (O rfl) (Opd.g rfl id)) e313) rfl <| Wo (Run_assign (O rfl)) rfl <| ?_
          refine WL_nil <| At_then ?_
          refine WC_ret ?_
          refine At_r1 rfl (ResIs.t rfl) ?_
          cases hm
          exact ⟨rfl, (hs.re 3 [] rfl)⟩
         ·
          refine WC_seq <| WC_region ?_
          refine Wo (Run_move (O rfl)) rfl <| Wo (Run_move (O rfl)) rfl <| ?_
          replace hs := hs.freeze (i := 2) rfl
          obtain ⟨r314, hr315, hm⟩ := bind_some' hm
          refine WL_call (f := 22) (first := []) (cap := []) (xs := [(.tmp 175), (.tmp 176)]) (vs := [(sl v244), (sl v2)]) (args := [(sl v244), (sl v2)]) Tryd.call22 Opd.f (.cons (O rfl) (.cons (O rfl) .nil)) rfl rfl (scrutinyref15_Place_ok (hs.re 22 [2, 11, 0, 1, 2, 3, 4, 5, 6, 7, 8, 9, 10, 11, 12, 13, 14, 15, 16, 17, 18, 19, 20, 21] rfl) hr315) ?_
          rintro _ w316 ⟨rfl, hs⟩
          replace hs := hs.re 22 [3, 11, 21] rfl
          replace hs := Sat.n3 (Γ := Φ) hs rfl
          refine Wo (Run_ltI (O rfl) Opd.c) rfl <| ?_
          refine WL_nil <| At_then ?_
          refine WC_cond (O rfl) (fun hc317 => ?_) (fun hc317 => ?_)
          ·
           replace hm := bif_t hc317 hm
           refine WC_region ?_
           refine Wo (Run_move (O rfl)) rfl <| Wo (Run_add (O rfl) Opd.c) rfl <| Wo (Run_assign (O rfl)) rfl <| ?_
           refine WL_nil ?_
           exact At_join (IntKind.i64.wrap ((List.length r242.1 : Int) + 1)) ⟨hm, (hs.re 3 [1, 0, 2] rfl)⟩ rfl
          ·
           replace hm := bif_f hc317 hm
           refine WC_skip ?_
           exact At_join (List.length r242.1 : Int) ⟨hm, (hs.re 3 [1, 0, 2] rfl)⟩ rfl
      ·
       refine WD_loud (pend' := [(5, fun w => CellsAt w ⟨b19, 3, none⟩ [(sl v14)]), (2, fun w => CellsAt w ⟨b19, 4, none⟩ [(sl v16)])]) rfl (by kernel_rfl) ?_
       replace hs := hs.freeze (i := 0) rfl
       refine WS_lit (A := (RP (RI .i64) (RP RExpr (RSl (RP (RI .i64) RExpr))))) (xs := [((IntKind.i64.wrap ((List.length r6.1.2.2.2.1 : Int) - 1)), (Ex.mk 13 0 0 []), ([(0, (Ex.mk 2 0 0 []))] : List (Int × Ex)))]) (zs := [(.int .i64 0), (.int .i64 0), (.int .i64 0), (.int .i64 0), (sl (none, 0, 0)), (sl (none, 0, 0))]) (cells := [(.int .i64 (IntKind.i64.wrap ((List.length r6.1.2.2.2.1 : Int) - 1))), (.int .i64 13), (.int .i64 0), (.int .i64 0), (sl (none, 0, 0)), (sl (some ⟨b214, 0, none⟩, 1, 1))]) (parts := [(0, (.tmp 111))]) hs Tryd.underlying26 ti60 rfl rfl rfl (.cons (O rfl) .nil) (by kernel_rfl) rfl (ARd.cons (A := (RP (RI .i64) (RP RExpr (RSl (RP (RI .i64) RExpr))))) (c := [(.int .i64 (IntKind.i64.wrap ((List.length r6.1.2.2.2.1 : Int) - 1))), (.int .i64 13), (.int .i64 0), (.int .i64 0), (sl (none, 0, 0)), (sl (some ⟨b214, 0, none⟩, 1, 1))]) (x := ((IntKind.i64.wrap ((List.length r6.1.2.2.2.1 : Int) - 1)), (Ex.mk 13 0 0 []), ([(0, (Ex.mk 2 0 0 []))] : List (Int × Ex)))) ⟨_, _, rfl, rfl, ⟨_, _, rfl, (RExpr_close (⟨_, rfl, SRd.nil⟩)), ⟨_, rfl, (hs.sl (i := 0) rfl)⟩⟩⟩ ARd.nil) rfl ?_
       intro b318 w319 hs
       replace hs := Sat.n15 (Γ := Φ) hs rfl
       refine WL_nil ?_
       refine At_QK (allJ_cons ((hs.box (i := 5) rfl).part 3 rfl) (allJ_cons ((hs.box (i := 5) rfl).part 4 rfl) allJ_nil)) ?_
       refine WD_loud (pend' := [(5, fun w => CellsAt w ⟨b19, 3, none⟩ [(sl v14)])]) rfl (by kernel_rfl) ?_
       obtain ⟨k320, hm⟩ := chk_some hm
       refine WS_append (A := (RP (RI .i64) (RP RExpr (RSl (RP (RI .i64) RExpr))))) hs 2 rfl Tryd.underlying26 ti60 rfl rfl (O rfl) (O rfl) (hs.sl (i := 10) rfl) k320 rfl ?_
       intro v321 R322 w323 hs
       replace hs := Sat.n15 (Γ := Φ) hs rfl
       refine WL_nil ?_
       refine At_QK (allJ_cons ((hs.box (i := 5) rfl).part 3 rfl) allJ_nil) ?_
       refine WD_loud (pend' := [(5, fun w => CellsAt w ⟨b19, 3, none⟩ [(sl v14)])]) rfl (by kernel_rfl) ?_
       replace hs := hs.freeze (i := 0) rfl
       obtain ⟨k324, hm⟩ := chk_some hm
       refine WS_append (A := (RP (RI .i64) (RP RExpr (RSl (RP (RI .i64) RExpr))))) hs 2 rfl Tryd.underlying26 ti60 rfl rfl (O rfl) (O rfl) (hs.sl (i := 0) rfl) k324 rfl ?_
       intro v325 R326 w327 hs
       replace hs := Sat.n15 (Γ := Φ) hs rfl
       refine WL_nil ?_
       refine At_QK (allJ_cons ((hs.box (i := 5) rfl).part 3 rfl) allJ_nil) ?_
       refine WD_pure (fun _ => (Run_fieldAddr fo28_4 (O rfl))) rfl rfl rfl rfl <| ?_
       refine WD_loud (pend' := []) rfl (by kernel_rfl) ?_
       refine WS_store (us := [(sl v325)]) (vs' := [(sl v8), (sl v10), (sl v12), (sl v14), (sl v325)]) hs 3 rfl ti26 (O rfl) (O rfl) rfl rfl rfl rfl rfl ?_
       intro w328 hs
       replace hs := Sat.n15 (Γ := Φ) hs rfl
       refine WL_nil ?_
       refine At_QK allJ_nil ?_
       refine WD_nil ?_
       refine At_then <| WC_seq <| WC_region ?_
       refine Wo (Run_loadA (vs := [(sl v8), (sl v10), (sl v12), (sl v14), (sl (none, 0, 0))]) Tryd.underlying28 rfl ti28 (O rfl) (fun _ => (hs.box (i := 11) rfl).part 0 rfl) rfl) rfl <| Wo (Run_move (O rfl)) rfl <| ?_
       replace hs := hs.addNilI (RP (RI .i64) (RP RExpr (RSl (RP (RI .i64) RExpr))))
       obtain ⟨r329, hr330, hm⟩ := bind_some' hm
       refine WL_call (f := 14) (first := []) (cap := []) (xs := [(.tmp 116), (.tmp 117)]) (vs := [(.agg #[(sl v8), (sl v10), (sl v12), (sl v14), (sl (none, 0, 0))]), (sl v2)]) (args := [(.agg #[(sl v8), (sl v10), (sl v12), (sl v14), (sl (none, 0, 0))]), (sl v2)]) Tryd.call14 Opd.f (.cons (O rfl) (.cons (O rfl) .nil)) rfl rfl (step_Next_ok (m := (r6.1.1, r6.1.2.1, r6.1.2.2.1, r6.1.2.2.2.1, [])) (hs.re 16 [7, 8, 9, 10, 0, 5, 15, 0, 1, 2, 3, 4, 5, 6, 7, 8, 9, 10, 11, 12, 13, 14, 15] rfl) hr330) ?_
       rintro _ w333 ⟨v331, R332, rfl, hs⟩
       replace hs := Sat.n17 (Γ := Φ) hs rfl
       refine Wo (Run_move (O rfl)) rfl <| Wo (Run_extract (vs := [(sl v331), (.int .i64 r329.2)]) (O rfl) rfl) rfl <| Wo (Run_extract (vs := [(sl v331), (.int .i64 r329.2)]) (O rfl) rfl) rfl <| Wo (Run_assign (O rfl)) rfl <| Wo (Run_assign (O rfl)) rfl <| ?_
       refine WL_nil <| At_then <| WC_seq <| WC_region ?_
       refine Wo (Run_loadA (vs := [(sl v8), (sl v10), (sl v12), (sl v14), (sl v69)]) Tryd.underlying28 rfl ti28 (O rfl) (fun _ => (hs.box (i := 14) rfl).part 0 rfl) rfl) rfl <| Wo (Run_move (O rfl)) rfl <| ?_
       replace hs := hs.freeze (i := 15) rfl
       obtain ⟨r334, hr335, hm⟩ := bind_some' hm
       refine WL_call (f := 14) (first := []) (cap := []) (xs := [(.tmp 122), (.tmp 123)]) (vs := [(.agg #[(sl v8), (sl v10), (sl v12), (sl v14), (sl v69)]), (sl v2)]) (args := [(.agg #[(sl v8), (sl v10), (sl v12), (sl v14), (sl v69)]), (sl v2)]) Tryd.call14 Opd.f (.cons (O rfl) (.cons (O rfl) .nil)) rfl rfl (step_Next_ok (m := (r6.1.1, r6.1.2.1, r6.1.2.2.1, r6.1.2.2.2.1, l68)) (hs.re 17 [8, 9, 10, 11, 15, 6, 16, 0, 1, 2, 3, 4, 5, 6, 7, 8, 9, 10, 11, 12, 13, 14, 15, 16] rfl) hr335) ?_
       rintro _ w338 ⟨v336, R337, rfl, hs⟩
       replace hs := Sat.n18 (Γ := Φ) hs rfl
       refine Wo (Run_move (O rfl)) rfl <| Wo (Run_extract (vs := [(sl v336), (.int .i64 r334.2)]) (O rfl) rfl) rfl <| Wo (Run_extract (vs := [(sl v336), (.int .i64 r334.2)]) (O rfl) rfl) rfl <| Wo (Run_assign (O rfl)) rfl <| Wo (Run_assign (O rfl)) rfl <| ?_
       refine WL_nil <| At_then <| WC_seq <| WC_region ?_
       refine Wo (Run_loadA (vs := [(sl v8), (sl v10), (sl v12), (sl v14), (sl v325)]) Tryd.underlying28 rfl ti28 (O rfl) (fun _ => (hs.box (i := 6) rfl).part 0 rfl) rfl) rfl <| Wo (Run_move (O rfl)) rfl <| ?_
       replace hs := hs.freeze (i := 5) rfl
       obtain ⟨r339, hr340, hm⟩ := bind_some' hm
       refine WL_call (f := 14) (first := []) (cap := []) (xs := [(.tmp 128), (.tmp 129)]) (vs := [(.agg #[(sl v8), (sl v10), (sl v12), (sl v14), (sl v325)]), (sl v2)]) (args := [(.agg #[(sl v8), (sl v10), (sl v12), (sl v14), (sl v325)]), (sl v2)]) Tryd.call14 Opd.f (.cons (O rfl) (.cons (O rfl) .nil)) rfl rfl (step_Next_ok (m := (r6.1.1, r6.1.2.1, r6.1.2.2.1, r6.1.2.2.2.1, ((([] : List (Int × Ex × (List (Int × Ex)))) ++ r6.1.2.2.2.2) ++ ([((IntKind.i64.wrap ((List.length r6.1.2.2.2.1 : Int) - 1)), (Ex.mk 13 0 0 []), ([(0, (Ex.mk 2 0 0 []))] : List (Int × Ex)))] : List (Int × Ex × (List (Int × Ex))))))) (hs.re 18 [9, 10, 11, 12, 5, 7, 17, 0, 1, 2, 3, 4, 5, 6, 7, 8, 9, 10, 11, 12, 13, 14, 15, 16, 17] rfl) hr340) ?_
       rintro _ w343 ⟨v341, R342, rfl, hs⟩
       replace hs := Sat.n19 (Γ := Φ) hs rfl
       refine Wo (Run_move (O rfl)) rfl <| Wo (Run_extract (vs := [(sl v341), (.int .i64 r339.2)]) (O rfl) rfl) rfl <| Wo (Run_extract (vs := [(sl v341), (.int .i64 r339.2)]) (O rfl) rfl) rfl <| Wo (Run_assign (O rfl)) rfl <| Wo (Run_assign (O rfl)) rfl <| ?_
       refine WL_nil <| At_then <| WC_seq <| WC_region ?_
       refine Wo (Run_loadA (vs := [(sl v8), (sl v10), (sl v12), (sl v14), (sl v16)]) Tryd.underlying28 rfl ti28 (O rfl) (fun _ => (hs.box (i := 9) rfl).part 0 rfl) rfl) rfl <| Wo (Run_move (O rfl)) rfl <| ?_
       obtain ⟨r344, hr345, hm⟩ := bind_some' hm
       refine WL_call (f := 14) (first := []) (cap := []) (xs := [(.tmp 134), (.tmp 135)]) (vs := [(.agg #[(sl v8), (sl v10), (sl v12), (sl v14), (sl v16)]), (sl v2)]) (args := [(.agg #[(sl v8), (sl v10), (sl v12), (sl v14), (sl v16)]), (sl v2)]) Tryd.call14 Opd.f (.cons (O rfl) (.cons (O rfl) .nil)) rfl rfl (step_Next_ok (hs.re 19 [10, 11, 12, 13, 14, 8, 18, 0, 1, 2, 3, 4, 5, 6, 7, 8, 9, 10, 11, 12, 13, 14, 15, 16, 17, 18] rfl) hr345) ?_
       rintro _ w348 ⟨v346, R347, rfl, hs⟩
       replace hs := Sat.n20 (Γ := Φ) hs rfl
       refine Wo (Run_move (O rfl)) rfl <| Wo (Run_extract (vs := [(sl v346), (.int .i64 r344.2)]) (O rfl) rfl) rfl <| Wo (Run_extract (vs := [(sl v346), (.int .i64 r344.2)]) (O rfl) rfl) rfl <| Wo (Run_assign (O rfl)) rfl <| Wo (Run_assign (O rfl)) rfl <| ?_
       refine WL_nil <| At_then <| WC_seq <| WC_seq <| WC_region ?_
       refine Wo (Run_move (O rfl)) rfl <| ?_
       obtain ⟨b349, e350, hm⟩ := letv_some hm
       refine Wo (Run.eqB (Run_neI (O rfl) Opd.c) e350) rfl <| Wo (Run_move (O rfl)) rfl <| Wg rfl guard_neg (Run_move (O rfl)) rfl <| ?_
       obtain ⟨b351, e352, hm⟩ := letv_some hm
       refine Wg rfl guard_neg (Run.eqB (Run_neI (Opd.g rfl id) Opd.c) e352) rfl <| ?_
       obtain ⟨b353, e354, hm⟩ := letv_some hm
       refine Wo (Run.eqB (Run_or (O rfl) (Opd.g rfl id)) e354) rfl <| Wo (Run_move (O rfl)) rfl <| Wg rfl guard_neg (Run_move (O rfl)) rfl <| Wg rfl guard_neg (Run_move (O rfl)) rfl <| ?_
       refine WS_litG (A := (RSl (RI .i64))) (xs := [v1]) (zs := [(sl (none, 0, 0))]) (cells := [(sl v2)]) (parts := [(0, (.tmp 147))]) rfl rfl rfl guard_neg hs Tryd.underlying37 ti22 rfl rfl rfl (.cons (Opd.g rfl id) .nil) (by kernel_rfl) rfl (fun hg => (ARd.cons (A := (RSl (RI .i64))) (c := [(sl v2)]) (x := v1) ⟨_, rfl, (hs.sl (i := 9) rfl)⟩ ARd.nil)) rfl ?_
       intro v355 w356 hs
       replace hs := hs.freeze (i := 4) rfl
       obtain ⟨r357, hr358, -, hm⟩ := callG_some hm
       refine WL_callG rfl rfl rfl guard_neg (f := 19) (first := []) (cap := []) (xs := [(.tmp 146), (.tmp 148)]) (vs := [(sl v331), (sl v355)]) (args := [(sl v331), (sl v355)]) Tryd.call19 Opd.f (.cons (Opd.g rfl id) (.cons (Opd.g rfl id) .nil)) rfl rfl (fun hg => scrutinyref02_Vecs_ok ((hs.dupS (i := 0) rfl hg).re 22 [5, 0, 1, 2, 3, 4, 5, 6, 7, 8, 9, 10, 11, 12, 13, 14, 15, 16, 17, 18, 19, 20, 21] rfl) (hr358 hg)) ?_
       intro v360 w359 hv361 hz362
       replace hs := Sat.ofG (fun hg => (hv361 hg).2.re 21 [0, 1, 2, 3, 4, 5, 6, 7, 8, 9, 10, 11, 12, 13, 14, 15, 16, 17, 18, 19, 20] rfl) hz362 hs
       refine WL_sub1 (v := (.bool r357)) (fun hg => (hv361 hg).1) ?_
       replace hs := Sat.n21 (Γ := Φ) hs rfl
       obtain ⟨b363, e364, hm⟩ := letv_some hm
       refine Wg rfl guard_neg (Run.eqB (Run_notB (Opd.g rfl id)) e364) rfl <| ?_
       obtain ⟨b365, e366, hm⟩ := letv_some hm
       refine Wo (Run.eqB (Run_or (O rfl) (Opd.g rfl id)) e366) rfl <| Wo (Run_move (O rfl)) rfl <| Wg rfl guard_neg (Run_move (O rfl)) rfl <| Wg rfl guard_neg (Run_move (O rfl)) rfl <| ?_
       replace hs := hs.freeze (i := 3) rfl
       obtain ⟨r367, hr368, -, hm⟩ := callG_some hm
       refine WL_callG rfl rfl rfl guard_neg (f := 19) (first := []) (cap := []) (xs := [(.tmp 153), (.tmp 154)]) (vs := [(sl v336), (sl v331)]) (args := [(sl v336), (sl v331)]) Tryd.call19 Opd.f (.cons (Opd.g rfl id) (.cons (Opd.g rfl id) .nil)) rfl rfl (fun hg => scrutinyref02_Vecs_ok (hs.re 21 [3, 4, 0, 1, 2, 3, 4, 5, 6, 7, 8, 9, 10, 11, 12, 13, 14, 15, 16, 17, 18, 19, 20] rfl) (hr368 hg)) ?_
       intro v370 w369 hv371 hz372
       replace hs := Sat.ofG (fun hg => (hv371 hg).2.re 21 [0, 1, 2, 3, 4, 5, 6, 7, 8, 9, 10, 11, 12, 13, 14, 15, 16, 17, 18, 19, 20] rfl) hz372 hs
       refine WL_sub1 (v := (.bool r367)) (fun hg => (hv371 hg).1) ?_
       replace hs := Sat.n21 (Γ := Φ) hs rfl
       obtain ⟨b373, e374, hm⟩ := letv_some hm
       refine Wg rfl guard_neg (Run.eqB (Run_notB (Opd.g rfl id)) e374) rfl <| ?_
       obtain ⟨b375, e376, hm⟩ := letv_some hm
       refine Wo (Run.eqB (Run_or (O rfl) (Opd.g rfl id)) e376) rfl <| Wo (Run_move (O rfl)) rfl <| Wg rfl guard_neg (Run_loadA (vs := [(sl v8), (sl v10), (sl v12), (sl v14), (sl v69)]) Tryd.underlying28 rfl ti28 (O rfl) (fun _ => (hs.box (i := 18) rfl).part 0 rfl) rfl) rfl <| Wg rfl guard_neg (Run_move (O rfl)) rfl <| ?_
       obtain ⟨r377, hr378, -, hm⟩ := callG_some hm
       refine WL_callG rfl rfl rfl guard_neg (f := 17) (first := []) (cap := []) (xs := [(.tmp 159), (.tmp 160)]) (vs := [(.agg #[(sl v8), (sl v10), (sl v12), (sl v14), (sl v69)]), (sl v2)]) (args := [(.agg #[(sl v8), (sl v10), (sl v12), (sl v14), (sl v69)]), (sl v2)]) Tryd.call17 Opd.f (.cons (Opd.g rfl id) (.cons (Opd.g rfl id) .nil)) rfl rfl (fun hg => step_Enabled_ok (m := (r6.1.1, r6.1.2.1, r6.1.2.2.1, r6.1.2.2.2.1, l68)) (hs.re 21 [12, 13, 14, 15, 19, 10, 0, 1, 2, 3, 4, 5, 6, 7, 8, 9, 10, 11, 12, 13, 14, 15, 16, 17, 18, 19, 20] rfl) (hr378 hg)) ?_
       intro v382 w381 hv383 hz384
       obtain ⟨v379, hw385, hs⟩ : ∃ v379 : SLV, ((!b375) = true → v382 = (sl v379)) ∧ Sat (immG (!b375) (RSl (RI .i64)) [sl v379] r377 :: immG (!b353) (RSl (RSl (RI .i64))) [sl v355] ([v1] : List (List Int)) :: osl (RSl (RI .i64)) 22 (sl v346) r344.1 R347 :: osl (RSl (RI .i64)) 22 (sl v341) r339.1 R342 :: imm (RSl (RSl (RI .i64))) [sl v336] r334.1 :: imm (RSl (RSl (RI .i64))) [sl v331] r329.1 :: imm (RSl (RP (RI .i64) (RP RExpr (RSl (RP (RI .i64) RExpr))))) [sl (none, 0, 0)] [] :: imm (RSl (RP (RI .i64) (RP RExpr (RSl (RP (RI .i64) RExpr))))) [sl (some ⟨b318, 0, none⟩, 1, 1)] ([((IntKind.i64.wrap ((List.length r6.1.2.2.2.1 : Int) - 1)), (Ex.mk 13 0 0 []), ([(0, (Ex.mk 2 0 0 []))] : List (Int × Ex)))] : List (Int × Ex × (List (Int × Ex)))) :: imm (RSl (RP (RI .i64) RExpr)) [sl (some ⟨b214, 0, none⟩, 1, 1)] ([(0, (Ex.mk 2 0 0 []))] : List (Int × Ex)) :: imm (RSl (RP (RI .i64) (RP RExpr (RSl (RP (RI .i64) RExpr))))) [sl v325] ((([] : List (Int × Ex × (List (Int × Ex)))) ++ r6.1.2.2.2.2) ++ ([((IntKind.i64.wrap ((List.length r6.1.2.2.2.1 : Int) - 1)), (Ex.mk 13 0 0 []), ([(0, (Ex.mk 2 0 0 []))] : List (Int × Ex)))] : List (Int × Ex × (List (Int × Ex))))) :: box b103 28 [(sl v8), (sl v10), (sl v12), (sl v14), (sl v325)] :: imm (RSl (RI .i64)) [sl v2] v1 :: box b19 28 [(sl v8), (sl v10), (sl v12), (sl v14), (sl v16)] :: imm (RSl RS) [sl v8] r6.1.1 :: imm (RSl (RP (RI .i64) (RI .i64))) [sl v10] r6.1.2.1 :: imm (RSl (RI .i64)) [sl v12] r6.1.2.2.1 :: imm (RSl RS) [sl v14] r6.1.2.2.2.1 :: imm (RSl (RP (RI .i64) (RP RExpr (RSl (RP (RI .i64) RExpr))))) [sl v16] r6.1.2.2.2.2 :: box b59 28 [(sl v8), (sl v10), (sl v12), (sl v14), (sl (none, 0, 0))] :: box b63 28 [(sl v8), (sl v10), (sl v12), (sl v14), (sl v69)] :: imm (RSl (RP (RI .i64) (RP RExpr (RSl (RP (RI .i64) RExpr))))) [sl v69] l68 :: gl 0 (pow10L.map (Value.int .u64)) :: Φ) w381 := by
        cases hg : (!b375)
        ·rw [hz384 hg]; exact ⟨(none, 0, 0), (fun h => by cases h), (sat_addG0 hs rfl)⟩
        ·obtain ⟨v379, R380, hq, hs⟩ := hv383 hg
         replace hs := hs.freeze (i := 0) rfl
         replace hs := hs.re 22 [0, 1, 2, 3, 4, 5, 6, 7, 8, 9, 10, 11, 12, 13, 14, 15, 16, 17, 18, 19, 20, 21] rfl
         replace hs := sat_gate hs (i := 0) rfl true
         exact ⟨v379, (fun _ => hq), hs⟩
       refine WL_sub1 (v := (sl v379)) hw385 ?_
       refine Wg rfl guard_neg (Run_lenSlG Tryd.underlying22 (Opd.g rfl id) (fun hg => ((hs.slG (i := 0) rfl) hg).len)) rfl <| ?_
       obtain ⟨b386, e387, hm⟩ := letv_some hm
       refine Wg rfl guard_neg (Run.eqB (Run_neI (Opd.g rfl id) Opd.c) e387) rfl <| ?_
       obtain ⟨b388, e389, hm⟩ := letv_some hm
       refine Wo (Run.eqB (Run_or (O rfl) (Opd.g rfl id)) e389) rfl <| ?_
       refine WL_nil <| At_then ?_
       refine WC_cond (O rfl) (fun hc390 => ?_) (fun hc390 => ?_)
       ·
        replace hm := bif_t hc390 hm
        refine WC_seq <| WC_region ?_
        refine Wo (Run_assign Opd.c) rfl <| ?_
        refine WL_nil <| At_then ?_
        refine WC_ret ?_
        refine At_then_ret <| ?_
        refine At_r1 rfl (ResIs.t rfl) ?_
        cases hm
        exact ⟨rfl, (hs.re 22 [] rfl)⟩
       ·
        replace hm := bif_f hc390 hm
        refine WC_skip ?_
        refine At_then <| WC_seq <| WC_seq <| WC_region ?_
        refine Wo (Run_move (O rfl)) rfl <| Wo (Run_neI (O rfl) Opd.c) rfl <| ?_
        refine WL_nil <| At_then ?_
        refine WC_cond (O rfl) (fun hc391 => ?_) (fun hc391 => ?_)
        ·
         replace hm := bif_t hc391 hm
         refine WC_seq <| WC_region ?_
         refine Wo (Run_move (O rfl)) rfl <| Wo (Run_move (O rfl)) rfl <| WL_opG rfl rfl rfl rfl guard_pos (Run_move (O rfl)) rfl rfl rfl <| WL_opG rfl rfl rfl rfl guard_pos (Run_move (O rfl)) rfl rfl rfl <| ?_
         obtain ⟨b392, e393, hm⟩ := letv_some hm
         refine WL_opG rfl rfl rfl rfl guard_pos (Run.eqB (Run_eqI (Opd.g rfl id) (Opd.g rfl id)) e393) rfl rfl rfl <| ?_
         obtain ⟨b394, e395, hm⟩ := letv_some hm
         refine Wo (Run.eqB (Run_and (O rfl) (Opd.g rfl id)) e395) rfl <| Wo (Run_assign (O rfl)) rfl <| ?_
         refine WL_nil <| At_then ?_
         refine WC_ret ?_
         refine At_then_ret <| ?_
         refine At_r1 rfl (ResIs.t rfl) ?_
         cases hm
         exact ⟨rfl, (hs.re 22 [] rfl)⟩
        ·
         replace hm := bif_f hc391 hm
         refine WC_skip ?_
         refine At_then <| WC_seq <| WC_region ?_
         refine Wo (Run_move (O rfl)) rfl <| Wo (Run_lenSlG Tryd.underlying37 (O rfl) (fun _ => (hs.own (i := 2) rfl).len)) rfl <| Wo (Run_assign (O rfl)) rfl <| ?_
         refine WL_nil <| At_then ?_
         refine WC_seq_cut (γ := Int) (fun want397 w396 => scrutinylaw15_StepStays_K3 v1 r3 r339 want397 = some r ∧ Sat (imm (RSl (RI .i64)) [sl v2] v1 :: osl (RSl (RI .i64)) 22 (sl v341) r339.1 R342 :: gl 0 (pow10L.map (Value.int .u64)) :: Φ) w396) (fun want397 => [(1, true, (sl v2)), (5, true, (.bool r3)), (18, true, (sl v341)), (19, true, (.int .i64 r339.2)), (22, true, (.int .i64 want397))]) ?_ ?_
         ·
          rintro want397 w396 ⟨hm, hs⟩
          unfold scrutinylaw15_StepStays_K3 at hm
          refine WC_seq <| WC_region ?_
          refine Wo (Run_move (O rfl)) rfl <| Wo (Run_move (O rfl)) rfl <| WL_opG rfl rfl rfl rfl guard_pos (Run_move (O rfl)) rfl rfl rfl <| ?_
          obtain ⟨b398, e399, hm⟩ := letv_some hm
          refine WL_opG rfl rfl rfl rfl guard_pos (Run.eqB (Run_eqI (Opd.g rfl id) Opd.c) e399) rfl rfl rfl <| ?_
          obtain ⟨b400, e401, hm⟩ := letv_some hm
          refine Wo (Run.eqB (Run_and (O rfl) (Opd.g rfl id)) e401) rfl <| Wo (Run_move (O rfl)) rfl <| WL_opG rfl rfl rfl rfl guard_pos (Run_move (O rfl)) rfl rfl rfl <| WL_opG rfl rfl rfl rfl guard_pos (Run_lenSlG Tryd.underlying37 (Opd.g rfl id) (fun _ => (hs.own (i := 1) rfl).len)) rfl rfl rfl <| WL_opG rfl rfl rfl rfl guard_pos (Run_move (O rfl)) rfl rfl rfl <| ?_
          obtain ⟨b402, e403, hm⟩ := letv_some hm
          refine WL_opG rfl rfl rfl rfl guard_pos (Run.eqB (Run_eqI (Opd.g rfl id) (Opd.g rfl id)) e403) rfl rfl rfl <| ?_
          obtain ⟨b404, e405, hm⟩ := letv_some hm
          refine Wo (Run.eqB (Run_and (O rfl) (Opd.g rfl id)) e405) rfl <| Wo (Run_move (O rfl)) rfl <| WL_opG rfl rfl rfl rfl guard_pos (Run_move (O rfl)) rfl rfl rfl <| WL_opG rfl rfl rfl rfl guard_pos (Run_move (O rfl)) rfl rfl rfl <| ?_
          replace hs := hs.freeze (i := 1) rfl
          obtain ⟨r406, hr407, -, hm⟩ := callG_some hm
          refine WL_callG rfl rfl rfl guard_pos (f := 22) (first := []) (cap := []) (xs := [(.tmp 193), (.tmp 194)]) (vs := [(sl v341), (sl v2)]) (args := [(sl v341), (sl v2)]) Tryd.call22 Opd.f (.cons (Opd.g rfl id) (.cons (Opd.g rfl id) .nil)) rfl rfl (fun hg => scrutinyref15_Place_ok (hs.re 3 [1, 0, 0, 1, 2] rfl) (hr407 hg)) ?_
          intro v409 w408 hv410 hz411
          replace hs := Sat.ofG (fun hg => (hv410 hg).2.re 3 [0, 1, 2] rfl) hz411 hs
          refine WL_sub1 (v := (.int .i64 r406)) (fun hg => (hv410 hg).1) ?_
          replace hs := Sat.n3 (Γ := Φ) hs rfl
          obtain ⟨b412, e413, hm⟩ := letv_some hm
          refine WL_opG rfl rfl rfl rfl guard_pos (Run.eqB (Run_geI (Opd.g rfl id) Opd.c) e413) rfl rfl rfl <| ?_
          obtain ⟨b414, e415, hm⟩ := letv_some hm
          refine Wo (Run.eqB (Run_and (O rfl) (Opd.g rfl id)) e415) rfl <| Wo (Run_assign (O rfl)) rfl <| ?_
          refine WL_nil <| At_then ?_
          refine WC_ret ?_
          refine At_r1 rfl (ResIs.t rfl) ?_
          cases hm
          exact ⟨rfl, (hs.re 3 [] rfl)⟩
         ·
          refine WC_seq <| WC_region ?_
          refine Wo (Run_move (O rfl)) rfl <| Wo (Run_move (O rfl)) rfl <| ?_
          replace hs := hs.freeze (i := 2) rfl
          obtain ⟨r416, hr417, hm⟩ := bind_some' hm
          refine WL_call (f := 22) (first := []) (cap := []) (xs := [(.tmp 175), (.tmp 176)]) (vs := [(sl v346), (sl v2)]) (args := [(sl v346), (sl v2)]) Tryd.call22 Opd.f (.cons (O rfl) (.cons (O rfl) .nil)) rfl rfl (scrutinyref15_Place_ok (hs.re 22 [2, 11, 0, 1, 2, 3, 4, 5, 6, 7, 8, 9, 10, 11, 12, 13, 14, 15, 16, 17, 18, 19, 20, 21] rfl) hr417) ?_
          rintro _ w418 ⟨rfl, hs⟩
          replace hs := hs.re 22 [3, 11, 21] rfl
          replace hs := Sat.n3 (Γ := Φ) hs rfl
          refine Wo (Run_ltI (O rfl) Opd.c) rfl <| ?_
          refine WL_nil <| At_then ?_
          refine WC_cond (O rfl) (fun hc419 => ?_) (fun hc419 => ?_)
          ·
           replace hm := bif_t hc419 hm
           refine WC_region ?_
           refine Wo (Run_move (O rfl)) rfl <| Wo (Run_add (O rfl) Opd.c) rfl <| Wo (Run_assign (O rfl)) rfl <| ?_
           refine WL_nil ?_
           exact At_join (IntKind.i64.wrap ((List.length r344.1 : Int) + 1)) ⟨hm, (hs.re 3 [1, 0, 2] rfl)⟩ rfl
          ·
           replace hm := bif_f hc419 hm
           refine WC_skip ?_
           exact At_join (List.length r344.1 : Int) ⟨hm, (hs.re 3 [1, 0, 2] rfl)⟩ rfl
    ·
     refine WD_loud (pend' := [(5, fun w => CellsAt w ⟨b19, 3, none⟩ [(sl v14)]), (2, fun w => CellsAt w ⟨b19, 4, none⟩ [(sl v16)])]) rfl (by kernel_rfl) ?_
     refine WS_lit (A := (RP (RI .i64) RExpr)) (xs := [(0, (Ex.mk 2 0 0 []))]) (zs := [(.int .i64 0), (.int .i64 0), (.int .i64 0), (.int .i64 0), (sl (none, 0, 0))]) (cells := [(.int .i64 0), (.int .i64 2), (.int .i64 0), (.int .i64 0), (sl (none, 0, 0))]) (parts := [(0, (.tmp 109))]) hs Tryd.underlying58 ti62 rfl rfl rfl (.cons (O rfl) .nil) (by kernel_rfl) rfl (ARd.cons (A := (RP (RI .i64) RExpr)) (c := [(.int .i64 0), (.int .i64 2), (.int .i64 0), (.int .i64 0), (sl (none, 0, 0))]) (x := (0, (Ex.mk 2 0 0 []))) ⟨_, _, rfl, rfl, (RExpr_close (⟨_, rfl, SRd.nil⟩))⟩ ARd.nil) rfl ?_
     intro b420 w421 hs
     replace hs := Sat.n13 (Γ := Φ) hs rfl
     refine WL_nil ?_
     refine At_QK (allJ_cons ((hs.box (i := 3) rfl).part 3 rfl) (allJ_cons ((hs.box (i := 3) rfl).part 4 rfl) allJ_nil)) ?_
     refine WD_pure (fun _ => (Run_build (parts := [(0, (.tmp 106)), (1, (.tmp 107)), (2, (.tmp 110))]) (v := (.agg #[(.int .i64 (IntKind.i64.wrap ((List.length r6.1.2.2.2.1 : Int) - 1))), (.int .i64 13), (.int .i64 0), (.int .i64 0), (sl (none, 0, 0)), (sl (some ⟨b420, 0, none⟩, 1, 1))])) (.cons (O rfl) (.cons (O rfl) (.cons (O rfl) .nil))) (fun _ => by kernel_rfl))) rfl rfl rfl rfl <| ?_
     refine WD_loud2 ?_ ?_
     ·
      refine WD_loud (pend' := [(5, fun w => CellsAt w ⟨b19, 3, none⟩ [(sl v14)]), (2, fun w => CellsAt w ⟨b19, 4, none⟩ [(sl v16)])]) rfl (by kernel_rfl) ?_
      refine WS_lit0 (A := (RP (RI .i64) (RP RExpr (RSl (RP (RI .i64) RExpr))))) hs Tryd.underlying26 ti60 rfl ?_
      intro b422 w423 hs
      replace hs := Sat.n14 (Γ := Φ) hs rfl
      refine WL_nil ?_
      refine At_QK (allJ_cons ((hs.box (i := 4) rfl).part 3 rfl) (allJ_cons ((hs.box (i := 4) rfl).part 4 rfl) allJ_nil)) ?_
      refine WD_loud2 ?_ ?_
      ·
       refine WD_loud (pend' := [(5, fun w => CellsAt w ⟨b19, 3, none⟩ [(sl v14)])]) rfl (by kernel_rfl) ?_
       obtain ⟨k424, hm⟩ := chk_some hm
       refine WS_append (A := (RP (RI .i64) (RP RExpr (RSl (RP (RI .i64) RExpr))))) hs 0 rfl Tryd.underlying26 ti60 rfl rfl (O rfl) (O rfl) (hs.sl (i := 9) rfl) k424 rfl ?_
       intro v425 R426 w427 hs
       replace hs := Sat.n14 (Γ := Φ) hs rfl
       refine WL_nil ?_
       refine At_QK (allJ_cons ((hs.box (i := 4) rfl).part 3 rfl) allJ_nil) ?_
       refine WD_loud (pend' := [(5, fun w => CellsAt w ⟨b19, 3, none⟩ [(sl v14)])]) rfl (by kernel_rfl) ?_
       replace hs := hs.freeze (i := 1) rfl
       refine WS_lit (A := (RP (RI .i64) (RP RExpr (RSl (RP (RI .i64) RExpr))))) (xs := [((IntKind.i64.wrap ((List.length r6.1.2.2.2.1 : Int) - 1)), (Ex.mk 13 0 0 []), ([(0, (Ex.mk 2 0 0 []))] : List (Int × Ex)))]) (zs := [(.int .i64 0), (.int .i64 0), (.int .i64 0), (.int .i64 0), (sl (none, 0, 0)), (sl (none, 0, 0))]) (cells := [(.int .i64 (IntKind.i64.wrap ((List.length r6.1.2.2.2.1 : Int) - 1))), (.int .i64 13), (.int .i64 0), (.int .i64 0), (sl (none, 0, 0)), (sl (some ⟨b420, 0, none⟩, 1, 1))]) (parts := [(0, (.tmp 111))]) hs Tryd.underlying26 ti60 rfl rfl rfl (.cons (O rfl) .nil) (by kernel_rfl) rfl (ARd.cons (A := (RP (RI .i64) (RP RExpr (RSl (RP (RI .i64) RExpr))))) (c := [(.int .i64 (IntKind.i64.wrap ((List.length r6.1.2.2.2.1 : Int) - 1))), (.int .i64 13), (.int .i64 0), (.int .i64 0), (sl (none, 0, 0)), (sl (some ⟨b420, 0, none⟩, 1, 1))]) (x := ((IntKind.i64.wrap ((List.length r6.1.2.2.2.1 : Int) - 1)), (Ex.mk 13 0 0 []), ([(0, (Ex.mk 2 0 0 []))] : List (Int × Ex)))) ⟨_, _, rfl, rfl, ⟨_, _, rfl, (RExpr_close (⟨_, rfl, SRd.nil⟩)), ⟨_, rfl, (hs.sl (i := 1) rfl)⟩⟩⟩ ARd.nil) rfl ?_
       intro b428 w429 hs
       replace hs := Sat.n15 (Γ := Φ) hs rfl
       refine WL_nil ?_
       refine At_QK (allJ_cons ((hs.box (i := 5) rfl).part 3 rfl) allJ_nil) ?_
       refine WD_loud (pend' := [(5, fun w => CellsAt w ⟨b19, 3, none⟩ [(sl v14)])]) rfl (by kernel_rfl) ?_
       replace hs := hs.freeze (i := 0) rfl
       obtain ⟨k430, hm⟩ := chk_some hm
       refine WS_append (A := (RP (RI .i64) (RP RExpr (RSl (RP (RI .i64) RExpr))))) hs 1 rfl Tryd.underlying26 ti60 rfl rfl (O rfl) (O rfl) (hs.sl (i := 0) rfl) k430 rfl ?_
       intro v431 R432 w433 hs
       replace hs := Sat.n15 (Γ := Φ) hs rfl
       refine WL_nil ?_
       refine At_QK (allJ_cons ((hs.box (i := 5) rfl).part 3 rfl) allJ_nil) ?_
       refine WD_pure (fun _ => (Run_fieldAddr fo28_4 (O rfl))) rfl rfl rfl rfl <| ?_
       refine WD_loud (pend' := []) rfl (by kernel_rfl) ?_
       refine WS_store (us := [(sl v431)]) (vs' := [(sl v8), (sl v10), (sl v12), (sl v14), (sl v431)]) hs 3 rfl ti26 (O rfl) (O rfl) rfl rfl rfl rfl rfl ?_
       intro w434 hs
       replace hs := Sat.n15 (Γ := Φ) hs rfl
       refine WL_nil ?_
       refine At_QK allJ_nil ?_
       refine WD_nil ?_
       refine At_then <| WC_seq <| WC_region ?_
       refine Wo (Run_loadA (vs := [(sl v8), (sl v10), (sl v12), (sl v14), (sl (none, 0, 0))]) Tryd.underlying28 rfl ti28 (O rfl) (fun _ => (hs.box (i := 11) rfl).part 0 rfl) rfl) rfl <| Wo (Run_move (O rfl)) rfl <| ?_
       replace hs := hs.addNilI (RP (RI .i64) (RP RExpr (RSl (RP (RI .i64) RExpr))))
       obtain ⟨r435, hr436, hm⟩ := bind_some' hm
       refine WL_call (f := 14) (first := []) (cap := []) (xs := [(.tmp 116), (.tmp 117)]) (vs := [(.agg #[(sl v8), (sl v10), (sl v12), (sl v14), (sl (none, 0, 0))]), (sl v2)]) (args := [(.agg #[(sl v8), (sl v10), (sl v12), (sl v14), (sl (none, 0, 0))]), (sl v2)]) Tryd.call14 Opd.f (.cons (O rfl) (.cons (O rfl) .nil)) rfl rfl (step_Next_ok (m := (r6.1.1, r6.1.2.1, r6.1.2.2.1, r6.1.2.2.2.1, [])) (hs.re 16 [7, 8, 9, 10, 0, 5, 15, 0, 1, 2, 3, 4, 5, 6, 7, 8, 9, 10, 11, 12, 13, 14, 15] rfl) hr436) ?_
       rintro _ w439 ⟨v437, R438, rfl, hs⟩
       replace hs := Sat.n17 (Γ := Φ) hs rfl
       refine Wo (Run_move (O rfl)) rfl <| Wo (Run_extract (vs := [(sl v437), (.int .i64 r435.2)]) (O rfl) rfl) rfl <| Wo (Run_extract (vs := [(sl v437), (.int .i64 r435.2)]) (O rfl) rfl) rfl <| Wo (Run_assign (O rfl)) rfl <| Wo (Run_assign (O rfl)) rfl <| ?_
       refine WL_nil <| At_then <| WC_seq <| WC_region ?_
       refine Wo (Run_loadA (vs := [(sl v8), (sl v10), (sl v12), (sl v14), (sl v69)]) Tryd.underlying28 rfl ti28 (O rfl) (fun _ => (hs.box (i := 14) rfl).part 0 rfl) rfl) rfl <| Wo (Run_move (O rfl)) rfl <| ?_
       replace hs := hs.freeze (i := 15) rfl
       obtain ⟨r440, hr441, hm⟩ := bind_some' hm
       refine WL_call (f := 14) (first := []) (cap := []) (xs := [(.tmp 122), (.tmp 123)]) (vs := [(.agg #[(sl v8), (sl v10), (sl v12), (sl v14), (sl v69)]), (sl v2)]) (args := [(.agg #[(sl v8), (sl v10), (sl v12), (sl v14), (sl v69)]), (sl v2)]) Tryd.call14 Opd.f (.cons (O rfl) (.cons (O rfl) .nil)) rfl rfl (step_Next_ok (m := (r6.1.1, r6.1.2.1, r6.1.2.2.1, r6.1.2.2.2.1, l68)) (hs.re 17 [8, 9, 10, 11, 15, 6, 16, 0, 1, 2, 3, 4, 5, 6, 7, 8, 9, 10, 11, 12, 13, 14, 15, 16] rfl) hr441) ?_
       rintro _ w444 ⟨v442, R443, rfl, hs⟩
       replace hs := Sat.n18 (Γ := Φ) hs rfl
       refine Wo (Run_move (O rfl)) rfl <| Wo (Run_extract (vs := [(sl v442), (.int .i64 r440.2)]) (O rfl) rfl) rfl <| Wo (Run_extract (vs := [(sl v442), (.int .i64 r440.2)]) (O rfl) rfl) rfl <| Wo (Run_assign (O rfl)) rfl <| Wo (Run_assign (O rfl)) rfl <| ?_
       refine WL_nil <| At_then <| WC_seq <| WC_region ?_
       refine Wo (Run_loadA (vs := [(sl v8), (sl v10), (sl v12), (sl v14), (sl v431)]) Tryd.underlying28 rfl ti28 (O rfl) (fun _ => (hs.box (i := 6) rfl).part 0 rfl) rfl) rfl <| Wo (Run_move (O rfl)) rfl <| ?_
       replace hs := hs.freeze (i := 4) rfl
       obtain ⟨r445, hr446, hm⟩ := bind_some' hm
       refine WL_call (f := 14) (first := []) (cap := []) (xs := [(.tmp 128), (.tmp 129)]) (vs := [(.agg #[(sl v8), (sl v10), (sl v12), (sl v14), (sl v431)]), (sl v2)]) (args := [(.agg #[(sl v8), (sl v10), (sl v12), (sl v14), (sl v431)]), (sl v2)]) Tryd.call14 Opd.f (.cons (O rfl) (.cons (O rfl) .nil)) rfl rfl (step_Next_ok (m := (r6.1.1, r6.1.2.1, r6.1.2.2.1, r6.1.2.2.2.1, ((([] : List (Int × Ex × (List (Int × Ex)))) ++ r6.1.2.2.2.2) ++ ([((IntKind.i64.wrap ((List.length r6.1.2.2.2.1 : Int) - 1)), (Ex.mk 13 0 0 []), ([(0, (Ex.mk 2 0 0 []))] : List (Int × Ex)))] : List (Int × Ex × (List (Int × Ex))))))) (hs.re 18 [9, 10, 11, 12, 4, 7, 17, 0, 1, 2, 3, 4, 5, 6, 7, 8, 9, 10, 11, 12, 13, 14, 15, 16, 17] rfl) hr446) ?_
       rintro _ w449 ⟨v447, R448, rfl, hs⟩
       replace hs := Sat.n19 (Γ := Φ) hs rfl
       refine Wo (Run_move (O rfl)) rfl <| Wo (Run_extract (vs := [(sl v447), (.int .i64 r445.2)]) (O rfl) rfl) rfl <| Wo (Run_extract (vs := [(sl v447), (.int .i64 r445.2)]) (O rfl) rfl) rfl <| Wo (Run_assign (O rfl)) rfl <| Wo (Run_assign (O rfl)) rfl <| ?_
       refine WL_nil <| At_then <| WC_seq <| WC_region ?_
       refine Wo (Run_loadA (vs := [(sl v8), (sl v10), (sl v12), (sl v14), (sl v16)]) Tryd.underlying28 rfl ti28 (O rfl) (fun _ => (hs.box (i := 9) rfl).part 0 rfl) rfl) rfl <| Wo (Run_move (O rfl)) rfl <| ?_
       obtain ⟨r450, hr451, hm⟩ := bind_some' hm
       refine WL_call (f := 14) (first := []) (cap := []) (xs := [(.tmp 134), (.tmp 135)]) (vs := [(.agg #[(sl v8), (sl v10), (sl v12), (sl v14), (sl v16)]), (sl v2)]) (args := [(.agg #[(sl v8), (sl v10), (sl v12), (sl v14), (sl v16)]), (sl v2)]) Tryd.call14 Opd.f (.cons (O rfl) (.cons (O rfl) .nil)) rfl rfl (step_Next_ok (hs.re 19 [10, 11, 12, 13, 14, 8, 18, 0, 1, 2, 3, 4, 5, 6, 7, 8, 9, 10, 11, 12, 13, 14, 15, 16, 17, 18] rfl) hr451) ?_
       rintro _ w454 ⟨v452, R453, rfl, hs⟩
       replace hs := Sat.n20 (Γ := Φ) hs rfl
       refine Wo (Run_move (O rfl)) rfl <| Wo (Run_extract (vs := [(sl v452), (.int .i64 r450.2)]) (O rfl) rfl) rfl <| Wo (Run_extract (vs := [(sl v452), (.int .i64 r450.2)]) (O rfl) rfl) rfl <| Wo (Run_assign (O rfl)) rfl <| Wo (Run_assign (O rfl)) rfl <| ?_
       refine WL_nil <| At_then <| WC_seq <| WC_seq <| WC_region ?_
       refine Wo (Run_move (O rfl)) rfl <| ?_
       obtain ⟨b455, e456, hm⟩ := letv_some hm
       refine Wo (Run.eqB (Run_neI (O rfl) Opd.c) e456) rfl <| Wo (Run_move (O rfl)) rfl <| Wg rfl guard_neg (Run_move (O rfl)) rfl <| ?_
       obtain ⟨b457, e458, hm⟩ := letv_some hm
       refine Wg rfl guard_neg (Run.eqB (Run_neI (Opd.g rfl id) Opd.c) e458) rfl <| ?_
       obtain ⟨b459, e460, hm⟩ := letv_some hm
       refine Wo (Run.eqB (Run_or (O rfl) (Opd.g rfl id)) e460) rfl <| Wo (Run_move (O rfl)) rfl <| Wg rfl guard_neg (Run_move (O rfl)) rfl <| Wg rfl guard_neg (Run_move (O rfl)) rfl <| ?_
       refine WS_litG (A := (RSl (RI .i64))) (xs := [v1]) (zs := [(sl (none, 0, 0))]) (cells := [(sl v2)]) (parts := [(0, (.tmp 147))]) rfl rfl rfl guard_neg hs Tryd.underlying37 ti22 rfl rfl rfl (.cons (Opd.g rfl id) .nil) (by kernel_rfl) rfl (fun hg => (ARd.cons (A := (RSl (RI .i64))) (c := [(sl v2)]) (x := v1) ⟨_, rfl, (hs.sl (i := 9) rfl)⟩ ARd.nil)) rfl ?_
       intro v461 w462 hs
       replace hs := hs.freeze (i := 4) rfl
       obtain ⟨r463, hr464, -, hm⟩ := callG_some hm
       refine WL_callG rfl rfl rfl guard_neg (f := 19) (first := []) (cap := []) (xs := [(.tmp 146), (.tmp 148)]) (vs := [(sl v437), (sl v461)]) (args := [(sl v437), (sl v461)]) Tryd.call19 Opd.f (.cons (Opd.g rfl id) (.cons (Opd.g rfl id) .nil)) rfl rfl (fun hg => scrutinyref02_Vecs_ok ((hs.dupS (i := 0) rfl hg).re 22 [5, 0, 1, 2, 3, 4, 5, 6, 7, 8, 9, 10, 11, 12, 13, 14, 15, 16, 17, 18, 19, 20, 21] rfl) (hr464 hg)) ?_
       intro v466 w465 hv467 hz468
       replace hs := Sat.ofG (fun hg => (hv467 hg).2.re 21 [0, 1, 2, 3, 4, 5, 6, 7, 8, 9, 10, 11, 12, 13, 14, 15, 16, 17, 18, 19, 20] rfl) hz468 hs
       refine WL_sub1 (v := (.bool r463)) (fun hg => (hv467 hg).1) ?_
       replace hs := Sat.n21 (Γ := Φ) hs rfl
       obtain ⟨b469, e470, hm⟩ := letv_some hm
       refine Wg rfl guard_neg (Run.eqB (Run_notB (Opd.g rfl id)) e470) rfl <| ?_
       obtain ⟨b471, e472, hm⟩ := letv_some hm
       refine Wo (Run.eqB (Run_or (O rfl) (Opd.g rfl id)) e472) rfl <| Wo (Run_move (O rfl)) rfl <| Wg rfl guard_neg (Run_move (O rfl)) rfl <| Wg rfl guard_neg (Run_move (O rfl)) rfl <| ?_
       replace hs := hs.freeze (i := 3) rfl
       obtain ⟨r473, hr474, -, hm⟩ := callG_some hm
       refine WL_callG rfl rfl rfl guard_neg (f := 19) (first := []) (cap := []) (xs := [(.tmp 153), (.tmp 154)]) (vs := [(sl v442), (sl v437)]) (args := [(sl v442), (sl v437)]) Tryd.call19 Opd.f (.cons (Opd.g rfl id) (.cons (Opd.g rfl id) .nil)) rfl rfl (fun hg => scrutinyref02_Vecs_ok (hs.re 21 [3, 4, 0, 1, 2, 3, 4, 5, 6, 7, 8, 9, 10, 11, 12, 13, 14, 15, 16, 17, 18, 19, 20] rfl) (hr474 hg)) ?_
       intro v476 w475 hv477 hz478
       replace hs := Sat.ofG (fun hg => (hv477 hg).2.re 21 [0, 1, 2, 3, 4, 5, 6, 7, 8, 9, 10, 11, 12, 13, 14, 15, 16, 17, 18, 19, 20] rfl) hz478 hs
       refine WL_sub1 (v := (.bool r473)) (fun hg => (hv477 hg).1) ?_
       replace hs := Sat.n21 (Γ := Φ) hs rfl
       obtain ⟨b479, e480, hm⟩ := letv_some hm
       refine Wg rfl guard_neg (Run.eqB (Run_notB (Opd.g rfl id)) e480) rfl <| ?_
       obtain ⟨b481, e482, hm⟩ := letv_some hm
       refine Wo (Run.eqB (Run_or (O rfl) (Opd.g rfl id)) e482) rfl <| Wo (Run_move (O rfl)) rfl <| Wg rfl guard_neg (Run_loadA (vs := [(sl v8), (sl v10), (sl v12), (sl v14), (sl v69)]) Tryd.underlying28 rfl ti28 (O rfl) (fun _ => (hs.box (i := 18) rfl).part 0 rfl) rfl) rfl <| Wg rfl guard_neg (Run_move (O rfl)) rfl <| ?_
       obtain ⟨r483, hr484, -, hm⟩ := callG_some hm
       refine WL_callG rfl rfl rfl guard_neg (f := 17) (first := []) (cap := []) (xs := [(.tmp 159), (.tmp 160)]) (vs := [(.agg #[(sl v8), (sl v10), (sl v12), (sl v14), (sl v69)]), (sl v2)]) (args := [(.agg #[(sl v8), (sl v10), (sl v12), (sl v14), (sl v69)]), (sl v2)]) Tryd.call17 Opd.f (.cons (Opd.g rfl id) (.cons (Opd.g rfl id) .nil)) rfl rfl (fun hg => step_Enabled_ok (m := (r6.1.1, r6.1.2.1, r6.1.2.2.1, r6.1.2.2.2.1, l68)) (hs.re 21 [12, 13, 14, 15, 19, 10, 0, 1, 2, 3, 4, 5, 6, 7, 8, 9, 10, 11, 12, 13, 14, 15, 16, 17, 18, 19, 20] rfl) (hr484 hg)) ?_
       intro v488 w487 hv489 hz490
       obtain ⟨v485, hw491, hs⟩ : ∃ v485 : SLV, ((!b481) = true → v488 = (sl v485)) ∧ Sat (immG (!b481) (RSl (RI .i64)) [sl v485] r483 :: immG (!b459) (RSl (RSl (RI .i64))) [sl v461] ([v1] : List (List Int)) :: osl (RSl (RI .i64)) 22 (sl v452) r450.1 R453 :: osl (RSl (RI .i64)) 22 (sl v447) r445.1 R448 :: imm (RSl (RSl (RI .i64))) [sl v442] r440.1 :: imm (RSl (RSl (RI .i64))) [sl v437] r435.1 :: imm (RSl (RP (RI .i64) (RP RExpr (RSl (RP (RI .i64) RExpr))))) [sl (none, 0, 0)] [] :: imm (RSl (RP (RI .i64) (RP RExpr (RSl (RP (RI .i64) RExpr))))) [sl (some ⟨b428, 0, none⟩, 1, 1)] ([((IntKind.i64.wrap ((List.length r6.1.2.2.2.1 : Int) - 1)), (Ex.mk 13 0 0 []), ([(0, (Ex.mk 2 0 0 []))] : List (Int × Ex)))] : List (Int × Ex × (List (Int × Ex)))) :: imm (RSl (RP (RI .i64) (RP RExpr (RSl (RP (RI .i64) RExpr))))) [sl v431] ((([] : List (Int × Ex × (List (Int × Ex)))) ++ r6.1.2.2.2.2) ++ ([((IntKind.i64.wrap ((List.length r6.1.2.2.2.1 : Int) - 1)), (Ex.mk 13 0 0 []), ([(0, (Ex.mk 2 0 0 []))] : List (Int × Ex)))] : List (Int × Ex × (List (Int × Ex))))) :: imm (RSl (RP (RI .i64) RExpr)) [sl (some ⟨b420, 0, none⟩, 1, 1)] ([(0, (Ex.mk 2 0 0 []))] : List (Int × Ex)) :: box b103 28 [(sl v8), (sl v10), (sl v12), (sl v14), (sl v431)] :: imm (RSl (RI .i64)) [sl v2] v1 :: box b19 28 [(sl v8), (sl v10), (sl v12), (sl v14), (sl v16)] :: imm (RSl RS) [sl v8] r6.1.1 :: imm (RSl (RP (RI .i64) (RI .i64))) [sl v10] r6.1.2.1 :: imm (RSl (RI .i64)) [sl v12] r6.1.2.2.1 :: imm (RSl RS) [sl v14] r6.1.2.2.2.1 :: imm (RSl (RP (RI .i64) (RP RExpr (RSl (RP (RI .i64) RExpr))))) [sl v16] r6.1.2.2.2.2 :: box b59 28 [(sl v8), (sl v10), (sl v12), (sl v14), (sl (none, 0, 0))] :: box b63 28 [(sl v8), (sl v10), (sl v12), (sl v14), (sl v69)] :: imm (RSl (RP (RI .i64) (RP RExpr (RSl (RP (RI .i64) RExpr))))) [sl v69] l68 :: gl 0 (pow10L.map (Value.int .u64)) :: Φ) w487 := by
        cases hg : (!b481)
        ·rw [hz490 hg]; exact ⟨(none, 0, 0), (fun h => by cases h), (sat_addG0 hs rfl)⟩
        ·obtain ⟨v485, R486, hq, hs⟩ := hv489 hg
         replace hs := hs.freeze (i := 0) rfl
         replace hs := hs.re 22 [0, 1, 2, 3, 4, 5, 6, 7, 8, 9, 10, 11, 12, 13, 14, 15, 16, 17, 18, 19, 20, 21] rfl
         replace hs := sat_gate hs (i := 0) rfl true
         exact ⟨v485, (fun _ => hq), hs⟩
       refine WL_sub1 (v := (sl v485)) hw491 ?_
       refine Wg rfl guard_neg (Run_lenSlG Tryd.underlying22 (Opd.g rfl id) (fun hg => ((hs.slG (i := 0) rfl) hg).len)) rfl <| ?_
       obtain ⟨b492, e493, hm⟩ := letv_some hm
       refine Wg rfl guard_neg (Run.eqB (Run_neI (Opd.g rfl id) Opd.c) e493) rfl <| ?_
       obtain ⟨b494, e495, hm⟩ := letv_some hm
       refine Wo (Run.eqB (Run_or (O rfl) (Opd.g rfl id)) e495) rfl <| ?_
       refine WL_nil <| At_then ?_
       refine WC_cond (O rfl) (fun hc496 => ?_) (fun hc496 => ?_)
       ·
        replace hm := bif_t hc496 hm
        refine WC_seq <| WC_region ?_
        refine Wo (Run_assign Opd.c) rfl <| ?_
        refine WL_nil <| At_then ?_
        refine WC_ret ?_
        refine At_then_ret <| ?_
        refine At_r1 rfl (ResIs.t rfl) ?_
        cases hm
        exact ⟨rfl, (hs.re 22 [] rfl)⟩
       ·
        replace hm := bif_f hc496 hm
        refine WC_skip ?_
        refine At_then <| WC_seq <| WC_seq <| WC_region ?_
        refine Wo (Run_move (O rfl)) rfl <| Wo (Run_neI (O rfl) Opd.c) rfl <| ?_
        refine WL_nil <| At_then ?_
        refine WC_cond (O rfl) (fun hc497 => ?_) (fun hc497 => ?_)
        ·
         replace hm := bif_t hc497 hm
         refine WC_seq <| WC_region ?_
         refine Wo (Run_move (O rfl)) rfl <| Wo (Run_move (O rfl)) rfl <| WL_opG rfl rfl rfl rfl guard_pos (Run_move (O rfl)) rfl rfl rfl <| WL_opG rfl rfl rfl rfl guard_pos (Run_move (O rfl)) rfl rfl rfl <| ?_
         obtain ⟨b498, e499, hm⟩ := letv_some hm
         refine WL_opG rfl rfl rfl rfl guard_pos (Run.eqB (Run_eqI (Opd.g rfl id) (Opd.g rfl id)) e499) rfl rfl rfl <| ?_
         obtain ⟨b500, e501, hm⟩ := letv_some hm
         refine Wo (Run.eqB (Run_and (O rfl) (Opd.g rfl id)) e501) rfl <| Wo (Run_assign (O rfl)) rfl <| ?_
         refine WL_nil <| At_then ?_
         refine WC_ret ?_
         refine At_then_ret <| ?_
         refine At_r1 rfl (ResIs.t rfl) ?_
         cases hm
         exact ⟨rfl, (hs.re 22 [] rfl)⟩
        ·
         replace hm := bif_f hc497 hm
         refine WC_skip ?_
         refine At_then <| WC_seq <| WC_region ?_
         refine Wo (Run_move (O rfl)) rfl <| Wo (Run_lenSlG Tryd.underlying37 (O rfl) (fun _ => (hs.own (i := 2) rfl).len)) rfl <| Wo (Run_assign (O rfl)) rfl <| ?_
         refine WL_nil <| At_then ?_
         refine WC_seq_cut (γ := Int) (fun want503 w502 => scrutinylaw15_StepStays_K3 v1 r3 r445 want503 = some r ∧ Sat (imm (RSl (RI .i64)) [sl v2] v1 :: osl (RSl (RI .i64)) 22 (sl v447) r445.1 R448 :: gl 0 (pow10L.map (Value.int .u64)) :: Φ) w502) (fun want503 => [(1, true, (sl v2)), (5, true, (.bool r3)), (18, true, (sl v447)), (19, true, (.int .i64 r445.2)), (22, true, (.int .i64 want503))]) ?_ ?_
         ·
          rintro want503 w502 ⟨hm, hs⟩
          unfold scrutinylaw15_StepStays_K3 at hm
          refine WC_seq <| WC_region ?_
          refine Wo (Run_move (O rfl)) rfl <| Wo (Run_move (O rfl)) rfl <| WL_opG rfl rfl rfl rfl guard_pos (Run_move (O rfl)) rfl rfl rfl <| ?_
          obtain ⟨b504, e505, hm⟩ := letv_some hm
          refine WL_opG rfl rfl rfl rfl guard_pos (Run.eqB (Run_eqI (Opd.g rfl id) Opd.c) e505) rfl rfl rfl <| ?_
          obtain ⟨b506, e507, hm⟩ := letv_some hm
          refine Wo (Run.eqB (Run_and (O rfl) (Opd.g rfl id)) e507) rfl <| Wo (Run_move (O rfl)) rfl <| WL_opG rfl rfl rfl rfl guard_pos (Run_move (O rfl)) rfl rfl rfl <| WL_opG rfl rfl rfl rfl guard_pos (Run_lenSlG Tryd.underlying37 (Opd.g rfl id) (fun _ => (hs.own (i := 1) rfl).len)) rfl rfl rfl <| WL_opG rfl rfl rfl rfl guard_pos (Run_move (O rfl)) rfl rfl rfl <| ?_
          obtain ⟨b508, e509, hm⟩ := letv_some hm
          refine WL_opG rfl rfl rfl rfl guard_pos (Run.eqB (Run_eqI (Opd.g rfl id) (Opd.g rfl id)) e509) rfl rfl rfl <| ?_
          obtain ⟨b510, e511, hm⟩ := letv_some hm
          refine Wo (Run.eqB (Run_and (O rfl) (Opd.g rfl id)) e511) rfl <| Wo (Run_move (O rfl)) rfl <| WL_opG rfl rfl rfl rfl guard_pos (Run_move (O rfl)) rfl rfl rfl <| WL_opG rfl rfl rfl rfl guard_pos (Run_move (O rfl)) rfl rfl rfl <| ?_
          replace hs := hs.freeze (i := 1) rfl
          obtain ⟨r512, hr513, -, hm⟩ := callG_some hm
          refine WL_callG rfl rfl rfl guard_pos (f := 22) (first := []) (cap := []) (xs := [(.tmp 193), (.tmp 194)]) (vs := [(sl v447), (sl v2)]) (args := [(sl v447), (sl v2)]) Tryd.call22 Opd.f (.cons (Opd.g rfl id) (.cons (Opd.g rfl id) .nil)) rfl rfl (fun hg => scrutinyref15_Place_ok (hs.re 3 [1, 0, 0, 1, 2] rfl) (hr513 hg)) ?_
          intro v515 w514 hv516 hz517
          replace hs := Sat.ofG (fun hg => (hv516 hg).2.re 3 [0, 1, 2] rfl) hz517 hs
          refine WL_sub1 (v := (.int .i64 r512)) (fun hg => (hv516 hg).1) ?_
          replace hs := Sat.n3 (Γ := Φ) hs rfl
          obtain ⟨b518, e519, hm⟩ := letv_some hm
          refine WL_opG rfl rfl rfl rfl guard_pos (Run.eqB (Run_geI (Opd.g rfl id) Opd.c) e519) rfl rfl rfl <| ?_
          obtain ⟨b520, e521, hm⟩ := letv_some hm
          refine Wo (Run.eqB (Run_and (O rfl) (Opd.g rfl id)) e521) rfl <| Wo (Run_assign (O rfl)) rfl <| ?_
          refine WL_nil <| At_then ?_
          refine WC_ret ?_
          refine At_r1 rfl (ResIs.t rfl) ?_
          cases hm
          exact ⟨rfl, (hs.re 3 [] rfl)⟩
         ·
          refine WC_seq <| WC_region ?_
          refine Wo (Run_move (O rfl)) rfl <| Wo (Run_move (O rfl)) rfl <| ?_
          replace hs := hs.freeze (i := 2) rfl
          obtain ⟨r522, hr523, hm⟩ := bind_some' hm
          refine WL_call (f := 22) (first := []) (cap := []) (xs := [(.tmp 175), (.tmp 176)]) (vs := [(sl v452), (sl v2)]) (args := [(sl v452), (sl v2)]) Tryd.call22 Opd.f (.cons (O rfl) (.cons (O rfl) .nil)) rfl rfl (scrutinyref15_Place_ok (hs.re 22 [2, 11, 0, 1, 2, 3, 4, 5, 6, 7, 8, 9, 10, 11, 12, 13, 14, 15, 16, 17, 18, 19, 20, 21] rfl) hr523) ?_
          rintro _ w524 ⟨rfl, hs⟩
          replace hs := hs.re 22 [3, 11, 21] rfl
          replace hs := Sat.n3 (Γ := Φ) hs rfl
          refine Wo (Run_ltI (O rfl) Opd.c) rfl <| ?_
          refine WL_nil <| At_then ?_
          refine WC_cond (O rfl) (fun hc525 => ?_) (fun hc525 => ?_)
          ·
           replace hm := bif_t hc525 hm
           refine WC_region ?_
           refine Wo (Run_move (O rfl)) rfl <| Wo (Run_add (O rfl) Opd.c) rfl <| Wo (Run_assign (O rfl)) rfl <| ?_
           refine WL_nil ?_
           exact At_join (IntKind.i64.wrap ((List.length r450.1 : Int) + 1)) ⟨hm, (hs.re 3 [1, 0, 2] rfl)⟩ rfl
          ·
           replace hm := bif_f hc525 hm
           refine WC_skip ?_
           exact At_join (List.length r450.1 : Int) ⟨hm, (hs.re 3 [1, 0, 2] rfl)⟩ rfl
      ·
       refine WD_loud (pend' := [(5, fun w => CellsAt w ⟨b19, 3, none⟩ [(sl v14)]), (2, fun w => CellsAt w ⟨b19, 4, none⟩ [(sl v16)])]) rfl (by kernel_rfl) ?_
       replace hs := hs.freeze (i := 1) rfl
       refine WS_lit (A := (RP (RI .i64) (RP RExpr (RSl (RP (RI .i64) RExpr))))) (xs := [((IntKind.i64.wrap ((List.length r6.1.2.2.2.1 : Int) - 1)), (Ex.mk 13 0 0 []), ([(0, (Ex.mk 2 0 0 []))] : List (Int × Ex)))]) (zs := [(.int .i64 0), (.int .i64 0), (.int .i64 0), (.int .i64 0), (sl (none, 0, 0)), (sl (none, 0, 0))]) (cells := [(.int .i64 (IntKind.i64.wrap ((List.length r6.1.2.2.2.1 : Int) - 1))), (.int .i64 13), (.int .i64 0), (.int .i64 0), (sl (none, 0, 0)), (sl (some ⟨b420, 0, none⟩, 1, 1))]) (parts := [(0, (.tmp 111))]) hs Tryd.underlying26 ti60 rfl rfl rfl (.cons (O rfl) .nil) (by kernel_rfl) rfl (ARd.cons (A := (RP (RI .i64) (RP RExpr (RSl (RP (RI .i64) RExpr))))) (c := [(.int .i64 (IntKind.i64.wrap ((List.length r6.1.2.2.2.1 : Int) - 1))), (.int .i64 13), (.int .i64 0), (.int .i64 0), (sl (none, 0, 0)), (sl (some ⟨b420, 0, none⟩, 1, 1))]) (x := ((IntKind.i64.wrap ((List.length r6.1.2.2.2.1 : Int) - 1)), (Ex.mk 13 0 0 []), ([(0, (Ex.mk 2 0 0 []))] : List (Int × Ex)))) ⟨_, _, rfl, rfl, ⟨_, _, rfl, (RExpr_close (⟨_, rfl, SRd.nil⟩)), ⟨_, rfl, (hs.sl (i := 1) rfl)⟩⟩⟩ ARd.nil) rfl ?_
       intro b526 w527 hs
       replace hs := Sat.n15 (Γ := Φ) hs rfl
       refine WL_nil ?_
       refine At_QK (allJ_cons ((hs.box (i := 5) rfl).part 3 rfl) (allJ_cons ((hs.box (i := 5) rfl).part 4 rfl) allJ_nil)) ?_
       refine WD_loud (pend' := [(5, fun w => CellsAt w ⟨b19, 3, none⟩ [(sl v14)])]) rfl (by kernel_rfl) ?_
       obtain ⟨k528, hm⟩ := chk_some hm
       refine WS_append (A := (RP (RI .i64) (RP RExpr (RSl (RP (RI .i64) RExpr))))) hs 1 rfl Tryd.underlying26 ti60 rfl rfl (O rfl) (O rfl) (hs.sl (i := 10) rfl) k528 rfl ?_
       intro v529 R530 w531 hs
       replace hs := Sat.n15 (Γ := Φ) hs rfl
       refine WL_nil ?_
       refine At_QK (allJ_cons ((hs.box (i := 5) rfl).part 3 rfl) allJ_nil) ?_
       refine WD_loud (pend' := [(5, fun w => CellsAt w ⟨b19, 3, none⟩ [(sl v14)])]) rfl (by kernel_rfl) ?_
       replace hs := hs.freeze (i := 0) rfl
       obtain ⟨k532, hm⟩ := chk_some hm
       refine WS_append (A := (RP (RI .i64) (RP RExpr (RSl (RP (RI .i64) RExpr))))) hs 1 rfl Tryd.underlying26 ti60 rfl rfl (O rfl) (O rfl) (hs.sl (i := 0) rfl) k532 rfl ?_
       intro v533 R534 w535 hs
       replace hs := Sat.n15 (Γ := Φ) hs rfl
       refine WL_nil ?_
       refine At_QK (allJ_cons ((hs.box (i := 5) rfl).part 3 rfl) allJ_nil) ?_
       refine WD_pure (fun _ => (Run_fieldAddr fo28_4 (O rfl))) rfl rfl rfl rfl <| ?_
       refine WD_loud (pend' := []) rfl (by kernel_rfl) ?_
       refine WS_store (us := [(sl v533)]) (vs' := [(sl v8), (sl v10), (sl v12), (sl v14), (sl v533)]) hs 3 rfl ti26 (O rfl) (O rfl) rfl rfl rfl rfl rfl ?_
       intro w536 hs
       replace hs := Sat.n15 (Γ := Φ) hs rfl
       refine WL_nil ?_
       refine At_QK allJ_nil ?_
       refine WD_nil ?_
       refine At_then <| WC_seq <| WC_region ?_
       refine Wo (Run_loadA (vs := [(sl v8), (sl v10), (sl v12), (sl v14), (sl (none, 0, 0))]) Tryd.underlying28 rfl ti28 (O rfl) (fun _ => (hs.box (i := 11) rfl).part 0 rfl) rfl) rfl <| Wo (Run_move (O rfl)) rfl <| ?_
       replace hs := hs.addNilI (RP (RI .i64) (RP RExpr (RSl (RP (RI .i64) RExpr))))
       obtain ⟨r537, hr538, hm⟩ := bind_some' hm
       refine WL_call (f := 14) (first := []) (cap := []) (xs := [(.tmp 116), (.tmp 117)]) (vs := [(.agg #[(sl v8), (sl v10), (sl v12), (sl v14), (sl (none, 0, 0))]), (sl v2)]) (args := [(.agg #[(sl v8), (sl v10), (sl v12), (sl v14), (sl (none, 0, 0))]), (sl v2)]) Tryd.call14 Opd.f (.cons (O rfl) (.cons (O rfl) .nil)) rfl rfl (step_Next_ok (m := (r6.1.1, r6.1.2.1, r6.1.2.2.1, r6.1.2.2.2.1, [])) (hs.re 16 [7, 8, 9, 10, 0, 5, 15, 0, 1, 2, 3, 4, 5, 6, 7, 8, 9, 10, 11, 12, 13, 14, 15] rfl) hr538) ?_
       rintro _ w541 ⟨v539, R540, rfl, hs⟩
       replace hs := Sat.n17 (Γ := Φ) hs rfl
       refine Wo (Run_move (O rfl)) rfl <| Wo (Run_extract (vs := [(sl v539), (.int .i64 r537.2)]) (O rfl) rfl) rfl <| Wo (Run_extract (vs := [(sl v539), (.int .i64 r537.2)]) (O rfl) rfl) rfl <| Wo (Run_assign (O rfl)) rfl <| Wo (Run_assign (O rfl)) rfl <| ?_
       refine WL_nil <| At_then <| WC_seq <| WC_region ?_
       refine Wo (Run_loadA (vs := [(sl v8), (sl v10), (sl v12), (sl v14), (sl v69)]) Tryd.underlying28 rfl ti28 (O rfl) (fun _ => (hs.box (i := 14) rfl).part 0 rfl) rfl) rfl <| Wo (Run_move (O rfl)) rfl <| ?_
       replace hs := hs.freeze (i := 15) rfl
       obtain ⟨r542, hr543, hm⟩ := bind_some' hm
       refine WL_call (f := 14) (first := []) (cap := []) (xs := [(.tmp 122), (.tmp 123)]) (vs := [(.agg #[(sl v8), (sl v10), (sl v12), (sl v14), (sl v69)]), (sl v2)]) (args := [(.agg #[(sl v8), (sl v10), (sl v12), (sl v14), (sl v69)]), (sl v2)]) Tryd.call14 Opd.f (.cons (O rfl) (.cons (O rfl) .nil)) rfl rfl (step_Next_ok (m := (r6.1.1, r6.1.2.1, r6.1.2.2.1, r6.1.2.2.2.1, l68)) (hs.re 17 [8, 9, 10, 11, 15, 6, 16, 0, 1, 2, 3, 4, 5, 6, 7, 8, 9, 10, 11, 12, 13, 14, 15, 16] rfl) hr543) ?_
       rintro _ w546 ⟨v544, R545, rfl, hs⟩
       replace hs := Sat.n18 (Γ := Φ) hs rfl
       refine Wo (Run_move (O rfl)) rfl <| Wo (Run_extract (vs := [(sl v544), (.int .i64 r542.2)]) (O rfl) rfl) rfl <| Wo (Run_extract (vs := [(sl v544), (.int .i64 r542.2)]) (O rfl) rfl) rfl <| Wo (Run_assign (O rfl)) rfl <| Wo (Run_assign (O rfl)) rfl <| ?_
       refine WL_nil <| At_then <| WC_seq <| WC_region ?_
       refine Wo (Run_loadA (vs := [(sl v8), (sl v10), (sl v12), (sl v14), (sl v533)]) Tryd.underlying28 rfl ti28 (O rfl) (fun _ => (hs.box (i := 6) rfl).part 0 rfl) rfl) rfl <| Wo (Run_move (O rfl)) rfl <| ?_
       replace hs := hs.freeze (i := 4) rfl
       obtain ⟨r547, hr548, hm⟩ := bind_some' hm
       refine WL_call (f := 14) (first := []) (cap := []) (xs := [(.tmp 128), (.tmp 129)]) (vs := [(.agg #[(sl v8), (sl v10), (sl v12), (sl v14), (sl v533)]), (sl v2)]) (args := [(.agg #[(sl v8), (sl v10), (sl v12), (sl v14), (sl v533)]), (sl v2)]) Tryd.call14 Opd.f (.cons (O rfl) (.cons (O rfl) .nil)) rfl rfl (step_Next_ok (m := (r6.1.1, r6.1.2.1, r6.1.2.2.1, r6.1.2.2.2.1, ((([] : List (Int × Ex × (List (Int × Ex)))) ++ r6.1.2.2.2.2) ++ ([((IntKind.i64.wrap ((List.length r6.1.2.2.2.1 : Int) - 1)), (Ex.mk 13 0 0 []), ([(0, (Ex.mk 2 0 0 []))] : List (Int × Ex)))] : List (Int × Ex × (List (Int × Ex))))))) (hs.re 18 [9, 10, 11, 12, 4, 7, 17, 0, 1, 2, 3, 4, 5, 6, 7, 8, 9, 10, 11, 12, 13, 14, 15, 16, 17] rfl) hr548) ?_
       rintro _ w551 ⟨v549, R550, rfl, hs⟩
       replace hs := Sat.n19 (Γ := Φ) hs rfl
       refine Wo (Run_move (O rfl)) rfl <| Wo (Run_extract (vs := [(sl v549), (.int .i64 r547.2)]) (O rfl) rfl) rfl <| Wo (Run_extract (vs := [(sl v549), (.int .i64 r547.2)]) (O rfl) rfl) rfl <| Wo (Run_assign (O rfl)) rfl <| Wo (Run_assign (O rfl)) rfl <| ?_
       refine WL_nil <| At_then <| WC_seq <| WC_region ?_
       refine Wo (Run_loadA (vs := [(sl v8), (sl v10), (sl v12), (sl v14), (sl v16)]) Tryd.underlying28 rfl ti28 (O rfl) (fun _ => (hs.box (i := 9) rfl).part 0 rfl) rfl) rfl <| Wo (Run_move (O rfl)) rfl <| ?_
       obtain ⟨r552, hr553, hm⟩ := bind_some' hm
       refine WL_call (f := 14) (first := []) (cap := []) (xs := [(.tmp 134), (.tmp 135)]) (vs := [(.agg #[(sl v8), (sl v10), (sl v12), (sl v14), (sl v16)]), (sl v2)]) (args := [(.agg #[(sl v8), (sl v10), (sl v12), (sl v14), (sl v16)]), (sl v2)]) Tryd.call14 Opd.f (.cons (O rfl) (.cons (O rfl) .nil)) rfl rfl (step_Next_ok (hs.re 19 [10, 11, 12, 13, 14, 8, 18, 0, 1, 2, 3, 4, 5, 6, 7, 8, 9, 10, 11, 12, 13, 14, 15, 16, 17, 18] rfl) hr553) ?_
       rintro _ w556 ⟨v554, R555, rfl, hs⟩
       replace hs := Sat.n20 (Γ := Φ) hs rfl
       refine Wo (Run_move (O rfl)) rfl <| Wo (Run_extract (vs := [(sl v554), (.int .i64 r552.2)]) (O rfl) rfl) rfl <| Wo (Run_extract (vs := [(sl v554), (.int .i64 r552.2)]) (O rfl) rfl) rfl <| Wo (Run_assign (O rfl)) rfl <| Wo (Run_assign (O rfl)) rfl <| ?_
       refine WL_nil <| At_then <| WC_seq <| WC_seq <| WC_region ?_
       refine Wo (Run_move (O rfl)) rfl <| ?_
       obtain ⟨b557, e558, hm⟩ := letv_some hm
       refine Wo (Run.eqB (Run_neI (O rfl) Opd.c) e558) rfl <| Wo (Run_move (O rfl)) rfl <| Wg rfl guard_neg (Run_move (O rfl)) rfl <| ?_
       obtain ⟨b559, e560, hm⟩ := letv_some hm
       refine Wg rfl guard_neg (Run.eqB (Run_neI (Opd.g rfl id) Opd.c) e560) rfl <| ?_
       obtain ⟨b561, e562, hm⟩ := letv_some hm
       refine Wo (Run.eqB (Run_or (O rfl) (Opd.g rfl id)) e562) rfl <| Wo (Run_move (O rfl)) rfl <| Wg rfl guard_neg (Run_move (O rfl)) rfl <| Wg rfl guard_neg (Run_move (O rfl)) rfl <| ?_
       refine WS_litG (A := (RSl (RI .i64))) (xs := [v1]) (zs := [(sl (none, 0, 0))]) (cells := [(sl v2)]) (parts := [(0, (.tmp 147))]) rfl rfl rfl guard_neg hs Tryd.underlying37 ti22 rfl rfl rfl (.cons (Opd.g rfl id) .nil) (by kernel_rfl) rfl (fun hg => (ARd.cons (A := (RSl (RI .i64))) (c := [(sl v2)]) (x := v1) ⟨_, rfl, (hs.sl (i := 9) rfl)⟩ ARd.nil)) rfl ?_
       intro v563 w564 hs
       replace hs := hs.freeze (i := 4) rfl
       obtain ⟨r565, hr566, -, hm⟩ := callG_some hm
       refine WL_callG rfl rfl rfl guard_neg (f := 19) (first := []) (cap := []) (xs := [(.tmp 146), (.tmp 148)]) (vs := [(sl v539), (sl v563)]) (args := [(sl v539), (sl v563)]) Tryd.call19 Opd.f (.cons (Opd.g rfl id) (.cons (Opd.g rfl id) .nil)) rfl rfl (fun hg => scrutinyref02_Vecs_ok ((hs.dupS (i := 0) rfl hg).re 22 [5, 0, 1, 2, 3, 4, 5, 6, 7, 8, 9, 10, 11, 12, 13, 14, 15, 16, 17, 18, 19, 20, 21] rfl) (hr566 hg)) ?_
       intro v568 w567 hv569 hz570
       replace hs := Sat.ofG (fun hg => (hv569 hg).2.re 21 [0, 1, 2, 3, 4, 5, 6, 7, 8, 9, 10, 11, 12, 13, 14, 15, 16, 17, 18, 19, 20] rfl) hz570 hs
       refine WL_sub1 (v := (.bool r565)) (fun hg => (hv569 hg).1) ?_
       replace hs := Sat.n21 (Γ := Φ) hs rfl
       obtain ⟨b571, e572, hm⟩ := letv_some hm
       refine Wg rfl guard_neg (Run.eqB (Run_notB (Opd.g rfl id)) e572) rfl <| ?_
       obtain ⟨b573, e574, hm⟩ := letv_some hm
       refine Wo (Run.eqB (Run_or (O rfl) (Opd.g rfl id)) e574) rfl <| Wo (Run_move (O rfl)) rfl <| Wg rfl guard_neg (Run_move (O rfl)) rfl <| Wg rfl guard_neg (Run_move (O rfl)) rfl <| ?_
       replace hs := hs.freeze (i := 3) rfl
       obtain ⟨r575, hr576, -, hm⟩ := callG_some hm
       refine WL_callG rfl rfl rfl guard_neg (f := 19) (first := []) (cap := []) (xs := [(.tmp 153), (.tmp 154)]) (vs := [(sl v544), (sl v539)]) (args := [(sl v544), (sl v539)]) Tryd.call19 Opd.f (.cons (Opd.g rfl id) (.cons (Opd.g rfl id) .nil)) rfl rfl (fun hg => scrutinyref02_Vecs_ok (hs.re 21 [3, 4, 0, 1, 2, 3, 4, 5, 6, 7, 8, 9, 10, 11, 12, 13, 14, 15, 16, 17, 18, 19, 20] rfl) (hr576 hg)) ?_
       intro v578 w577 hv579 hz580
       replace hs := Sat.ofG (fun hg => (hv579 hg).2.re 21 [0, 1, 2, 3, 4, 5, 6, 7, 8, 9, 10, 11, 12, 13, 14, 15, 16, 17, 18, 19, 20] rfl) hz580 hs
       refine WL_sub1 (v := (.bool r575)) (fun hg => (hv579 hg).1) ?_
       replace hs := Sat.n21 (Γ := Φ) hs rfl
       obtain ⟨b581, e582, hm⟩ := letv_some hm
       refine Wg rfl guard_neg (Run.eqB (Run_notB (Opd.g rfl id)) e582) rfl <| ?_
       obtain ⟨b583, e584, hm⟩ := letv_some hm
       refine Wo (Run.eqB (Run_or (O rfl) (Opd.g rfl id)) e584) rfl <| Wo (Run_move (O rfl)) rfl <| Wg rfl guard_neg (Run_loadA (vs := [(sl v8), (sl v10), (sl v12), (sl v14), (sl v69)]) Tryd.underlying28 rfl ti28 (O rfl) (fun _ => (hs.box (i := 18) rfl).part 0 rfl) rfl) rfl <| Wg rfl guard_neg (Run_move (O rfl)) rfl <| ?_
       obtain ⟨r585, hr586, -, hm⟩ := callG_some hm
       refine WL_callG rfl rfl rfl guard_neg (f := 17) (first := []) (cap := []) (xs := [(.tmp 159), (.tmp 160)]) (vs := [(.agg #[(sl v8), (sl v10), (sl v12), (sl v14), (sl v69)]), (sl v2)]) (args := [(.agg #[(sl v8), (sl v10), (sl v12), (sl v14), (sl v69)]), (sl v2)]) Tryd.call17 Opd.f (.cons (Opd.g rfl id) (.cons (Opd.g rfl id) .nil)) rfl rfl (fun hg => step_Enabled_ok (m := (r6.1.1, r6.1.2.1, r6.1.2.2.1, r6.1.2.2.2.1, l68)) (hs.re 21 [12, 13, 14, 15, 19, 10, 0, 1, 2, 3, 4, 5, 6, 7, 8, 9, 10, 11, 12, 13, 14, 15, 16, 17, 18, 19, 20] rfl) (hr586 hg)) ?_
       intro v590 w589 hv591 hz592
       obtain ⟨v587, hw593, hs⟩ : ∃ v587 : SLV, ((!b583) = true → v590 = (sl v587)) ∧ Sat (immG (!b583) (RSl (RI .i64)) [sl v587] r585 :: immG (!b561) (RSl (RSl (RI .i64))) [sl v563] ([v1] : List (List Int)) :: osl (RSl (RI .i64)) 22 (sl v554) r552.1 R555 :: osl (RSl (RI .i64)) 22 (sl v549) r547.1 R550 :: imm (RSl (RSl (RI .i64))) [sl v544] r542.1 :: imm (RSl (RSl (RI .i64))) [sl v539] r537.1 :: imm (RSl (RP (RI .i64) (RP RExpr (RSl (RP (RI .i64) RExpr))))) [sl (none, 0, 0)] [] :: imm (RSl (RP (RI .i64) (RP RExpr (RSl (RP (RI .i64) RExpr))))) [sl (some ⟨b526, 0, none⟩, 1, 1)] ([((IntKind.i64.wrap ((List.length r6.1.2.2.2.1 : Int) - 1)), (Ex.mk 13 0 0 []), ([(0, (Ex.mk 2 0 0 []))] : List (Int × Ex)))] : List (Int × Ex × (List (Int × Ex)))) :: imm (RSl (RP (RI .i64) (RP RExpr (RSl (RP (RI .i64) RExpr))))) [sl v533] ((([] : List (Int × Ex × (List (Int × Ex)))) ++ r6.1.2.2.2.2) ++ ([((IntKind.i64.wrap ((List.length r6.1.2.2.2.1 : Int) - 1)), (Ex.mk 13 0 0 []), ([(0, (Ex.mk 2 0 0 []))] : List (Int × Ex)))] : List (Int × Ex × (List (Int × Ex))))) :: imm (RSl (RP (RI .i64) RExpr)) [sl (some ⟨b420, 0, none⟩, 1, 1)] ([(0, (Ex.mk 2 0 0 []))] : List (Int × Ex)) :: box b103 28 [(sl v8), (sl v10), (sl v12), (sl v14), (sl v533)] :: imm (RSl (RI .i64)) [sl v2] v1 :: box b19 28 [(sl v8), (sl v10), (sl v12), (sl v14), (sl v16)] :: imm (RSl RS) [sl v8] r6.1.1 :: imm (RSl (RP (RI .i64) (RI .i64))) [sl v10] r6.1.2.1 :: imm (RSl (RI .i64)) [sl v12] r6.1.2.2.1 :: imm (RSl RS) [sl v14] r6.1.2.2.2.1 :: imm (RSl (RP (RI .i64) (RP RExpr (RSl (RP (RI .i64) RExpr))))) [sl v16] r6.1.2.2.2.2 :: box b59 28 [(sl v8), (sl v10), (sl v12), (sl v14), (sl (none, 0, 0))] :: box b63 28 [(sl v8), (sl v10), (sl v12), (sl v14), (sl v69)] :: imm (RSl (RP (RI .i64) (RP RExpr (RSl (RP (RI .i64) RExpr))))) [sl v69] l68 :: gl 0 (pow10L.map (Value.int .u64)) :: Φ) w589 := by
        cases hg : (!b583)
        ·rw [hz592 hg]; exact ⟨(none, 0, 0), (fun h => by cases h), (sat_addG0 hs rfl)⟩
        ·obtain ⟨v587, R588, hq, hs⟩ := hv591 hg
         replace hs := hs.freeze (i := 0) rfl
         replace hs := hs.re 22 [0, 1, 2, 3, 4, 5, 6, 7, 8, 9, 10, 11, 12, 13, 14, 15, 16, 17, 18, 19, 20, 21] rfl
         replace hs := sat_gate hs (i := 0) rfl true
         exact ⟨v587, (fun _ => hq), hs⟩
       refine WL_sub1 (v := (sl v587)) hw593 ?_
       refine Wg rfl guard_neg (Run_lenSlG Tryd.underlying22 (Opd.g rfl id) (fun hg => ((hs.slG (i := 0) rfl) hg).len)) rfl <| ?_
       obtain ⟨b594, e595, hm⟩ := letv_some hm
       refine Wg rfl guard_neg (Run.eqB (Run_neI (Opd.g rfl id) Opd.c) e595) rfl <| ?_
       obtain ⟨b596, e597, hm⟩ := letv_some hm
       refine Wo (Run.eqB (Run_or (O rfl) (Opd.g rfl id)) e597) rfl <| ?_
       refine WL_nil <| At_then ?_
       refine WC_cond (O rfl) (fun hc598 => ?_) (fun hc598 => ?_)
       ·
        replace hm := bif_t hc598 hm
        refine WC_seq <| WC_region ?_
        refine Wo (Run_assign Opd.c) rfl <| ?_
        refine WL_nil <| At_then ?_
        refine WC_ret ?_
        refine At_then_ret <| ?_
        refine At_r1 rfl (ResIs.t rfl) ?_
        cases hm
        exact ⟨rfl, (hs.re 22 [] rfl)⟩
       ·
        replace hm := bif_f hc598 hm
        refine WC_skip ?_
        refine At_then <| WC_seq <| WC_seq <| WC_region ?_
        refine Wo (Run_move (O rfl)) rfl <| Wo (Run_neI (O rfl) Opd.c) rfl <| ?_
        refine WL_nil <| At_then ?_
        refine WC_cond (O rfl) (fun hc599 => ?_) (fun hc599 => ?_)
        ·
         replace hm := bif_t hc599 hm
         refine WC_seq <| WC_region ?_
         refine Wo (Run_move (O rfl)) rfl <| Wo (Run_move (O rfl)) rfl <| WL_opG rfl rfl rfl rfl guard_pos (Run_move (O rfl)) rfl rfl rfl <| WL_opG rfl rfl rfl rfl guard_pos (Run_move (O rfl)) rfl rfl rfl <| ?_
         obtain ⟨b600, e601, hm⟩ := letv_some hm
         refine WL_opG rfl rfl rfl rfl guard_pos (Run.eqB (Run_eqI (Opd.g rfl id) (Opd.g rfl id)) e601) rfl rfl rfl <| ?_
         obtain ⟨b602, e603, hm⟩ := letv_some hm
         refine Wo (Run.eqB (Run_and (O rfl) (Opd.g rfl id)) e603) rfl <| Wo (Run_assign (O rfl)) rfl <| ?_
         refine WL_nil <| At_then ?_
         refine WC_ret ?_
         refine At_then_ret <| ?_
         refine At_r1 rfl (ResIs.t rfl) ?_
         cases hm
         exact ⟨rfl, (hs.re 22 [] rfl)⟩
        ·
         replace hm := bif_f hc599 hm
         refine WC_skip ?_
         refine At_then <| WC_seq <| WC_region ?_
         refine Wo (Run_move (O rfl)) rfl <| Wo (Run_lenSlG Tryd.underlying37 (O rfl) (fun _ => (hs.own (i := 2) rfl).len)) rfl <| Wo (Run_assign (O rfl)) rfl <| ?_
         refine WL_nil <| At_then ?_
         refine WC_seq_cut (γ := Int) (fun want605 w604 => scrutinylaw15_StepStays_K3 v1 r3 r547 want605 = some r ∧ Sat (imm (RSl (RI .i64)) [sl v2] v1 :: osl (RSl (RI .i64)) 22 (sl v549) r547.1 R550 :: gl 0 (pow10L.map (Value.int .u64)) :: Φ) w604) (fun want605 => [(1, true, (sl v2)), (5, true, (.bool r3)), (18, true, (sl v549)), (19, true, (.int .i64 r547.2)), (22, true, (.int .i64 want605))]) ?_ ?_
         ·
          rintro want605 w604 ⟨hm, hs⟩
          unfold scrutinylaw15_StepStays_K3 at hm
          refine WC_seq <| WC_region ?_
          refine Wo (Run_move (O rfl)) rfl <| Wo (Run_move (O rfl)) rfl <| WL_opG rfl rfl rfl rfl guard_pos (Run_move (O rfl)) rfl rfl rfl <| ?_
          obtain ⟨b606, e607, hm⟩ := letv_some hm
          refine WL_opG rfl rfl rfl rfl guard_pos (Run.eqB (Run_eqI (Opd.g rfl id) Opd.c) e607) rfl rfl rfl <| ?_
          obtain ⟨b608, e609, hm⟩ := letv_some hm
          refine Wo (Run.eqB (Run_and (O rfl) (Opd.g rfl id)) e609) rfl <| Wo (Run_move (O rfl)) rfl <| WL_opG rfl rfl rfl rfl guard_pos (Run_move (O rfl)) rfl rfl rfl <| WL_opG rfl rfl rfl rfl guard_pos (Run_lenSlG Tryd.underlying37 (Opd.g rfl id) (fun _ => (hs.own (i := 1) rfl).len)) rfl rfl rfl <| WL_opG rfl rfl rfl rfl guard_pos (Run_move (O rfl)) rfl rfl rfl <| ?_
          obtain ⟨b610, e611, hm⟩ := letv_some hm
          refine WL_opG rfl rfl rfl rfl guard_pos (Run.eqB (Run_eqI (Opd.g rfl id) (Opd.g rfl id)) e611) rfl rfl rfl <| ?_
          obtain ⟨b612, e613, hm⟩ := letv_some hm
          refine Wo (Run.eqB (Run_and (O rfl) (Opd.g rfl id)) e613) rfl <| Wo (Run_move (O rfl)) rfl <| WL_opG rfl rfl rfl rfl guard_pos (Run_move (O rfl)) rfl rfl rfl <| WL_opG rfl rfl rfl rfl guard_pos (Run_move (O rfl)) rfl rfl rfl <| ?_
          replace hs := hs.freeze (i := 1) rfl
          obtain ⟨r614, hr615, -, hm⟩ := callG_some hm
          refine WL_callG rfl rfl rfl guard_pos (f := 22) (first := []) (cap := []) (xs := [(.tmp 193), (.tmp 194)]) (vs := [(sl v549), (sl v2)]) (args := [(sl v549), (sl v2)]) Tryd.call22 Opd.f (.cons (Opd.g rfl id) (.cons (Opd.g rfl id) .nil)) rfl rfl (fun hg => scrutinyref15_Place_ok (hs.re 3 [1, 0, 0, 1, 2] rfl) (hr615 hg)) ?_
          intro v617 w616 hv618 hz619
          replace hs := Sat.ofG (fun hg => (hv618 hg).2.re 3 [0, 1, 2] rfl) hz619 hs
          refine WL_sub1 (v := (.int .i64 r614)) (fun hg => (hv618 hg).1) ?_
          replace hs := Sat.n3 (Γ := Φ) hs rfl
          obtain ⟨b620, e621, hm⟩ := letv_some hm
          refine WL_opG rfl rfl rfl rfl guard_pos (Run.eqB (Run_geI (Opd.g rfl id) Opd.c) e621) rfl rfl rfl <| ?_
          obtain ⟨b622, e623, hm⟩ := letv_some hm
          refine Wo (Run.eqB (Run_and (O rfl) (Opd.g rfl id)) e623) rfl <| Wo (Run_assign (O rfl)) rfl <| ?_
          refine WL_nil <| At_then ?_
          refine WC_ret ?_
          refine At_r1 rfl (ResIs.t rfl) ?_
          cases hm
          exact ⟨rfl, (hs.re 3 [] rfl)⟩
         ·
          refine WC_seq <| WC_region ?_
          refine Wo (Run_move (O rfl)) rfl <| Wo (Run_move (O rfl)) rfl <| ?_
          replace hs := hs.freeze (i := 2) rfl
          obtain ⟨r624, hr625, hm⟩ := bind_some' hm
          refine WL_call (f := 22) (first := []) (cap := []) (xs := [(.tmp 175), (.tmp 176)]) (vs := [(sl v554), (sl v2)]) (args := [(sl v554), (sl v2)]) Tryd.call22 Opd.f (.cons (O rfl) (.cons (O rfl) .nil)) rfl rfl (scrutinyref15_Place_ok (hs.re 22 [2, 11, 0, 1, 2, 3, 4, 5, 6, 7, 8, 9, 10, 11, 12, 13, 14, 15, 16, 17, 18, 19, 20, 21] rfl) hr625) ?_
          rintro _ w626 ⟨rfl, hs⟩
          replace hs := hs.re 22 [3, 11, 21] rfl
          replace hs := Sat.n3 (Γ := Φ) hs rfl
          refine Wo (Run_ltI (O rfl) Opd.c) rfl <| ?_
          refine WL_nil <| At_then ?_
          refine WC_cond (O rfl) (fun hc627 => ?_) (fun hc627 => ?_)
          ·
           replace hm := bif_t hc627 hm
           refine WC_region ?_
           refine Wo (Run_move (O rfl)) rfl <| Wo (Run_add (O rfl) Opd.c) rfl <| Wo (Run_assign (O rfl)) rfl <| ?_
           refine WL_nil ?_
           exact At_join (IntKind.i64.wrap ((List.length r552.1 : Int) + 1)) ⟨hm, (hs.re 3 [1, 0, 2] rfl)⟩ rfl
          ·
           replace hm := bif_f hc627 hm
           refine WC_skip ?_
           exact At_join (List.length r552.1 : Int) ⟨hm, (hs.re 3 [1, 0, 2] rfl)⟩ rfl
     ·
      refine WD_loud (pend' := [(5, fun w => CellsAt w ⟨b19, 3, none⟩ [(sl v14)]), (2, fun w => CellsAt w ⟨b19, 4, none⟩ [(sl v16)])]) rfl (by kernel_rfl) ?_
      replace hs := hs.freeze (i := 0) rfl
      refine WS_lit (A := (RP (RI .i64) (RP RExpr (RSl (RP (RI .i64) RExpr))))) (xs := [((IntKind.i64.wrap ((List.length r6.1.2.2.2.1 : Int) - 1)), (Ex.mk 13 0 0 []), ([(0, (Ex.mk 2 0 0 []))] : List (Int × Ex)))]) (zs := [(.int .i64 0), (.int .i64 0), (.int .i64 0), (.int .i64 0), (sl (none, 0, 0)), (sl (none, 0, 0))]) (cells := [(.int .i64 (IntKind.i64.wrap ((List.length r6.1.2.2.2.1 : Int) - 1))), (.int .i64 13), (.int .i64 0), (.int .i64 0), (sl (none, 0, 0)), (sl (some ⟨b420, 0, none⟩, 1, 1))]) (parts := [(0, (.tmp 111))]) hs Tryd.underlying26 ti60 rfl rfl rfl (.cons (O rfl) .nil) (by kernel_rfl) rfl (ARd.cons (A := (RP (RI .i64) (RP RExpr (RSl (RP (RI .i64) RExpr))))) (c := [(.int .i64 (IntKind.i64.wrap ((List.length r6.1.2.2.2.1 : Int) - 1))), (.int .i64 13), (.int .i64 0), (.int .i64 0), (sl (none, 0, 0)), (sl (some ⟨b420, 0, none⟩, 1, 1))]) (x := ((IntKind.i64.wrap ((List.length r6.1.2.2.2.1 : Int) - 1)), (Ex.mk 13 0 0 []), ([(0, (Ex.mk 2 0 0 []))] : List (Int × Ex)))) ⟨_, _, rfl, rfl, ⟨_, _, rfl, (RExpr_close (⟨_, rfl, SRd.nil⟩)), ⟨_, rfl, (hs.sl (i := 0) rfl)⟩⟩⟩ ARd.nil) rfl ?_
      intro b628 w629 hs
      replace hs := Sat.n14 (Γ := Φ) hs rfl
      refine WL_nil ?_
      refine At_QK (allJ_cons ((hs.box (i := 4) rfl).part 3 rfl) (allJ_cons ((hs.box (i := 4) rfl).part 4 rfl) allJ_nil)) ?_
      refine WD_loud (pend' := [(5, fun w => CellsAt w ⟨b19, 3, none⟩ [(sl v14)]), (2, fun w => CellsAt w ⟨b19, 4, none⟩ [(sl v16)])]) rfl (by kernel_rfl) ?_
      refine WS_lit0 (A := (RP (RI .i64) (RP RExpr (RSl (RP (RI .i64) RExpr))))) hs Tryd.underlying26 ti60 rfl ?_
      intro b630 w631 hs
      replace hs := Sat.n15 (Γ := Φ) hs rfl
      refine WL_nil ?_
      refine At_QK (allJ_cons ((hs.box (i := 5) rfl).part 3 rfl) (allJ_cons ((hs.box (i := 5) rfl).part 4 rfl) allJ_nil)) ?_
      refine WD_loud (pend' := [(5, fun w => CellsAt w ⟨b19, 3, none⟩ [(sl v14)])]) rfl (by kernel_rfl) ?_
      obtain ⟨k632, hm⟩ := chk_some hm
      refine WS_append (A := (RP (RI .i64) (RP RExpr (RSl (RP (RI .i64) RExpr))))) hs 0 rfl Tryd.underlying26 ti60 rfl rfl (O rfl) (O rfl) (hs.sl (i := 10) rfl) k632 rfl ?_
      intro v633 R634 w635 hs
      replace hs := Sat.n15 (Γ := Φ) hs rfl
      refine WL_nil ?_
      refine At_QK (allJ_cons ((hs.box (i := 5) rfl).part 3 rfl) allJ_nil) ?_
      refine WD_loud (pend' := [(5, fun w => CellsAt w ⟨b19, 3, none⟩ [(sl v14)])]) rfl (by kernel_rfl) ?_
      replace hs := hs.freeze (i := 1) rfl
      obtain ⟨k636, hm⟩ := chk_some hm
      refine WS_append (A := (RP (RI .i64) (RP RExpr (RSl (RP (RI .i64) RExpr))))) hs 0 rfl Tryd.underlying26 ti60 rfl rfl (O rfl) (O rfl) (hs.sl (i := 1) rfl) k636 rfl ?_
      intro v637 R638 w639 hs
      replace hs := Sat.n15 (Γ := Φ) hs rfl
      refine WL_nil ?_
      refine At_QK (allJ_cons ((hs.box (i := 5) rfl).part 3 rfl) allJ_nil) ?_
      refine WD_pure (fun _ => (Run_fieldAddr fo28_4 (O rfl))) rfl rfl rfl rfl <| ?_
      refine WD_loud (pend' := []) rfl (by kernel_rfl) ?_
      refine WS_store (us := [(sl v637)]) (vs' := [(sl v8), (sl v10), (sl v12), (sl v14), (sl v637)]) hs 3 rfl ti26 (O rfl) (O rfl) rfl rfl rfl rfl rfl ?_
      intro w640 hs
      replace hs := Sat.n15 (Γ := Φ) hs rfl
      refine WL_nil ?_
      refine At_QK allJ_nil ?_
      refine WD_nil ?_
      refine At_then <| WC_seq <| WC_region ?_
      refine Wo (Run_loadA (vs := [(sl v8), (sl v10), (sl v12), (sl v14), (sl (none, 0, 0))]) Tryd.underlying28 rfl ti28 (O rfl) (fun _ => (hs.box (i := 11) rfl).part 0 rfl) rfl) rfl <| Wo (Run_move (O rfl)) rfl <| ?_
      replace hs := hs.addNilI (RP (RI .i64) (RP RExpr (RSl (RP (RI .i64) RExpr))))
      obtain ⟨r641, hr642, hm⟩ := bind_some' hm
      refine WL_call (f := 14) (first := []) (cap := []) (xs := [(.tmp 116), (.tmp 117)]) (vs := [(.agg #[(sl v8), (sl v10), (sl v12), (sl v14), (sl (none, 0, 0))]), (sl v2)]) (args := [(.agg #[(sl v8), (sl v10), (sl v12), (sl v14), (sl (none, 0, 0))]), (sl v2)]) Tryd.call14 Opd.f (.cons (O rfl) (.cons (O rfl) .nil)) rfl rfl (step_Next_ok (m := (r6.1.1, r6.1.2.1, r6.1.2.2.1, r6.1.2.2.2.1, [])) (hs.re 16 [7, 8, 9, 10, 0, 5, 15, 0, 1, 2, 3, 4, 5, 6, 7, 8, 9, 10, 11, 12, 13, 14, 15] rfl) hr642) ?_
      rintro _ w645 ⟨v643, R644, rfl, hs⟩
      replace hs := Sat.n17 (Γ := Φ) hs rfl
      refine Wo (Run_move (O rfl)) rfl <| Wo (Run_extract (vs := [(sl v643), (.int .i64 r641.2)]) (O rfl) rfl) rfl <| Wo (Run_extract (vs := [(sl v643), (.int .i64 r641.2)]) (O rfl) rfl) rfl <| Wo (Run_assign (O rfl)) rfl <| Wo (Run_assign (O rfl)) rfl <| ?_
      refine WL_nil <| At_then <| WC_seq <| WC_region ?_
      refine Wo (Run_loadA (vs := [(sl v8), (sl v10), (sl v12), (sl v14), (sl v69)]) Tryd.underlying28 rfl ti28 (O rfl) (fun _ => (hs.box (i := 14) rfl).part 0 rfl) rfl) rfl <| Wo (Run_move (O rfl)) rfl <| ?_
      replace hs := hs.freeze (i := 15) rfl
      obtain ⟨r646, hr647, hm⟩ := bind_some' hm
      refine WL_call (f := 14) (first := []) (cap := []) (xs := [(.tmp 122), (.tmp 123)]) (vs := [(.agg #[(sl v8), (sl v10), (sl v12), (sl v14), (sl v69)]), (sl v2)]) (args := [(.agg #[(sl v8), (sl v10), (sl v12), (sl v14), (sl v69)]), (sl v2)]) Tryd.call14 Opd.f (.cons (O rfl) (.cons (O rfl) .nil)) rfl rfl (step_Next_ok (m := (r6.1.1, r6.1.2.1, r6.1.2.2.1, r6.1.2.2.2.1, l68)) (hs.re 17 [8, 9, 10, 11, 15, 6, 16, 0, 1, 2, 3, 4, 5, 6, 7, 8, 9, 10, 11, 12, 13, 14, 15, 16] rfl) hr647) ?_
      rintro _ w650 ⟨v648, R649, rfl, hs⟩
      replace hs := Sat.n18 (Γ := Φ) hs rfl
      refine Wo (Run_move (O rfl)) rfl <| Wo (Run_extract (vs := [(sl v648), (.int .i64 r646.2)]) (O rfl) rfl) rfl <| Wo (Run_extract (vs := [(sl v648), (.int .i64 r646.2)]) (O rfl) rfl) rfl <| Wo (Run_assign (O rfl)) rfl <| Wo (Run_assign (O rfl)) rfl <| ?_
      refine WL_nil <| At_then <| WC_seq <| WC_region ?_
      refine Wo (Run_loadA (vs := [(sl v8), (sl v10), (sl v12), (sl v14), (sl v637)]) Tryd.underlying28 rfl ti28 (O rfl) (fun _ => (hs.box (i := 6) rfl).part 0 rfl) rfl) rfl <| Wo (Run_move (O rfl)) rfl <| ?_
      replace hs := hs.freeze (i := 3) rfl
      obtain ⟨r651, hr652, hm⟩ := bind_some' hm
      refine WL_call (f := 14) (first := []) (cap := []) (xs := [(.tmp 128), (.tmp 129)]) (vs := [(.agg #[(sl v8), (sl v10), (sl v12), (sl v14), (sl v637)]), (sl v2)]) (args := [(.agg #[(sl v8), (sl v10), (sl v12), (sl v14), (sl v637)]), (sl v2)]) Tryd.call14 Opd.f (.cons (O rfl) (.cons (O rfl) .nil)) rfl rfl (step_Next_ok (m := (r6.1.1, r6.1.2.1, r6.1.2.2.1, r6.1.2.2.2.1, ((([] : List (Int × Ex × (List (Int × Ex)))) ++ r6.1.2.2.2.2) ++ ([((IntKind.i64.wrap ((List.length r6.1.2.2.2.1 : Int) - 1)), (Ex.mk 13 0 0 []), ([(0, (Ex.mk 2 0 0 []))] : List (Int × Ex)))] : List (Int × Ex × (List (Int × Ex))))))) (hs.re 18 [9, 10, 11, 12, 3, 7, 17, 0, 1, 2, 3, 4, 5, 6, 7, 8, 9, 10, 11, 12, 13, 14, 15, 16, 17] rfl) hr652) ?_
      rintro _ w655 ⟨v653, R654, rfl, hs⟩
      replace hs := Sat.n19 (Γ := Φ) hs rfl
      refine Wo (Run_move (O rfl)) rfl <| Wo (Run_extract (vs := [(sl v653), (.int .i64 r651.2)]) (O rfl) rfl) rfl <| Wo (Run_extract (vs := [(sl v653), (.int .i64 r651.2)]) (O rfl) rfl) rfl <| Wo (Run_assign (O rfl)) rfl <| Wo (Run_assign (O rfl)) rfl <| ?_
      refine WL_nil <| At_then <| WC_seq <| WC_region ?_
      refine Wo (Run_loadA (vs := [(sl v8), (sl v10), (sl v12), (sl v14), (sl v16)]) Tryd.underlying28 rfl ti28 (O rfl) (fun _ => (hs.box (i := 9) rfl).part 0 rfl) rfl) rfl <| Wo (Run_move (O rfl)) rfl <| ?_
      obtain ⟨r656, hr657, hm⟩ := bind_some' hm
      refine WL_call (f := 14) (first := []) (cap := []) (xs := [(.tmp 134), (.tmp 135)]) (vs := [(.agg #[(sl v8), (sl v10), (sl v12), (sl v14), (sl v16)]), (sl v2)]) (args := [(.agg #[(sl v8), (sl v10), (sl v12), (sl v14), (sl v16)]), (sl v2)]) Tryd.call14 Opd.f (.cons (O rfl) (.cons (O rfl) .nil)) rfl rfl (step_Next_ok (hs.re 19 [10, 11, 12, 13, 14, 8, 18, 0, 1, 2, 3, 4, 5, 6, 7, 8, 9, 10, 11, 12, 13, 14, 15, 16, 17, 18] rfl) hr657) ?_
      rintro _ w660 ⟨v658, R659, rfl, hs⟩
      replace hs := Sat.n20 (Γ := Φ) hs rfl
      refine Wo (Run_move (O rfl)) rfl <| Wo (Run_extract (vs := [(sl v658), (.int .i64 r656.2)]) (O rfl) rfl) rfl <| Wo (Run_extract (vs := [(sl v658), (.int .i64 r656.2)]) (O rfl) rfl) rfl <| Wo (Run_assign (O rfl)) rfl <| Wo (Run_assign (O rfl)) rfl <| ?_
      refine WL_nil <| At_then <| WC_seq <| WC_seq <| WC_region ?_
      refine Wo (Run_move (O rfl)) rfl <| ?_
      obtain ⟨b661, e662, hm⟩ := letv_some hm
      refine Wo (Run.eqB (Run_neI (O rfl) Opd.c) e662) rfl <| Wo (Run_move (O rfl)) rfl <| Wg rfl guard_neg (Run_move (O rfl)) rfl <| ?_
      obtain ⟨b663, e664, hm⟩ := letv_some hm
      refine Wg rfl guard_neg (Run.eqB (Run_neI (Opd.g rfl id) Opd.c) e664) rfl <| ?_
      obtain ⟨b665, e666, hm⟩ := letv_some hm
      refine Wo (Run.eqB (Run_or (O rfl) (Opd.g rfl id)) e666) rfl <| Wo (Run_move (O rfl)) rfl <| Wg rfl guard_neg (Run_move (O rfl)) rfl <| Wg rfl guard_neg (Run_move (O rfl)) rfl <| ?_
      refine WS_litG (A := (RSl (RI .i64))) (xs := [v1]) (zs := [(sl (none, 0, 0))]) (cells := [(sl v2)]) (parts := [(0, (.tmp 147))]) rfl rfl rfl guard_neg hs Tryd.underlying37 ti22 rfl rfl rfl (.cons (Opd.g rfl id) .nil) (by kernel_rfl) rfl (fun hg => (ARd.cons (A := (RSl (RI .i64))) (c := [(sl v2)]) (x := v1) ⟨_, rfl, (hs.sl (i := 9) rfl)⟩ ARd.nil)) rfl ?_
      intro v667 w668 hs
      replace hs := hs.freeze (i := 4) rfl
      obtain ⟨r669, hr670, -, hm⟩ := callG_some hm
      refine WL_callG rfl rfl rfl guard_neg (f := 19) (first := []) (cap := []) (xs := [(.tmp 146), (.tmp 148)]) (vs := [(sl v643), (sl v667)]) (args := [(sl v643), (sl v667)]) Tryd.call19 Opd.f (.cons (Opd.g rfl id) (.cons (Opd.g rfl id) .nil)) rfl rfl (fun hg => scrutinyref02_Vecs_ok ((hs.dupS (i := 0) rfl hg).re 22 [5, 0, 1, 2, 3, 4, 5, 6, 7, 8, 9, 10, 11, 12, 13, 14, 15, 16, 17, 18, 19, 20, 21] rfl) (hr670 hg)) ?_
      intro v672 w671 hv673 hz674
      replace hs := Sat.ofG (fun hg => (hv673 hg).2.re 21 [0, 1, 2, 3, 4, 5, 6, 7, 8, 9, 10, 11, 12, 13, 14, 15, 16, 17, 18, 19, 20] rfl) hz674 hs
      refine WL_sub1 (v := (.bool r669)) (fun hg => (hv673 hg).1) ?_
      replace hs := Sat.n21 (Γ := Φ) hs rfl
      obtain ⟨b675, e676, hm⟩ := letv_some hm
      refine Wg rfl guard_neg (Run.eqB (Run_notB (Opd.g rfl id)) e676) rfl <| ?_
      obtain ⟨b677, e678, hm⟩ := letv_some hm
      refine Wo (Run.eqB (Run_or (O rfl) (Opd.g rfl id)) e678) rfl <| Wo (Run_move (O rfl)) rfl <| Wg rfl guard_neg (Run_move (O rfl)) rfl <| Wg rfl guard_neg (Run_move (O rfl)) rfl <| ?_
      replace hs := hs.freeze (i := 3) rfl
      obtain ⟨r679, hr680, -, hm⟩ := callG_some hm
      refine WL_callG rfl rfl rfl guard_neg (f := 19) (first := []) (cap := []) (xs := [(.tmp 153), (.tmp 154)]) (vs := [(sl v648), (sl v643)]) (args := [(sl v648), (sl v643)]) Tryd.call19 Opd.f (.cons (Opd.g rfl id) (.cons (Opd.g rfl id) .nil)) rfl rfl (fun hg => scrutinyref02_Vecs_ok (hs.re 21 [3, 4, 0, 1, 2, 3, 4, 5, 6, 7, 8, 9, 10, 11, 12, 13, 14, 15, 16, 17, 18, 19, 20] rfl) (hr680 hg)) ?_
      intro v682 w681 hv683 hz684
      replace hs := Sat.ofG (fun hg => (hv683 hg).2.re 21 [0, 1, 2, 3, 4, 5, 6, 7, 8, 9, 10, 11, 12, 13, 14, 15, 16, 17, 18, 19, 20] rfl) hz684 hs
      refine WL_sub1 (v := (.bool r679)) (fun hg => (hv683 hg).1) ?_
      replace hs := Sat.n21 (Γ := Φ) hs rfl
      obtain ⟨b685, e686, hm⟩ := letv_some hm
      refine Wg rfl guard_neg (Run.eqB (Run_notB (Opd.g rfl id)) e686) rfl <| ?_
      obtain ⟨b687, e688, hm⟩ := letv_some hm
      refine Wo (Run.eqB (Run_or (O rfl) (Opd.g rfl id)) e688) rfl <| Wo (Run_move (O rfl)) rfl <| Wg rfl guard_neg (Run_loadA (vs := [(sl v8), (sl v10), (sl v12), (sl v14), (sl v69)]) Tryd.underlying28 rfl ti28 (O rfl) (fun _ => (hs.box (i := 18) rfl).part 0 rfl) rfl) rfl <| Wg rfl guard_neg (Run_move (O rfl)) rfl <| ?_
      obtain ⟨r689, hr690, -, hm⟩ := callG_some hm
      refine WL_callG rfl rfl rfl guard_neg (f := 17) (first := []) (cap := []) (xs := [(.tmp 159), (.tmp 160)]) (vs := [(.agg #[(sl v8), (sl v10), (sl v12), (sl v14), (sl v69)]), (sl v2)]) (args := [(.agg #[(sl v8), (sl v10), (sl v12), (sl v14), (sl v69)]), (sl v2)]) Tryd.call17 Opd.f (.cons (Opd.g rfl id) (.cons (Opd.g rfl id) .nil)) rfl rfl (fun hg => step_Enabled_ok (m := (r6.1.1, r6.1.2.1, r6.1.2.2.1, r6.1.2.2.2.1, l68)) (hs.re 21 [12, 13, 14, 15, 19, 10, 0, 1, 2, 3, 4, 5, 6, 7, 8, 9, 10, 11, 12, 13, 14, 15, 16, 17, 18, 19, 20] rfl) (hr690 hg)) ?_
      intro v694 w693 hv695 hz696
      obtain ⟨v691, hw697, hs⟩ : ∃ v691 : SLV, ((!b687) = true → v694 = (sl v691)) ∧ Sat (immG (!b687) (RSl (RI .i64)) [sl v691] r689 :: immG (!b665) (RSl (RSl (RI .i64))) [sl v667] ([v1] : List (List Int)) :: osl (RSl (RI .i64)) 22 (sl v658) r656.1 R659 :: osl (RSl (RI .i64)) 22 (sl v653) r651.1 R654 :: imm (RSl (RSl (RI .i64))) [sl v648] r646.1 :: imm (RSl (RSl (RI .i64))) [sl v643] r641.1 :: imm (RSl (RP (RI .i64) (RP RExpr (RSl (RP (RI .i64) RExpr))))) [sl (none, 0, 0)] [] :: imm (RSl (RP (RI .i64) (RP RExpr (RSl (RP (RI .i64) RExpr))))) [sl v637] ((([] : List (Int × Ex × (List (Int × Ex)))) ++ r6.1.2.2.2.2) ++ ([((IntKind.i64.wrap ((List.length r6.1.2.2.2.1 : Int) - 1)), (Ex.mk 13 0 0 []), ([(0, (Ex.mk 2 0 0 []))] : List (Int × Ex)))] : List (Int × Ex × (List (Int × Ex))))) :: imm (RSl (RP (RI .i64) (RP RExpr (RSl (RP (RI .i64) RExpr))))) [sl (some ⟨b628, 0, none⟩, 1, 1)] ([((IntKind.i64.wrap ((List.length r6.1.2.2.2.1 : Int) - 1)), (Ex.mk 13 0 0 []), ([(0, (Ex.mk 2 0 0 []))] : List (Int × Ex)))] : List (Int × Ex × (List (Int × Ex)))) :: imm (RSl (RP (RI .i64) RExpr)) [sl (some ⟨b420, 0, none⟩, 1, 1)] ([(0, (Ex.mk 2 0 0 []))] : List (Int × Ex)) :: box b103 28 [(sl v8), (sl v10), (sl v12), (sl v14), (sl v637)] :: imm (RSl (RI .i64)) [sl v2] v1 :: box b19 28 [(sl v8), (sl v10), (sl v12), (sl v14), (sl v16)] :: imm (RSl RS) [sl v8] r6.1.1 :: imm (RSl (RP (RI .i64) (RI .i64))) [sl v10] r6.1.2.1 :: imm (RSl (RI .i64)) [sl v12] r6.1.2.2.1 :: imm (RSl RS) [sl v14] r6.1.2.2.2.1 :: imm (RSl (RP (RI .i64) (RP RExpr (RSl (RP (RI .i64) RExpr))))) [sl v16] r6.1.2.2.2.2 :: box b59 28 [(sl v8), (sl v10), (sl v12), (sl v14), (sl (none, 0, 0))] :: box b63 28 [(sl v8), (sl v10), (sl v12), (sl v14), (sl v69)] :: imm (RSl (RP (RI .i64) (RP RExpr (RSl (RP (RI .i64) RExpr))))) [sl v69] l68 :: gl 0 (pow10L.map (Value.int .u64)) :: Φ) w693 := by
       cases hg : (!b687)
       ·rw [hz696 hg]; exact ⟨(none, 0, 0), (fun h => by cases h), (sat_addG0 hs rfl)⟩
       ·obtain ⟨v691, R692, hq, hs⟩ := hv695 hg
        replace hs := hs.freeze (i := 0) rfl
        replace hs := hs.re 22 [0, 1, 2, 3, 4, 5, 6, 7, 8, 9, 10, 11, 12, 13, 14, 15, 16, 17, 18, 19, 20, 21] rfl
        replace hs := sat_gate hs (i := 0) rfl true
        exact ⟨v691, (fun _ => hq), hs⟩
      refine WL_sub1 (v := (sl v691)) hw697 ?_
      refine Wg rfl guard_neg (Run_lenSlG Tryd.underlying22 (Opd.g rfl id) (fun hg => ((hs.slG (i := 0) rfl) hg).len)) rfl <| ?_
      obtain ⟨b698, e699, hm⟩ := letv_some hm
      refine Wg rfl guard_neg (Run.eqB (Run_neI (Opd.g rfl id) Opd.c) e699) rfl <| ?_
      obtain ⟨b700, e701, hm⟩ := letv_some hm
      refine Wo (Run.eqB (Run_or (O rfl) (Opd.g rfl id)) e701) rfl <| ?_
      refine WL_nil <| At_then ?_
      refine WC_cond (O rfl) (fun hc702 => ?_) (fun hc702 => ?_)
      ·
       replace hm := bif_t hc702 hm
       refine WC_seq <| WC_region ?_
       refine Wo (Run_assign Opd.c) rfl <| ?_
       refine WL_nil <| At_then ?_
       refine WC_ret ?_
       refine At_then_ret <| ?_
       refine At_r1 rfl (ResIs.t rfl) ?_
       cases hm
       exact ⟨rfl, (hs.re 22 [] rfl)⟩
      ·
       replace hm := bif_f hc702 hm
       refine WC_skip ?_
       refine At_then <| WC_seq <| WC_seq <| WC_region ?_
       refine Wo (Run_move (O rfl)) rfl <| Wo (Run_neI (O rfl) Opd.c) rfl <| ?_
       refine WL_nil <| At_then ?_
       refine WC_cond (O rfl) (fun hc703 => ?_) (fun hc703 => ?_)
       ·
        replace hm := bif_t hc703 hm
        refine WC_seq <| WC_region ?_
        refine Wo (Run_move (O rfl)) rfl <| Wo (Run_move (O rfl)) rfl <| WL_opG rfl rfl rfl rfl guard_pos (Run_move (O rfl)) rfl rfl rfl <| WL_opG rfl rfl rfl rfl guard_pos (Run_move (O rfl)) rfl rfl rfl <| ?_
        obtain ⟨b704, e705, hm⟩ := letv_some hm
        refine WL_opG rfl rfl rfl rfl guard_pos (Run.eqB (Run_eqI (Opd.g rfl id) (Opd.g rfl id)) e705) rfl rfl rfl <| ?_
        obtain ⟨b706, e707, hm⟩ := letv_some hm
        refine Wo (Run.eqB (Run_and (O rfl) (Opd.g rfl id)) e707) rfl <| Wo (Run_assign (O rfl)) rfl <| ?_
        refine WL_nil <| At_then ?_
        refine WC_ret ?_
        refine At_then_ret <| ?_
        refine At_r1 rfl (ResIs.t rfl) ?_
        cases hm
        exact ⟨rfl, (hs.re 22 [] rfl)⟩
       ·
        replace hm := bif_f hc703 hm
        refine WC_skip ?_
        refine At_then <| WC_seq <| WC_region ?_
        refine Wo (Run_move (O rfl)) rfl <| Wo (Run_lenSlG Tryd.underlying37 (O rfl) (fun _ => (hs.own (i := 2) rfl).len)) rfl <| Wo (Run_assign (O rfl)) rfl <| ?_
        refine WL_nil <| At_then ?_
        refine WC_seq_cut (γ := Int) (fun want709 w708 => scrutinylaw15_StepStays_K3 v1 r3 r651 want709 = some r ∧ Sat (imm (RSl (RI .i64)) [sl v2] v1 :: osl (RSl (RI .i64)) 22 (sl v653) r651.1 R654 :: gl 0 (pow10L.map (Value.int .u64)) :: Φ) w708) (fun want709 => [(1, true, (sl v2)), (5, true, (.bool r3)), (18, true, (sl v653)), (19, true, (.int .i64 r651.2)), (22, true, (.int .i64 want709))]) ?_ ?_
        ·
         rintro want709 w708 ⟨hm, hs⟩
         unfold scrutinylaw15_StepStays_K3 at hm
         refine WC_seq <| WC_region ?_
         refine Wo (Run_move (O rfl)) rfl <| Wo (Run_move (O rfl)) rfl <| WL_opG rfl rfl rfl rfl guard_pos (Run_move (O rfl)) rfl rfl rfl <| ?_
         obtain ⟨b710, e711, hm⟩ := letv_some hm
         refine WL_opG rfl rfl rfl rfl guard_pos (Run.eqB (Run_eqI (Opd.g rfl id) Opd.c) e711) rfl rfl rfl <| ?_
         obtain ⟨b712, e713, hm⟩ := letv_some hm
         refine Wo (Run.eqB (Run_and (O rfl) (Opd.g rfl id)) e713) rfl <| Wo (Run_move (O rfl)) rfl <| WL_opG rfl rfl rfl rfl guard_pos (Run_move (O rfl)) rfl rfl rfl <| WL_opG rfl rfl rfl rfl guard_pos (Run_lenSlG Tryd.underlying37 (Opd.g rfl id) (fun _ => (hs.own (i := 1) rfl).len)) rfl rfl rfl <| WL_opG rfl rfl rfl rfl guard_pos (Run_move (O rfl)) rfl rfl rfl <| ?_
         obtain ⟨b714, e715, hm⟩ := letv_some hm
         refine WL_opG rfl rfl rfl rfl guard_pos (Run.eqB (Run_eqI (Opd.g rfl id) (Opd.g rfl id)) e715) rfl rfl rfl <| ?_
         obtain ⟨b716, e717, hm⟩ := letv_some hm
         refine Wo (Run.eqB (Run_and (O rfl) (Opd.g rfl id)) e717) rfl <| Wo (Run_move (O rfl)) rfl <| WL_opG rfl rfl rfl rfl guard_pos (Run_move (O rfl)) rfl rfl rfl <| WL_opG rfl rfl rfl rfl guard_pos (Run_move (O rfl)) rfl rfl rfl <| ?_
         replace hs := hs.freeze (i := 1) rfl
         obtain ⟨r718, hr719, -, hm⟩ := callG_some hm
         refine WL_callG rfl rfl rfl guard_pos (f := 22) (first := []) (cap := []) (xs := [(.tmp 193), (.tmp 194)]) (vs := [(sl v653), (sl v2)]) (args := [(sl v653), (sl v2)]) Tryd.call22 Opd.f (.cons (Opd.g rfl id) (.cons (Opd.g rfl id) .nil)) rfl rfl (fun hg => scrutinyref15_Place_ok (hs.re 3 [1, 0, 0, 1, 2] rfl) (hr719 hg)) ?_
         intro v721 w720 hv722 hz723
         replace hs := Sat.ofG (fun hg => (hv722 hg).2.re 3 [0, 1, 2] rfl) hz723 hs
         refine WL_sub1 (v := (.int .i64 r718)) (fun hg => (hv722 hg).1) ?_
         replace hs := Sat.n3 (Γ := Φ) hs rfl
         obtain ⟨b724, e725, hm⟩ := letv_some hm
         refine WL_opG rfl rfl rfl rfl guard_pos (Run.eqB (Run_geI (Opd.g rfl id) Opd.c) e725) rfl rfl rfl <| ?_
         obtain ⟨b726, e727, hm⟩ := letv_some hm
         refine Wo (Run.eqB (Run_and (O rfl) (Opd.g rfl id)) e727) rfl <| Wo (Run_assign (O rfl)) rfl <| ?_
         refine WL_nil <| At_then ?_
         refine WC_ret ?_
         refine At_r1 rfl (ResIs.t rfl) ?_
         cases hm
         exact ⟨rfl, (hs.re 3 [] rfl)⟩
        ·
         refine WC_seq <| WC_region ?_
         refine Wo (Run_move (O rfl)) rfl <| Wo (Run_move (O rfl)) rfl <| ?_
         replace hs := hs.freeze (i := 2) rfl
         obtain ⟨r728, hr729, hm⟩ := bind_some' hm
         refine WL_call (f := 22) (first := []) (cap := []) (xs := [(.tmp 175), (.tmp 176)]) (vs := [(sl v658), (sl v2)]) (args := [(sl v658), (sl v2)]) Tryd.call22 Opd.f (.cons (O rfl) (.cons (O rfl) .nil)) rfl rfl (scrutinyref15_Place_ok (hs.re 22 [2, 11, 0, 1, 2, 3, 4, 5, 6, 7, 8, 9, 10, 11, 12, 13, 14, 15, 16, 17, 18, 19, 20, 21] rfl) hr729) ?_
         rintro _ w730 ⟨rfl, hs⟩
         replace hs := hs.re 22 [3, 11, 21] rfl
         replace hs := Sat.n3 (Γ := Φ) hs rfl
         refine Wo (Run_ltI (O rfl) Opd.c) rfl <| ?_
         refine WL_nil <| At_then ?_
         refine WC_cond (O rfl) (fun hc731 => ?_) (fun hc731 => ?_)
         ·
          replace hm := bif_t hc731 hm
          refine WC_region ?_
          refine Wo (Run_move (O rfl)) rfl <| Wo (Run_add (O rfl) Opd.c) rfl <| Wo (Run_assign (O rfl)) rfl <| ?_
          refine WL_nil ?_
          exact At_join (IntKind.i64.wrap ((List.length r656.1 : Int) + 1)) ⟨hm, (hs.re 3 [1, 0, 2] rfl)⟩ rfl
         ·
          replace hm := bif_f hc731 hm
          refine WC_skip ?_
          exact At_join (List.length r656.1 : Int) ⟨hm, (hs.re 3 [1, 0, 2] rfl)⟩ rfl
end Go.Proofs.YtjdabjpjafkogaaDoor
namespace Go.Proofs.YtjdabjpjafkogaaDoor
mutual
def Ex.sz : Ex → Nat
 | .mk _ _ _ l => szL l + 1
def szL : List Ex → Nat
 | [] => 0
 | x :: r => Ex.sz x + szL r
end
theorem Ex.sz_l (e : Ex) : e.sz = szL e.l + 1 := by cases e; simp only [Ex.sz, Ex.l]
theorem sz_pos (e : Ex) : 1 ≤ e.sz := by rw [Ex.sz_l]; omega
theorem sz_mem {x : Ex} : ∀ {l : List Ex}, x ∈ l → x.sz ≤ szL l
 | y :: l, h => by
  simp only [szL]
  rcases List.mem_cons.1 h with rfl | h
  ·omega
  ·have := sz_mem h; omega
theorem szL_len : ∀ (l : List Ex), l.length ≤ szL l
 | [] => Nat.le_refl _
 | x :: l => by have := szL_len l; have := sz_pos x; simp only [szL, List.length_cons]; omega
theorem sz_lt {e x : Ex} (h : x ∈ e.l) : x.sz < e.sz := by have := sz_mem h; rw [Ex.sz_l e]; omega
theorem len_lt (e : Ex) : e.l.length < e.sz := by have := szL_len e.l; rw [Ex.sz_l e]; omega
theorem bind_s {α ρ : Type} (x : α) (k : α → Option ρ) : (some x).bind k = k x := rfl
theorem letv_e {α ρ : Type} (x : α) (k : α → Option ρ) : letv x k = k x := rfl
theorem callG_tt {α ρ : Type} (d : α) (m : Option α) (k : α → Option ρ) : callG true d m k = m.bind k := rfl
theorem callG_ff {α ρ : Type} (d : α) (m : Option α) (k : α → Option ρ) : callG false d m k = k d := rfl
theorem idx_mid {l pre r : List Ex} {x : Ex} (h : l = pre ++ x :: r) : idx l (pre.length : Int) = some x := by subst h; simp [idx]
theorem next_ix {n : Nat} (h : n < 4611686018427387904) : IntKind.i64.wrap ((n : Int) + 1) = ((n + 1 : Nat) : Int) := by rw [w64 (by omega)]; omega
theorem lt_t {l pre r : List Ex} {x : Ex} (h : l = pre ++ x :: r) : decide ((pre.length : Int) < (List.length l : Int)) = true := by subst h; simp; omega
theorem lt_f {l pre : List Ex} (h : l = pre ++ []) : decide ((pre.length : Int) < (List.length l : Int)) = false := by subst h; simp
def tyFin (op a : Int) (i b t : Bool) : Int × Int × Int :=
 bif decide (op ≤ 6) && i then (1, 0, 0)
 else bif decide (6 < op) && decide (op ≤ 12) && i || op == 13 || op == 14 || decide (15 ≤ op) && decide (op ≤ 19) && b then (2, 0, 0)
 else bif decide (15 ≤ op) && t then (3, 0, 0) else (0, 4, a)
mutual
def ty : Ex → Int × Int × Int
 | .mk op _ a l => tyA op a l true true true
def tyA (op a : Int) : List Ex → Bool → Bool → Bool → Int × Int × Int
 | [], i, b, t => tyFin op a i b t
 | x :: r, i, b, t => bif (ty x).2.1 != 0 then (0, (ty x).2.1, (ty x).2.2) else tyA op a r (i && (ty x).1 == 1) (b && (ty x).1 == 2) (t && (ty x).1 != 1)
end
def wantOf (op : Int) : Int := bif op == 1 || op == 2 || op == 13 || op == 14 then 0 else bif op == 6 || op == 15 || op == 20 || op == 21 || op == 22 then 1 else 2
def mayH (op n len want vars : Int) : Bool :=
 !(decide (op < 1) || decide (24 < op) || len != want) && !((op == 1) && (decide (n < 0) || decide (1073741824 < n)) || (op == 2) && (decide (n < 0) || decide (vars ≤ n)) || decide (2 < op) && n != 0)
mutual
def mayE (vars : Int) : Ex → Bool
 | .mk op n _ l => mayH op n (l.length : Int) (wantOf op) vars && mayL vars l
def mayL (vars : Int) : List Ex → Bool
 | [] => true
 | x :: r => mayE vars x && mayL vars r
end
theorem mayE_eq (vars : Int) (e : Ex) : mayE vars e = (mayH e.op e.n (e.l.length : Int) (wantOf e.op) vars && mayL vars e.l) := by cases e; simp only [mayE, Ex.op, Ex.n, Ex.l]
def tr (b : Bool) : Int := bif b then 1 else 0
def evF (op n : Int) (v : List Int) (a b : Int) : Int :=
 bif op == 1 then n else bif op == 2 then (bif decide (n < 0) || decide ((List.length v : Int) ≤ n) then 0 else v.getD n.toNat 0)
 else bif op == 3 then IntKind.i64.wrap (a + b) else bif op == 5 then IntKind.i64.wrap (a * b) else bif op == 6 then IntKind.i64.wrap (0 - a) else bif op == 4 then IntKind.i64.wrap (a - b)
 else bif op == 8 then tr ((a == b) != true) else bif op == 7 then tr ((a == b) != false) else bif op == 19 then tr ((a == b) != false)
 else bif op == 12 then tr (decide (a < b) != true) else bif op == 9 then tr (decide (a < b) != false) else bif op == 11 then tr (decide (a ≤ b) != true) else bif op == 10 then tr (decide (a ≤ b) != false)
 else bif op == 13 then 1 else bif op == 15 then IntKind.i64.wrap (1 - a) else bif op == 16 then IntKind.i64.wrap (a * b) else bif op == 17 then max a b else bif op == 18 then max (IntKind.i64.wrap (1 - a)) b else 0
mutual
def ev (v : List Int) : Ex → Int
 | .mk op n _ l => evF op n v (ev0 v l) (ev1 v l)
def ev0 (v : List Int) : List Ex → Int
 | [] => 0
 | x :: _ => ev v x
def ev1 (v : List Int) : List Ex → Int
 | [] => 0
 | _ :: r => ev0 v r
end
theorem ev_eq (v : List Int) (e : Ex) : ev v e = evF e.op e.n v (ev0 v e.l) (ev1 v e.l) := by cases e; simp only [ev, Ex.op, Ex.n, Ex.l]
def rtFin (op a len i b t : Int) : Int × Int × Int :=
 bif decide (op ≤ 6) && (i == len) then (1, 0, 0)
 else bif decide (7 ≤ op) && decide (op ≤ 12) && (i == len) || op == 13 || op == 14 then (2, 0, 0)
 else bif decide (15 ≤ op) && decide (op ≤ 19) && (b == len) then (2, 0, 0)
 else bif decide (15 ≤ op) && (b + t == len) then (3, 0, 0) else (0, 4, a)
mutual
def rt : Ex → Int × Int × Int
 | .mk op _ a l => rtA op a (l.length : Int) l 0 0 0
def rtA (op a len : Int) : List Ex → Int → Int → Int → Int × Int × Int
 | [], i, b, t => rtFin op a len i b t
 | x :: r, i, b, t => bif (rt x).2.1 != 0 then (0, (rt x).2.1, (rt x).2.2) else rtA op a len r (bif (rt x).1 == 1 then i + 1 else i) (bif (rt x).1 == 2 then b + 1 else b) (bif (rt x).1 == 3 then t + 1 else t)
end
theorem rt_eq (e : Ex) : rt e = rtA e.op e.at_ (e.l.length : Int) e.l 0 0 0 := by cases e; simp only [rt, Ex.op, Ex.at_, Ex.l]
theorem callG_v {α ρ : Type} (g : Bool) (d v : α) (k : α → Option ρ) : callG g d (some v) k = k (bif g then v else d) := by cases g <;> rfl
theorem may_facts {vars : Int} {e : Ex} (h : mayE vars e = true) : (1 ≤ e.op ∧ e.op ≤ 24) ∧ (e.l.length : Int) = wantOf e.op ∧ (e.op = 1 → 0 ≤ e.n ∧ e.n ≤ 1073741824) ∧ (e.op = 2 → 0 ≤ e.n ∧ e.n < vars) ∧ ∀ x ∈ e.l, mayE vars x = true := by
 rw [mayE_eq] at h
 simp only [mayH, Bool.and_eq_true, Bool.not_eq_true', Bool.or_eq_false_iff, decide_eq_false_iff_not, bne_eq_false_iff_eq, Bool.and_eq_false_imp, beq_iff_eq] at h
 obtain ⟨⟨⟨⟨h1, h2⟩, h3⟩, ⟨h4, h5⟩, _⟩, h6⟩ := h
 refine ⟨by omega, h3, fun h => by have := h4 h; omega, fun h => by have := h5 h; omega, ?_⟩
 have : ∀ (l : List Ex), mayL vars l = true → ∀ x ∈ l, mayE vars x = true := fun l => by
  induction l with
  | nil => intro _ x hx; cases hx
  | cons y r ih =>
   intro h x hx
   simp only [mayL, Bool.and_eq_true] at h
   rcases List.mem_cons.1 hx with rfl | hx
   ·exact h.1
   ·exact ih h.2 x hx
 exact this _ h6
end Go.Proofs.YtjdabjpjafkogaaDoor
namespace Go.Proofs.YtjdabjpjafkogaaDoor
def keysT : List Str := [[116, 114, 117, 101], [102, 97, 108, 115, 101], [88], [70], [71], [85], [82], [118, 97, 114], [112, 114, 111, 99]]
def textsT : List Str := [[], [], [], [43], [45], [42], [45], [61, 61], [33, 61], [60], [60, 61], [62], [62, 61], [116, 114, 117, 101], [102, 97, 108, 115, 101], [33], [38], [124], [45, 62], [60, 45, 62], [88], [70], [71], [85], [82]]
def txtT (op : Int) : Str := textsT.getD op.toNat []
namespace Pa
abbrev Tok := Int × Str × Int × Int
abbrev Out := Except (Int × Int) (Ex × List Tok)
def key (s : Str) : Bool := keysT.contains s
def sgn (t : Tok) : Bool := t.1 == 3 || (t.1 == 1 && key t.2.1)
def ops : Nat → List Int
 | 1 => [19]
 | 2 => [18]
 | 3 => [17]
 | 4 => [16]
 | 5 => [23, 24]
 | 6 => [15, 20, 21, 22]
 | 7 => [7, 8, 9, 10, 11, 12]
 | 8 => [3, 4]
 | 9 => [5]
 | 10 => [6]
 | 11 => [13, 14]
 | _ => []
def fnd (l : List Int) (t : Tok) : Option Int := bif sgn t then l.find? (fun o => txtT o == t.2.1) else none
def opOf (s : Nat) (t : Tok) : Option Int := fnd (ops s) t
def kd : Nat → Nat
 | 6 => 0
 | 10 => 0
 | 1 => 1
 | 2 => 1
 | 5 => 1
 | 7 => 1
 | 3 => 2
 | 4 => 2
 | 8 => 2
 | 9 => 2
 | 11 => 3
 | _ => 4
def counted (s : Nat) : Bool := s == 1 || s == 2 || s == 5 || s == 6 || s == 10
def dn (s : Nat) (d : Int) : Int := bif counted s then d + 1 else d
def deepB (s : Nat) (d : Int) : Bool := counted s && decide (320 ≤ d)
def nx (s : Nat) : Nat := bif s == 7 then 8 else s
def at_ (names : List Str) (v : Str) : Option Nat := names.findIdx? (fun x => v == x)
def open_ (t : Tok) : Bool := t.1 == 3 && t.2.1 == [40]
def close_ (t : Tok) : Bool := t.1 == 3 && t.2.1 == [41]
def name_ (t : Tok) : Bool := t.1 == 1 && !key t.2.1
def one' (k : Int) (a : Int) (r : Out) : Out := r.map fun p => (.mk k 0 a [p.1], p.2)
def two' (k : Int) (a : Int) (x : Ex) (r : Out) : Out := r.map fun p => (.mk k 0 a [x, p.1], p.2)
inductive Job where
 | line (s : Nat)
 | loop (s : Nat) (a : Ex)
open Job
inductive P (names : List Str) : Job → Int → List Tok → Out → Prop
 | big {s d t ts} : deepB s d = true → P names (line s) d (t :: ts) (.error (9, t.2.2.2))
 | pre {s d t ts k r} : kd s = 0 → deepB s d = false → opOf s t = some k → P names (line s) (dn s d) ts r → P names (line s) d (t :: ts) (one' k t.2.2.2 r)
 | other {s d t ts r} : kd s = 0 → deepB s d = false → opOf s t = none → P names (line (s + 1)) (dn s d) (t :: ts) r → P names (line s) d (t :: ts) r
 | rErr {s d ts e} : kd s = 1 → deepB s d = false → P names (line (s + 1)) (dn s d) ts (.error e) → P names (line s) d ts (.error e)
 | rOne {s d ts a t ts'} : kd s = 1 → deepB s d = false → P names (line (s + 1)) (dn s d) ts (.ok (a, t :: ts')) → opOf s t = none → P names (line s) d ts (.ok (a, t :: ts'))
 | rTwo {s d ts a t ts' k r} : kd s = 1 → deepB s d = false → P names (line (s + 1)) (dn s d) ts (.ok (a, t :: ts')) → opOf s t = some k → P names (line (nx s)) (dn s d) ts' r → P names (line s) d ts (two' k t.2.2.2 a r)
 | lErr {s d ts e} : kd s = 2 → P names (line (s + 1)) d ts (.error e) → P names (line s) d ts (.error e)
 | lGo {s d ts a ts' r} : kd s = 2 → P names (line (s + 1)) d ts (.ok (a, ts')) → P names (loop s a) d ts' r → P names (line s) d ts r
 | lpEnd {s a d t ts} : opOf s t = none → P names (loop s a) d (t :: ts) (.ok (a, t :: ts))
 | lpErr {s a d t ts k e} : opOf s t = some k → P names (line (s + 1)) d ts (.error e) → P names (loop s a) d (t :: ts) (.error e)
 | lpGo {s a d t ts k b ts' r} : opOf s t = some k → P names (line (s + 1)) d ts (.ok (b, ts')) → P names (loop s (.mk k 0 t.2.2.2 [a, b])) d ts' r → P names (loop s a) d (t :: ts) r
 | oWord {s d t ts k} : kd s = 3 → opOf s t = some k → P names (line s) d (t :: ts) (.ok (.mk k 0 t.2.2.2 [], ts))
 | oNum {s d t ts} : kd s = 3 → opOf s t = none → (t.1 == 2) = true → P names (line s) d (t :: ts) (.ok (.mk 1 t.2.2.1 t.2.2.2 [], ts))
 | oVar {s d t ts i} : kd s = 3 → opOf s t = none → (t.1 == 2) = false → name_ t = true → at_ names t.2.1 = some i → P names (line s) d (t :: ts) (.ok (.mk 2 (i : Int) t.2.2.2 [], ts))
 | oName {s d t ts} : kd s = 3 → opOf s t = none → (t.1 == 2) = false → name_ t = true → at_ names t.2.1 = none → P names (line s) d (t :: ts) (.error (3, t.2.2.2))
 | oOpen {s d t ts a c ts'} : kd s = 3 → opOf s t = none → (t.1 == 2) = false → name_ t = false → open_ t = true → P names (line 1) d ts (.ok (a, c :: ts')) → close_ c = true → P names (line s) d (t :: ts) (.ok (a, ts'))
 | oErr {s d t ts e} : kd s = 3 → opOf s t = none → (t.1 == 2) = false → name_ t = false → open_ t = true → P names (line 1) d ts (.error e) → P names (line s) d (t :: ts) (.error e)
 | oClose {s d t ts a c ts'} : kd s = 3 → opOf s t = none → (t.1 == 2) = false → name_ t = false → open_ t = true → P names (line 1) d ts (.ok (a, c :: ts')) → close_ c = false → P names (line s) d (t :: ts) (.error (2, c.2.2.2))
 | oForm {s d t ts} : kd s = 3 → opOf s t = none → (t.1 == 2) = false → name_ t = false → open_ t = false → P names (line s) d (t :: ts) (.error (2, t.2.2.2))
theorem deep_kd {s : Nat} {d : Int} (h : deepB s d = true) : kd s = 0 ∨ kd s = 1 := by
 unfold deepB counted at h
 simp only [Bool.and_eq_true, Bool.or_eq_true, beq_iff_eq] at h
 rcases h.1 with (((rfl | rfl) | rfl) | rfl) | rfl <;> simp [kd]
theorem P.det {names : List Str} {j : Job} {d : Int} {ts : List Tok} {r r' : Out} (h : P names j d ts r) (h' : P names j d ts r') : r = r' := by
 induction h generalizing r' with
 | big h0 => have := deep_kd h0; cases h' <;> simp_all
 | pre h0 h1 h2 h3 ih => cases h' <;> simp_all <;> (rename_i h4; rw [ih h4])
 | other h0 h1 h2 h3 ih =>
  cases h' with
  | other _ _ _ h => exact ih h
  | _ => simp_all
 | rErr h0 h1 h2 ih =>
  cases h' with
  | rErr _ _ h => exact ih h
  | rOne _ _ h => cases ih h
  | rTwo _ _ h => cases ih h
  | _ => simp_all
 | rOne h0 h1 h2 h3 ih =>
  cases h' with
  | rErr _ _ h => cases ih h
  | rOne _ _ h => exact ih h
  | rTwo _ _ h h4 => cases ih h; simp_all
  | _ => simp_all
 | rTwo h0 h1 h2 h3 h4 ih ih2 =>
  cases h' with
  | rErr _ _ h => cases ih h
  | rOne _ _ h => cases ih h; simp_all
  | rTwo _ _ h h5 h6 => cases ih h; rw [h3] at h5; cases h5; rw [ih2 h6]
  | _ => simp_all
 | lErr h0 h1 ih =>
  cases h' with
  | lErr _ h => exact ih h
  | lGo _ h => cases ih h
  | big h => have := deep_kd h; simp_all
  | _ => simp_all
 | lGo h0 h1 h2 ih ih2 =>
  cases h' with
  | lErr _ h => cases ih h
  | lGo _ h h3 => cases ih h; exact ih2 h3
  | big h => have := deep_kd h; simp_all
  | _ => simp_all
 | lpEnd h0 => cases h' <;> simp_all
 | lpErr h0 h1 ih =>
  cases h' with
  | lpErr _ h => exact ih h
  | lpGo _ h => cases ih h
  | _ => simp_all
 | lpGo h0 h1 h2 ih ih2 =>
  cases h' with
  | lpErr _ h => cases ih h
  | lpGo h4 h h3 => cases ih h; rw [h0] at h4; cases h4; exact ih2 h3
  | _ => simp_all
 | oOpen h0 h1 h2 h3 h4 h5 h6 ih =>
  cases h' with
  | oOpen _ _ _ _ _ h _ => cases ih h; rfl
  | oErr _ _ _ _ _ h => cases ih h
  | oClose _ _ _ _ _ h h7 => cases ih h; simp_all
  | big h => have := deep_kd h; simp_all
  | _ => simp_all
 | oErr h0 h1 h2 h3 h4 h5 ih =>
  cases h' with
  | oOpen _ _ _ _ _ h _ => cases ih h
  | oErr _ _ _ _ _ h => exact ih h
  | oClose _ _ _ _ _ h h7 => cases ih h
  | big h => have := deep_kd h; simp_all
  | _ => simp_all
 | oClose h0 h1 h2 h3 h4 h5 h6 ih =>
  cases h' with
  | oOpen _ _ _ _ _ h _ => cases ih h; simp_all
  | oErr _ _ _ _ _ h => cases ih h
  | oClose _ _ _ _ _ h h7 => cases ih h; rfl
  | big h => have := deep_kd h; simp_all
  | _ => simp_all
 | oWord h0 h1 => cases h' <;> first | (rename_i h; have := deep_kd h; simp_all; done) | simp_all
 | oNum h0 h1 h2 => cases h' <;> first | (rename_i h; have := deep_kd h; simp_all; done) | simp_all
 | oVar h0 h1 h2 h3 h4 => cases h' <;> first | (rename_i h; have := deep_kd h; simp_all; done) | simp_all
 | oName h0 h1 h2 h3 h4 => cases h' <;> first | (rename_i h; have := deep_kd h; simp_all; done) | simp_all
 | oForm h0 h1 h2 h3 h4 => cases h' <;> first | (rename_i h; have := deep_kd h; simp_all; done) | simp_all
def Ends : List Tok → Prop
 | [] => False
 | t :: ts => Ends ts ∨ (ts = [] ∧ t.1 = 4)
theorem Ends.tail {t : Tok} {ts : List Tok} (h : Ends (t :: ts)) (h4 : t.1 ≠ 4) : Ends ts := by
 rcases h with h | ⟨_, h⟩
 ·exact h
 ·exact absurd h h4
theorem Ends.ne {ts : List Tok} (h : Ends ts) : ∃ t r, ts = t :: r := by
 cases ts with
 | nil => exact h.elim
 | cons t r => exact ⟨t, r, rfl⟩
theorem sgn_ne {t : Tok} (h : sgn t = true) : t.1 ≠ 4 := by
 unfold sgn at h
 intro h4
 rw [h4] at h; simp at h
theorem fnd_sgn {l : List Int} {t : Tok} {k : Int} (h : fnd l t = some k) : sgn t = true := by
 unfold fnd at h
 cases hs : sgn t
 ·rw [hs] at h; cases h
 ·rfl
theorem fnd_ne {l : List Int} {t : Tok} {k : Int} (h : fnd l t = some k) : t.1 ≠ 4 := sgn_ne (fnd_sgn h)
theorem op_ne {s : Nat} {t : Tok} {k : Int} (h : opOf s t = some k) : t.1 ≠ 4 := fnd_ne h
def shorter : Job → Nat → Nat → Prop
 | line _, a, b => a < b
 | loop _ _, a, b => a ≤ b
theorem P.ends {names : List Str} {j : Job} {d : Int} {ts : List Tok} {r : Out} (h : P names j d ts r) : Ends ts → ∀ p, r = .ok p → Ends p.2 ∧ shorter j p.2.length ts.length := by
 induction h with
 | big => intro _ p h; cases h
 | @pre s d t ts k r h0 h1 h2 h3 ih =>
  intro he p h
  cases r with
  | error e => cases h
  | ok q =>
   obtain ⟨i1, i2⟩ := ih (he.tail (op_ne h2)) q rfl
   cases h
   refine ⟨i1, ?_⟩
   simp only [shorter, List.length_cons] at *; omega
 | other h0 h1 h2 h3 ih => intro he p h; exact ih he p h
 | rErr => intro _ p h; cases h
 | rOne h0 h1 h2 h3 ih => intro he p h; exact ih he p h
 | @rTwo s d ts a t ts' k r h0 h1 h2 h3 h4 ih ih2 =>
  intro he p h
  cases r with
  | error e => cases h
  | ok q =>
   obtain ⟨i1, i2⟩ := ih he _ rfl
   obtain ⟨i3, i4⟩ := ih2 (i1.tail (op_ne h3)) q rfl
   cases h
   refine ⟨i3, ?_⟩
   simp only [shorter, List.length_cons] at *; omega
 | lErr => intro _ p h; cases h
 | lGo h0 h1 h2 ih ih2 =>
  intro he p h
  obtain ⟨i1, i2⟩ := ih he _ rfl
  obtain ⟨i3, i4⟩ := ih2 i1 p h
  refine ⟨i3, ?_⟩
  simp only [shorter] at *; omega
 | lpEnd h0 => intro he p h; cases h; exact ⟨he, Nat.le_refl _⟩
 | lpErr => intro _ p h; cases h
 | lpGo h0 h1 h2 ih ih2 =>
  intro he p h
  obtain ⟨i1, i2⟩ := ih (he.tail (op_ne h0)) _ rfl
  obtain ⟨i3, i4⟩ := ih2 i1 p h
  refine ⟨i3, ?_⟩
  simp only [shorter, List.length_cons] at *; omega
 | oWord h0 h1 => intro he p h; cases h; exact ⟨he.tail (op_ne h1), Nat.lt_succ_self _⟩
 | oNum h0 h1 h2 => intro he p h; cases h; exact ⟨he.tail (by have := beq_iff_eq.1 h2; omega), Nat.lt_succ_self _⟩
 | oVar h0 h1 h2 h3 h4 => intro he p h; cases h; exact ⟨he.tail (by unfold name_ at h3; simp only [Bool.and_eq_true, beq_iff_eq] at h3; omega), Nat.lt_succ_self _⟩
 | oName => intro _ p h; cases h
 | oOpen h0 h1 h2 h3 h4 h5 h6 ih =>
  intro he p h
  cases h
  obtain ⟨i1, i2⟩ := ih (he.tail (by unfold open_ at h4; simp only [Bool.and_eq_true, beq_iff_eq] at h4; omega)) _ rfl
  refine ⟨i1.tail (by unfold close_ at h6; simp only [Bool.and_eq_true, beq_iff_eq] at h6; omega), ?_⟩
  simp only [shorter, List.length_cons] at *; omega
 | oErr => intro _ p h; cases h
 | oClose => intro _ p h; cases h
 | oForm => intro _ p h; cases h
theorem P.err {names : List Str} {j : Job} {d : Int} {ts : List Tok} {r : Out} (h : P names j d ts r) : ∀ e, r = .error e → e.1 = 9 ∨ e.1 = 2 ∨ e.1 = 3 := by
 induction h with
 | big => intro e h; cases h; exact .inl rfl
 | @pre s d t ts k r h0 h1 h2 h3 ih =>
  intro e h
  cases r with
  | error e' => cases h; exact ih _ rfl
  | ok q => cases h
 | other h0 h1 h2 h3 ih => exact ih
 | rErr _ _ _ ih => exact ih
 | rOne => intro e h; cases h
 | @rTwo s d ts a t ts' k r h0 h1 h2 h3 h4 ih ih2 =>
  intro e h
  cases r with
  | error e' => cases h; exact ih2 _ rfl
  | ok q => cases h
 | lErr _ _ ih => exact ih
 | lGo _ _ _ _ ih => exact ih
 | lpEnd => intro e h; cases h
 | lpErr _ _ ih => exact ih
 | lpGo _ _ _ _ ih => exact ih
 | oWord => intro e h; cases h
 | oNum => intro e h; cases h
 | oVar => intro e h; cases h
 | oName => intro e h; cases h; exact .inr (.inr rfl)
 | oOpen => intro e h; cases h
 | oErr _ _ _ _ _ _ ih => exact ih
 | oClose => intro e h; cases h; exact .inr (.inl rfl)
 | oForm => intro e h; cases h; exact .inr (.inl rfl)
end Pa
end Go.Proofs.YtjdabjpjafkogaaDoor
namespace Go.Proofs.YtjdabjpjafkogaaDoor
namespace Sy
open Pa
abbrev Cmd := Int × Ex × List (Int × Ex)
abbrev Mdl := List Str × List (Int × Int) × List Int × List Str × List Cmd
abbrev Err := Int × Int
noncomputable def readE (names : List Str) (ts : List Tok) : Out :=
 open Classical in if h : ∃ r, P names (.line 1) 0 ts r then Classical.choose h else .error (2, 0)
theorem readE_eq {names : List Str} {ts : List Tok} {r : Out} (h : P names (.line 1) 0 ts r) : readE names ts = r := by
 unfold readE
 rw [dif_pos ⟨r, h⟩]
 exact (Classical.choose_spec (⟨r, h⟩ : ∃ r, P names (.line 1) 0 ts r)).det h
theorem readE_ok {names : List Str} {ts : List Tok} {p : Ex × List Tok} (h : readE names ts = .ok p) : P names (.line 1) 0 ts (.ok p) := by
 unfold readE at h
 split at h
 ·rename_i hx
  have := Classical.choose_spec hx
  rw [h] at this; exact this
 ·cases h
def isT (k : Int) (x : Str) (t : Tok) : Bool := (t.1 == k) && (t.2.1 == x)
def headP : List Tok → Int
 | [] => 0
 | t :: _ => t.2.2.2
def isH (k : Int) (x : Str) : List Tok → Bool
 | [] => false
 | t :: _ => isT k x t
def sSign (x : Str) (ts : List Tok) : Except Err (List Tok) := match ts with
 | [] => .error (2, 0)
 | t :: r => bif isT 3 x t then .ok r else .error (2, t.2.2.2)
def sName (full : Bool) (names procs : List Str) (ts : List Tok) : Except Err (Str × List Tok) := match ts with
 | [] => .error (2, 0)
 | t :: r => bif t.1 != 1 then .error (2, t.2.2.2) else bif key t.2.1 || names.contains t.2.1 || procs.contains t.2.1 then .error (3, t.2.2.2) else bif full then .error (9, t.2.2.2) else .ok (t.2.1, r)
def sNum1 (neg : Bool) (ts : List Tok) : Except Err (Int × List Tok) := match ts with
 | [] => .error (2, 0)
 | t :: r => bif t.1 != 2 then .error (2, t.2.2.2) else .ok (bif neg then IntKind.i64.wrap (0 - t.2.2.1) else t.2.2.1, r)
def sNum (ts : List Tok) : Except Err (Int × List Tok) := bif isH 3 [45] ts then sNum1 true ts.tail else sNum1 false ts
def rightB (lo hi : Int) : Bool := !(decide (hi < lo)) && !(decide (lo < -1073741824)) && !(decide (1073741824 < hi)) && !(decide (65535 < IntKind.i64.wrap (hi - lo)))
def sVar (m : Mdl) (ts : List Tok) : Except Err (Mdl × List Tok) :=
 match sName (decide (16 ≤ (m.1.length : Int))) m.1 m.2.2.2.1 ts with
 | .error e => .error e
 | .ok (name, ts1) => match sNum ts1 with
  | .error e => .error e
  | .ok (lo, ts2) => match sNum ts2 with
   | .error e => .error e
   | .ok (hi, ts3) => match sNum ts3 with
    | .error e => .error e
    | .ok (first, ts4) => match sSign [59] ts4 with
     | .error e => .error e
     | .ok ts5 => bif !(rightB lo hi) || decide (first < lo) || decide (hi < first) then .error (5, headP ts1) else .ok ((m.1 ++ [name], m.2.1 ++ [(lo, hi)], m.2.2.1 ++ [first], m.2.2.2.1, m.2.2.2.2), ts5)
noncomputable def sExpr (want : Int) (names : List Str) (ts : List Tok) : Except Err (Ex × List Tok) :=
 match readE names ts with
 | .error e => .error e
 | .ok (x, r) => bif (rt x).2.1 != 0 then .error ((rt x).2.1, (rt x).2.2) else bif (rt x).1 != want then .error (4, x.at_) else .ok (x, r)
def idxI (names : List Str) (v : Str) : Int := match at_ names v with
 | some i => (i : Int)
 | none => -1
def twice (acc : List (Int × Ex)) (i : Int) : Bool := acc.any (fun s => s.1 == i)
noncomputable def sSets (names : List Str) : Nat → List (Int × Ex) → List Tok → Except Err (List (Int × Ex) × List Tok)
 | 0, _, _ => .error (2, 0)
 | f + 1, acc, ts => match ts with
  | [] => .error (2, 0)
  | t :: r => bif t.1 != 1 then .error (2, t.2.2.2) else bif decide (idxI names t.2.1 < 0) || twice acc (idxI names t.2.1) then .error (3, t.2.2.2) else
   match sSign [61] r with
   | .error e => .error e
   | .ok r1 => match sExpr 1 names r1 with
    | .error e => .error e
    | .ok (x, r2) => bif isH 3 [44] r2 then sSets names f (acc ++ [(idxI names t.2.1, x)]) r2.tail else .ok (acc ++ [(idxI names t.2.1, x)], r2)
noncomputable def sCmd (m : Mdl) (ts : List Tok) : Except Err (Mdl × List Tok) :=
 bif decide (256 ≤ (m.2.2.2.2.length : Int)) then .error (9, headP ts) else
 match sExpr 2 m.1 ts with
 | .error e => .error e
 | .ok (g, r1) => match sSign [58] r1 with
  | .error e => .error e
  | .ok r2 => match sSets m.1 (r2.length + 1) [] r2 with
   | .error e => .error e
   | .ok (sets, r3) => match sSign [59] r3 with
    | .error e => .error e
    | .ok r4 => .ok ((m.1, m.2.1, m.2.2.1, m.2.2.2.1, m.2.2.2.2 ++ [(IntKind.i64.wrap ((m.2.2.2.1.length : Int) - 1), g, sets)]), r4)
noncomputable def sCmds : Nat → Mdl → List Tok → Except Err (Mdl × List Tok)
 | 0, _, _ => .error (2, 0)
 | f + 1, m, ts => bif isH 3 [125] ts then .ok (m, ts.tail) else match sCmd m ts with
  | .error e => .error e
  | .ok (m', r) => sCmds f m' r
noncomputable def sProc (m : Mdl) (ts : List Tok) : Except Err (Mdl × List Tok) :=
 match sName false m.1 m.2.2.2.1 ts with
 | .error e => .error e
 | .ok (name, r1) => match sSign [123] r1 with
  | .error e => .error e
  | .ok r2 => sCmds (r2.length + 1) (m.1, m.2.1, m.2.2.1, m.2.2.2.1 ++ [name], m.2.2.2.2) r2
noncomputable def sItems : Nat → Mdl → List Tok → Except Err Mdl
 | 0, _, _ => .error (2, 0)
 | f + 1, m, ts => match ts with
  | [] => .error (2, 0)
  | t :: r => bif t.1 == 4 then (bif m.1.isEmpty then .error (2, t.2.2.2) else .ok m)
   else bif isT 1 [118, 97, 114] t then (match sVar m r with
    | .error e => .error e
    | .ok (m', r') => sItems f m' r')
   else bif isT 1 [112, 114, 111, 99] t then (match sProc m r with
    | .error e => .error e
    | .ok (m', r') => sItems f m' r')
   else .error (2, t.2.2.2)
noncomputable def sys (l : List Tok) : Except Err Mdl := sItems (l.length + 1) ([], [], [], [], []) l
def outS : Except Err Mdl → Mdl × Int × Int
 | .ok m => (m, 0, 0)
 | .error e => (([], [], [], [], []), e.1, e.2)
/-! what is read is shorter, and ends as it ended -/
def Shorter (ts ts' : List Tok) : Prop := Pa.Ends ts' ∧ ts'.length < ts.length
theorem isT_ne {k : Int} {x : Str} {t : Tok} (h : isT k x t = true) (hk : k ≠ 4) : t.1 ≠ 4 := by
 unfold isT at h
 simp only [Bool.and_eq_true, beq_iff_eq] at h
 omega
theorem sSign_ok {x : Str} {ts r : List Tok} (he : Pa.Ends ts) (h : sSign x ts = .ok r) : Shorter ts r := by
 obtain ⟨t, ts', rfl⟩ := he.ne
 simp only [sSign] at h
 cases hc : isT 3 x t
 ·rw [hc] at h; cases h
 ·rw [hc] at h; cases h
  exact ⟨he.tail (isT_ne hc (by decide)), Nat.lt_succ_self _⟩
theorem sName_ok {full : Bool} {names procs : List Str} {ts : List Tok} {p : Str × List Tok} (he : Pa.Ends ts) (h : sName full names procs ts = .ok p) :
  Shorter ts p.2 ∧ key p.1 = false ∧ names.contains p.1 = false ∧ procs.contains p.1 = false ∧ full = false := by
 obtain ⟨t, ts', rfl⟩ := he.ne
 simp only [sName] at h
 cases h1 : (t.1 != 1)
 ·rw [h1] at h
  simp only [cond_false] at h
  cases h2 : (key t.2.1 || names.contains t.2.1 || procs.contains t.2.1)
  ·rw [h2] at h
   simp only [cond_false] at h
   cases full
   ·cases h
    simp only [Bool.or_eq_false_iff] at h2
    have : t.1 = 1 := by simpa using h1
    exact ⟨⟨he.tail (by omega), Nat.lt_succ_self _⟩, h2.1.1, h2.1.2, h2.2, rfl⟩
   ·cases h
  ·rw [h2] at h; cases h
 ·rw [h1] at h; cases h
theorem sNum1_ok {neg : Bool} {ts : List Tok} {p : Int × List Tok} (he : Pa.Ends ts) (h : sNum1 neg ts = .ok p) : Shorter ts p.2 := by
 obtain ⟨t, ts', rfl⟩ := he.ne
 simp only [sNum1] at h
 cases h1 : (t.1 != 2)
 ·rw [h1] at h
  cases h
  have : t.1 = 2 := by simpa using h1
  exact ⟨he.tail (by omega), Nat.lt_succ_self _⟩
 ·rw [h1] at h; cases h
theorem isH_ends {k : Int} {x : Str} {ts : List Tok} (he : Pa.Ends ts) (hk : k ≠ 4) (h : isH k x ts = true) : Pa.Ends ts.tail ∧ ts.tail.length + 1 = ts.length := by
 obtain ⟨t, ts', rfl⟩ := he.ne
 exact ⟨he.tail (isT_ne h hk), rfl⟩
theorem sNum_ok {ts : List Tok} {p : Int × List Tok} (he : Pa.Ends ts) (h : sNum ts = .ok p) : Shorter ts p.2 := by
 unfold sNum at h
 cases hc : isH 3 [45] ts
 ·rw [hc] at h; exact sNum1_ok he h
 ·rw [hc] at h
  obtain ⟨h1, h2⟩ := isH_ends he (by decide) hc
  obtain ⟨h3, h4⟩ := sNum1_ok h1 h
  exact ⟨h3, by omega⟩
theorem sExpr_ok {want : Int} {names : List Str} {ts : List Tok} {p : Ex × List Tok} (he : Pa.Ends ts) (h : sExpr want names ts = .ok p) :
  Shorter ts p.2 ∧ P names (.line 1) 0 ts (.ok p) ∧ (rt p.1).2.1 = 0 ∧ (rt p.1).1 = want := by
 unfold sExpr at h
 cases hr : readE names ts with
 | error e => rw [hr] at h; cases h
 | ok q =>
  obtain ⟨x, r⟩ := q
  rw [hr] at h
  simp only at h
  cases h1 : ((rt x).2.1 != 0)
  ·rw [h1] at h
   simp only [cond_false] at h
   cases h2 : ((rt x).1 != want)
   ·rw [h2] at h
    cases h
    have hp := readE_ok hr
    exact ⟨hp.ends he _ rfl, hp, by simpa using h1, by simpa using h2⟩
   ·rw [h2] at h; cases h
  ·rw [h1] at h; cases h
theorem Shorter.trans {a b c : List Tok} (h : Shorter a b) (k : Shorter b c) : Shorter a c := ⟨k.1, Nat.lt_trans k.2 h.2⟩
theorem sSets_ok {names : List Str} : ∀ (f : Nat) (acc : List (Int × Ex)) (ts : List Tok) (p : List (Int × Ex) × List Tok), Pa.Ends ts → sSets names f acc ts = .ok p → Shorter ts p.2 := by
 intro f
 induction f with
 | zero => intro _ _ _ _ h; simp [sSets] at h
 | succ f ih =>
  intro acc ts p he h
  obtain ⟨t, r, rfl⟩ := he.ne
  simp only [sSets] at h
  cases h1 : (t.1 != 1)
  case true => rw [h1] at h; cases h
  rw [h1] at h
  simp only [cond_false] at h
  cases h2 : (decide (idxI names t.2.1 < 0) || twice acc (idxI names t.2.1))
  case true => rw [h2] at h; cases h
  rw [h2] at h
  simp only [cond_false] at h
  have ht : t.1 = 1 := by simpa using h1
  have he1 := he.tail (by omega)
  cases h3 : sSign [61] r with
  | error e => rw [h3] at h; cases h
  | ok r1 =>
   rw [h3] at h
   simp only at h
   have s1 := sSign_ok he1 h3
   cases h4 : sExpr 1 names r1 with
   | error e => rw [h4] at h; cases h
   | ok q =>
    obtain ⟨x, r2⟩ := q
    rw [h4] at h
    simp only at h
    have s2 : Shorter r1 r2 := (sExpr_ok s1.1 h4).1
    have s12 : Shorter (t :: r) r2 := ⟨s2.1, by have := s1.2; have := s2.2; simp only [List.length_cons]; omega⟩
    cases h5 : isH 3 [44] r2
    ·rw [h5] at h
     cases h
     exact s12
    ·rw [h5] at h
     simp only [cond_true] at h
     obtain ⟨e1, e2⟩ := isH_ends s2.1 (by decide) h5
     have := ih _ _ _ e1 h
     exact ⟨this.1, by have := this.2; have := s12.2; omega⟩
theorem sVar_ok {m : Mdl} {ts : List Tok} {p : Mdl × List Tok} (he : Pa.Ends ts) (h : sVar m ts = .ok p) : Shorter ts p.2 ∧
  ∃ name lo hi first, p.1 = (m.1 ++ [name], m.2.1 ++ [(lo, hi)], m.2.2.1 ++ [first], m.2.2.2.1, m.2.2.2.2) ∧ rightB lo hi = true ∧ lo ≤ first ∧ first ≤ hi ∧ m.1.length < 16 ∧ m.1.contains name = false := by
 unfold sVar at h
 cases h1 : sName (decide (16 ≤ (m.1.length : Int))) m.1 m.2.2.2.1 ts with
 | error e => rw [h1] at h; cases h
 | ok q1 =>
  obtain ⟨name, ts1⟩ := q1
  rw [h1] at h
  simp only at h
  obtain ⟨s1, _, hnm, _, hfull⟩ := sName_ok he h1
  cases h2 : sNum ts1 with
  | error e => rw [h2] at h; cases h
  | ok q2 =>
   obtain ⟨lo, ts2⟩ := q2
   rw [h2] at h
   simp only at h
   have s2 := sNum_ok s1.1 h2
   cases h3 : sNum ts2 with
   | error e => rw [h3] at h; cases h
   | ok q3 =>
    obtain ⟨hi, ts3⟩ := q3
    rw [h3] at h
    simp only at h
    have s3 := sNum_ok s2.1 h3
    cases h4 : sNum ts3 with
    | error e => rw [h4] at h; cases h
    | ok q4 =>
     obtain ⟨first, ts4⟩ := q4
     rw [h4] at h
     simp only at h
     have s4 := sNum_ok s3.1 h4
     cases h5 : sSign [59] ts4 with
     | error e => rw [h5] at h; cases h
     | ok ts5 =>
      rw [h5] at h
      simp only at h
      have s5 := sSign_ok s4.1 h5
      cases h6 : (!(rightB lo hi) || decide (first < lo) || decide (hi < first))
      ·rw [h6] at h
       cases h
       simp only [Bool.or_eq_false_iff, decide_eq_false_iff_not, Bool.not_eq_false'] at h6
       simp only [decide_eq_false_iff_not] at hfull
       exact ⟨(((s1.trans s2).trans s3).trans s4).trans s5, name, lo, hi, first, rfl, h6.1.1, by omega, by omega, by omega, hnm⟩
      ·rw [h6] at h; cases h
theorem sCmd_ok {m : Mdl} {ts : List Tok} {p : Mdl × List Tok} (he : Pa.Ends ts) (h : sCmd m ts = .ok p) : Shorter ts p.2 ∧
  ∃ g r1 r2 sets r3, m.2.2.2.2.length < 256 ∧ sExpr 2 m.1 ts = .ok (g, r1) ∧ Pa.Ends r2 ∧ sSets m.1 (r2.length + 1) [] r2 = .ok (sets, r3) ∧
   p.1 = (m.1, m.2.1, m.2.2.1, m.2.2.2.1, m.2.2.2.2 ++ [(IntKind.i64.wrap ((m.2.2.2.1.length : Int) - 1), g, sets)]) ∧ sSign [58] r1 = .ok r2 ∧ sSign [59] r3 = .ok p.2 := by
 unfold sCmd at h
 cases h0 : decide (256 ≤ (m.2.2.2.2.length : Int))
 case true => rw [h0] at h; cases h
 rw [h0] at h
 simp only [cond_false] at h
 simp only [decide_eq_false_iff_not] at h0
 cases h1 : sExpr 2 m.1 ts with
 | error e => rw [h1] at h; cases h
 | ok q1 =>
  obtain ⟨g, r1⟩ := q1
  rw [h1] at h
  simp only at h
  have s1 := (sExpr_ok he h1).1
  cases h2 : sSign [58] r1 with
  | error e => rw [h2] at h; cases h
  | ok r2 =>
   rw [h2] at h
   simp only at h
   have s2 := sSign_ok s1.1 h2
   cases h3 : sSets m.1 (r2.length + 1) [] r2 with
   | error e => rw [h3] at h; cases h
   | ok q3 =>
    obtain ⟨sets, r3⟩ := q3
    rw [h3] at h
    simp only at h
    have s3 := sSets_ok _ _ _ _ s2.1 h3
    cases h4 : sSign [59] r3 with
    | error e => rw [h4] at h; cases h
    | ok r4 =>
     rw [h4] at h
     cases h
     have s4 := sSign_ok s3.1 h4
     exact ⟨((s1.trans s2).trans s3).trans s4, g, r1, r2, sets, r3, by omega, rfl, s2.1, h3, rfl, h2, h4⟩
end Sy
end Go.Proofs.YtjdabjpjafkogaaDoor
namespace Go.Proofs.YtjdabjpjafkogaaDoor
namespace Pa
open Job
def szJ : Job → Nat
 | line _ => 0
 | loop _ a => a.sz
theorem sz_mk0 (k n a : Int) : (Ex.mk k n a []).sz = 1 := by simp [Ex.sz, szL]
theorem sz_mk1 (k n a : Int) (x : Ex) : (Ex.mk k n a [x]).sz = x.sz + 1 := by simp [Ex.sz, szL]
theorem sz_mk2 (k n a : Int) (x y : Ex) : (Ex.mk k n a [x, y]).sz = x.sz + y.sz + 1 := by simp [Ex.sz, szL]
theorem P.size {names : List Str} {j : Job} {d : Int} {ts : List Tok} {r : Out} (h : P names j d ts r) : ∀ p, r = .ok p → p.1.sz + p.2.length ≤ ts.length + szJ j := by
 induction h with
 | big => intro p h; cases h
 | @pre s d t ts k r h0 h1 h2 h3 ih =>
  intro p h
  cases r with
  | error e => cases h
  | ok q => have := ih q rfl; cases h; simp only [szJ, sz_mk1, List.length_cons] at *; omega
 | other h0 h1 h2 h3 ih => intro p h; exact ih p h
 | rErr => intro p h; cases h
 | rOne h0 h1 h2 h3 ih => intro p h; exact ih p h
 | @rTwo s d ts a t ts' k r h0 h1 h2 h3 h4 ih ih2 =>
  intro p h
  cases r with
  | error e => cases h
  | ok q => have i1 := ih _ rfl; have i2 := ih2 q rfl; cases h; simp only [szJ, sz_mk2, List.length_cons] at *; omega
 | lErr => intro p h; cases h
 | lGo h0 h1 h2 ih ih2 => intro p h; have i1 := ih _ rfl; have i2 := ih2 p h; simp only [szJ] at *; omega
 | lpEnd h0 => intro p h; cases h; simp only [szJ]; omega
 | lpErr => intro p h; cases h
 | lpGo h0 h1 h2 ih ih2 => intro p h; have i1 := ih _ rfl; have i2 := ih2 p h; simp only [szJ, sz_mk2, List.length_cons] at *; omega
 | oWord h0 h1 => intro p h; cases h; simp only [szJ, sz_mk0, List.length_cons]; omega
 | oNum h0 h1 h2 => intro p h; cases h; simp only [szJ, sz_mk0, List.length_cons]; omega
 | oVar h0 h1 h2 h3 h4 => intro p h; cases h; simp only [szJ, sz_mk0, List.length_cons]; omega
 | oName => intro p h; cases h
 | oOpen h0 h1 h2 h3 h4 h5 h6 ih => intro p h; cases h; have := ih _ rfl; simp only [szJ, List.length_cons] at *; omega
 | oErr => intro p h; cases h
 | oClose => intro p h; cases h
 | oForm => intro p h; cases h
theorem P.suf {names : List Str} {j : Job} {d : Int} {ts : List Tok} {r : Out} (h : P names j d ts r) : ∀ p, r = .ok p → p.2 <:+ ts := by
 induction h with
 | big => intro p h; cases h
 | @pre s d t ts k r h0 h1 h2 h3 ih =>
  intro p h
  cases r with
  | error e => cases h
  | ok q => have := ih q rfl; cases h; exact this.trans (List.suffix_cons _ _)
 | other h0 h1 h2 h3 ih => exact ih
 | rErr => intro p h; cases h
 | rOne h0 h1 h2 h3 ih => exact ih
 | @rTwo s d ts a t ts' k r h0 h1 h2 h3 h4 ih ih2 =>
  intro p h
  cases r with
  | error e => cases h
  | ok q => have i1 := ih _ rfl; have i2 := ih2 q rfl; cases h; exact (i2.trans (List.suffix_cons _ _)).trans i1
 | lErr => intro p h; cases h
 | lGo h0 h1 h2 ih ih2 => intro p h; exact (ih2 p h).trans (ih _ rfl)
 | lpEnd h0 => intro p h; cases h; exact List.suffix_refl _
 | lpErr => intro p h; cases h
 | lpGo h0 h1 h2 ih ih2 => intro p h; exact ((ih2 p h).trans (ih _ rfl)).trans (List.suffix_cons _ _)
 | oWord h0 h1 => intro p h; cases h; exact List.suffix_cons _ _
 | oNum h0 h1 h2 => intro p h; cases h; exact List.suffix_cons _ _
 | oVar h0 h1 h2 h3 h4 => intro p h; cases h; exact List.suffix_cons _ _
 | oName => intro p h; cases h
 | oOpen h0 h1 h2 h3 h4 h5 h6 ih => intro p h; cases h; exact ((List.suffix_cons _ _).trans (ih _ rfl)).trans (List.suffix_cons _ _)
 | oErr => intro p h; cases h
 | oClose => intro p h; cases h
 | oForm => intro p h; cases h
def NumOk (t : Tok) : Prop := t.1 = 2 → 0 ≤ t.2.2.1 ∧ t.2.2.1 ≤ 1073741824
theorem opOf_mem {s : Nat} {t : Tok} {k : Int} (h : opOf s t = some k) : k ∈ ops s := by
 unfold opOf fnd at h
 cases hs : sgn t
 ·rw [hs] at h; cases h
 ·rw [hs] at h; exact List.mem_of_find?_eq_some h
theorem one_may {s : Nat} (hk : kd s = 0) {k : Int} (h : k ∈ ops s) (vars : Int) : mayH k 0 1 (wantOf k) vars = true := by
 have : s = 6 ∨ s = 10 := by
  unfold kd at hk
  split at hk <;> first | (cases hk; done) | simp
 rcases this with rfl | rfl
 ·simp only [ops, List.mem_cons, List.not_mem_nil, or_false] at h
  rcases h with rfl | rfl | rfl | rfl <;> rfl
 ·simp only [ops, List.mem_cons, List.not_mem_nil, or_false] at h
  subst h; rfl
theorem two_may {s : Nat} (hk : kd s = 1 ∨ kd s = 2) {k : Int} (h : k ∈ ops s) (vars : Int) : mayH k 0 2 (wantOf k) vars = true := by
 have : s = 1 ∨ s = 2 ∨ s = 3 ∨ s = 4 ∨ s = 5 ∨ s = 7 ∨ s = 8 ∨ s = 9 := by
  unfold kd at hk
  split at hk <;> first | (rcases hk with hk | hk <;> cases hk; done) | simp
 rcases this with rfl | rfl | rfl | rfl | rfl | rfl | rfl | rfl <;> simp only [ops, List.mem_cons, List.not_mem_nil, or_false] at h
 ·subst h; rfl
 ·subst h; rfl
 ·subst h; rfl
 ·subst h; rfl
 ·rcases h with rfl | rfl <;> rfl
 ·rcases h with rfl | rfl | rfl | rfl | rfl | rfl <;> rfl
 ·rcases h with rfl | rfl <;> rfl
 ·subst h; rfl
theorem word_may {s : Nat} (hk : kd s = 3) {k : Int} (h : k ∈ ops s) (vars : Int) : mayH k 0 0 (wantOf k) vars = true := by
 have : s = 11 := by
  unfold kd at hk
  split at hk <;> first | (cases hk; done) | simp
 subst this
 simp only [ops, List.mem_cons, List.not_mem_nil, or_false] at h
 rcases h with rfl | rfl <;> rfl
theorem may_mk0 {vars k n a : Int} (h : mayH k n 0 (wantOf k) vars = true) : mayE vars (.mk k n a []) = true := by
 simp only [mayE, mayL, List.length_nil]; rw [show ((0 : Nat) : Int) = 0 from rfl, h]; rfl
theorem may_mk1 {vars k a : Int} {x : Ex} (h : mayH k 0 1 (wantOf k) vars = true) (hx : mayE vars x = true) : mayE vars (.mk k 0 a [x]) = true := by
 simp only [mayE, mayL, List.length_cons, List.length_nil]; rw [show ((0 + 1 : Nat) : Int) = 1 from rfl, h, hx]; rfl
theorem may_mk2 {vars k a : Int} {x y : Ex} (h : mayH k 0 2 (wantOf k) vars = true) (hx : mayE vars x = true) (hy : mayE vars y = true) : mayE vars (.mk k 0 a [x, y]) = true := by
 simp only [mayE, mayL, List.length_cons, List.length_nil]; rw [show ((0 + 1 + 1 : Nat) : Int) = 2 from rfl, h, hx, hy]; rfl
def mayJ (vars : Int) : Job → Bool
 | line _ => true
 | loop _ a => mayE vars a
def okJ : Job → Prop
 | line _ => True
 | loop s _ => kd s = 2
theorem at_lt {names : List Str} {v : Str} {i : Nat} (h : at_ names v = some i) : i < names.length := by
 unfold at_ at h
 have := List.findIdx?_eq_some_iff_getElem.1 h
 exact this.1
theorem P.may {names : List Str} {j : Job} {d : Int} {ts : List Tok} {r : Out} (h : P names j d ts r) : okJ j → (∀ t ∈ ts, NumOk t) → mayJ names.length j = true → ∀ p, r = .ok p → mayE names.length p.1 = true := by
 induction h with
 | big => intro _ _ _ p h; cases h
 | @pre s d t ts k r h0 h1 h2 h3 ih =>
  intro _ hq _ p h
  cases r with
  | error e => cases h
  | ok q => have := ih trivial (fun t ht => hq t (List.mem_cons_of_mem _ ht)) rfl q rfl; cases h; exact may_mk1 (one_may h0 (opOf_mem h2) _) this
 | other h0 h1 h2 h3 ih => intro _ hq hj p h; exact ih trivial hq rfl p h
 | rErr => intro _ _ _ p h; cases h
 | rOne h0 h1 h2 h3 ih => intro _ hq hj p h; exact ih trivial hq rfl _ h
 | @rTwo s d ts a t ts' k r h0 h1 h2 h3 h4 ih ih2 =>
  intro _ hq _ p h
  cases r with
  | error e => cases h
  | ok q =>
   have i1 := ih trivial hq rfl _ rfl
   have hs := h2.suf _ rfl
   have i2 := ih2 trivial (fun t ht => hq t (hs.mem (List.mem_cons_of_mem _ ht))) rfl q rfl
   cases h
   exact may_mk2 (two_may (.inl h0) (opOf_mem h3) _) i1 i2
 | lErr => intro _ _ _ p h; cases h
 | lGo h0 h1 h2 ih ih2 =>
  intro _ hq _ p h
  have i1 := ih trivial hq rfl _ rfl
  have hs := h1.suf _ rfl
  exact ih2 h0 (fun t ht => hq t (hs.mem ht)) i1 p h
 | lpEnd h0 => intro _ hq hj p h; cases h; exact hj
 | lpErr => intro _ _ _ p h; cases h
 | @lpGo s a d t ts k b ts' r h0 h1 h2 ih ih2 =>
  intro ho hq hj p h
  have i1 := ih trivial (fun t ht => hq t (List.mem_cons_of_mem _ ht)) rfl _ rfl
  have hs := h1.suf _ rfl
  exact ih2 ho (fun t ht => hq t (List.mem_cons_of_mem _ (hs.mem ht))) (may_mk2 (a := t.2.2.2) (two_may (.inr ho) (opOf_mem h0) _) hj i1) p h
 | oWord h0 h1 => intro _ hq _ p h; cases h; exact may_mk0 (word_may h0 (opOf_mem h1) _)
 | @oNum s d t ts h0 h1 h2 =>
  intro _ hq _ p h
  cases h
  obtain ⟨n0, n1⟩ := hq t (List.mem_cons_self ..) (beq_iff_eq.1 h2)
  refine may_mk0 ?_
  simp only [mayH, wantOf]
  have e1 : decide (t.2.2.1 < 0) = false := decide_eq_false (by omega)
  have e2 : decide (1073741824 < t.2.2.1) = false := decide_eq_false (by omega)
  rw [e1, e2]; rfl
 | @oVar s d t ts i h0 h1 h2 h3 h4 =>
  intro _ hq _ p h
  cases h
  have hlt := at_lt h4
  refine may_mk0 ?_
  simp only [mayH, wantOf]
  have e1 : decide ((i : Int) < 0) = false := decide_eq_false (by omega)
  have e2 : decide ((names.length : Int) ≤ (i : Int)) = false := decide_eq_false (by omega)
  rw [e1, e2]; rfl
 | oName => intro _ _ _ p h; cases h
 | @oOpen s d t ts a c ts' h0 h1 h2 h3 h4 h5 h6 ih => intro _ hq _ p h; cases h; exact ih trivial (fun t ht => hq t (List.mem_cons_of_mem _ ht)) rfl (a, c :: ts') rfl
 | oErr => intro _ _ _ p h; cases h
 | oClose => intro _ _ _ p h; cases h
 | oForm => intro _ _ _ p h; cases h
end Pa
end Go.Proofs.YtjdabjpjafkogaaDoor
namespace Go.Proofs.YtjdabjpjafkogaaDoor
theorem RKey_eq (name : Str) : scrutinyref13_Key name = some (keysT.contains name) := by
 unfold scrutinyref13_Key scrutinyref13_Key_K1 keysT
 simp only [List.contains_cons, List.contains_nil, Bool.or_false]
 cases (name == [116, 114, 117, 101])
 case true => rfl
 cases (name == [102, 97, 108, 115, 101])
 case true => rfl
 cases (name == [88])
 case true => rfl
 cases (name == [70])
 case true => rfl
 cases (name == [71])
 case true => rfl
 cases (name == [85])
 case true => rfl
 cases (name == [82])
 case true => rfl
 cases (name == [118, 97, 114])
 case true => rfl
 cases (name == [112, 114, 111, 99]) <;> rfl
end Go.Proofs.YtjdabjpjafkogaaDoor
namespace Go.Proofs.YtjdabjpjafkogaaDoor
namespace Pa
open Job
def isLet (c : UInt8) : Bool := (decide (97 ≤ c) && decide (c ≤ 122)) || (decide (65 ≤ c) && decide (c ≤ 90)) || c == 95
def TokOk (t : Tok) : Prop := (t.1 = 1 ∧ ∃ c s, t.2.1 = c :: s ∧ isLet c = true) ∨ t.1 = 2 ∨ (t.1 = 3 ∧ ∀ c s, t.2.1 = c :: s → isLet c = false) ∨ t.1 = 4
def goodT (w : Bool) (x : Str) : Bool := match x with
 | [] => false
 | c :: _ => isLet c == w && keysT.contains x == w
theorem hitL {t : Tok} (h : TokOk t) {x : Str} (hx : goodT true x = true) : (sgn t && (x == t.2.1)) = ((t.1 == 1) && (t.2.1 == x)) := by
 obtain ⟨k, y, n, p⟩ := t
 simp only [TokOk] at h
 simp only [sgn, key]
 by_cases he : y = x
 ·subst he
  rcases h with ⟨rfl, c, s, hy, hc⟩ | rfl | ⟨rfl, h3⟩ | rfl
  ·subst hy
   simp only [goodT, Bool.and_eq_true, beq_iff_eq] at hx
   rw [hx.2]; simp
  ·simp
  ·cases y with
   | nil => cases hx
   | cons c s =>
    simp only [goodT, Bool.and_eq_true, beq_iff_eq] at hx
    rw [h3 c s rfl] at hx; cases hx.1
  ·simp
 ·have e1 : (x == y) = false := beq_eq_false_iff_ne.2 (fun e => he e.symm)
  have e2 : (y == x) = false := beq_eq_false_iff_ne.2 he
  rw [e1, e2]; simp
theorem hitS {t : Tok} (h : TokOk t) {x : Str} (hx : goodT false x = true) : (sgn t && (x == t.2.1)) = ((t.1 == 3) && (t.2.1 == x)) := by
 obtain ⟨k, y, n, p⟩ := t
 simp only [TokOk] at h
 simp only [sgn, key]
 by_cases he : y = x
 ·subst he
  rcases h with ⟨rfl, c, s, hy, hc⟩ | rfl | ⟨rfl, h3⟩ | rfl
  ·subst hy
   simp only [goodT, Bool.and_eq_true, beq_iff_eq] at hx
   rw [hx.1] at hc; cases hc
  ·simp
  ·simp
  ·simp
 ·have e1 : (x == y) = false := beq_eq_false_iff_ne.2 (fun e => he e.symm)
  have e2 : (y == x) = false := beq_eq_false_iff_ne.2 he
  rw [e1, e2]; simp
def may24 (t : Tok) : Bool := (t.1 != 2) && (t.1 != 4)
theorem hit {t : Tok} (h : TokOk t) {x : Str} {w : Bool} (hx : goodT w x = true) : (sgn t && (x == t.2.1)) = (may24 t && (t.2.1 == x)) := by
 by_cases he : t.2.1 = x
 ·rcases h with ⟨h1, c, s, hy, hc⟩ | h2 | ⟨h3, h4⟩ | h4
  ·rw [he] at hy
   have hk : keysT.contains x = true := by
    subst hy
    simp only [goodT, Bool.and_eq_true, beq_iff_eq] at hx
    rw [hx.2, ← hx.1]; exact hc
   have hm : x ∈ keysT := by simpa using hk
   simp [sgn, key, may24, h1, he, hm]
  ·simp [sgn, may24, h2]
  ·simp [sgn, may24, h3, he]
  ·simp [sgn, may24, h4]
 ·have e1 : (x == t.2.1) = false := beq_eq_false_iff_ne.2 (fun e => he e.symm)
  have e2 : (t.2.1 == x) = false := beq_eq_false_iff_ne.2 he
  rw [e1, e2]; simp
theorem fnd_nil (t : Tok) : fnd [] t = none := by unfold fnd; cases sgn t <;> rfl
theorem fnd_cons (o : Int) (l : List Int) (t : Tok) : fnd (o :: l) t = bif (sgn t && (txtT o == t.2.1)) then some o else fnd l t := by
 unfold fnd
 cases sgn t
 ·rfl
 ·simp only [cond_true, List.find?_cons, Bool.true_and]
  cases txtT o == t.2.1 <;> rfl
def opt (o : Option Int) : Int := o.getD 0
theorem op_1 {t : Tok} (h : TokOk t) : scrutinyref13_op t 1 = some (opt (opOf 1 t)) := by
 have e := hit h (x := txtT 19) (w := false) rfl
 simp only [opOf, ops, fnd_cons, fnd_nil, e]
 show (bif may24 t then (bif (t.2.1 == txtT 19) then some 19 else some 0) else some 0) = _
 cases may24 t <;> cases (t.2.1 == txtT 19) <;> rfl
theorem op_2 {t : Tok} (h : TokOk t) : scrutinyref13_op t 2 = some (opt (opOf 2 t)) := by
 have e := hit h (x := txtT 18) (w := false) rfl
 simp only [opOf, ops, fnd_cons, fnd_nil, e]
 show (bif may24 t then (bif (t.2.1 == txtT 18) then some 18 else some 0) else some 0) = _
 cases may24 t <;> cases (t.2.1 == txtT 18) <;> rfl
theorem op_3 {t : Tok} (h : TokOk t) : scrutinyref13_op t 3 = some (opt (opOf 3 t)) := by
 have e := hit h (x := txtT 17) (w := false) rfl
 simp only [opOf, ops, fnd_cons, fnd_nil, e]
 show (bif may24 t then (bif (t.2.1 == txtT 17) then some 17 else some 0) else some 0) = _
 cases may24 t <;> cases (t.2.1 == txtT 17) <;> rfl
theorem op_4 {t : Tok} (h : TokOk t) : scrutinyref13_op t 4 = some (opt (opOf 4 t)) := by
 have e := hit h (x := txtT 16) (w := false) rfl
 simp only [opOf, ops, fnd_cons, fnd_nil, e]
 show (bif may24 t then (bif (t.2.1 == txtT 16) then some 16 else some 0) else some 0) = _
 cases may24 t <;> cases (t.2.1 == txtT 16) <;> rfl
theorem op_5 {t : Tok} (h : TokOk t) : scrutinyref13_op t 5 = some (opt (opOf 5 t)) := by
 have e := hit h (x := txtT 23) (w := true) rfl
 have e2 := hit h (x := txtT 24) (w := true) rfl
 simp only [opOf, ops, fnd_cons, fnd_nil, e, e2]
 show (bif may24 t then (bif (t.2.1 == txtT 23) then some 23 else (bif (t.2.1 == txtT 24) then some 24 else some 0)) else some 0) = _
 cases may24 t <;> cases (t.2.1 == txtT 23) <;> cases (t.2.1 == txtT 24) <;> rfl
theorem op_8 {t : Tok} (h : TokOk t) : scrutinyref13_op t 8 = some (opt (opOf 8 t)) := by
 have e := hit h (x := txtT 3) (w := false) rfl
 have e2 := hit h (x := txtT 4) (w := false) rfl
 simp only [opOf, ops, fnd_cons, fnd_nil, e, e2]
 show (bif may24 t then (bif (t.2.1 == txtT 3) then some 3 else (bif (t.2.1 == txtT 4) then some 4 else some 0)) else some 0) = _
 cases may24 t <;> cases (t.2.1 == txtT 3) <;> cases (t.2.1 == txtT 4) <;> rfl
theorem op_9 {t : Tok} (h : TokOk t) : scrutinyref13_op t 9 = some (opt (opOf 9 t)) := by
 have e := hit h (x := txtT 5) (w := false) rfl
 simp only [opOf, ops, fnd_cons, fnd_nil, e]
 show (bif may24 t then (bif (t.2.1 == txtT 5) then some 5 else some 0) else some 0) = _
 cases may24 t <;> cases (t.2.1 == txtT 5) <;> rfl
theorem op_7 {t : Tok} (h : TokOk t) : scrutinyref13_op t 7 = some (opt (opOf 7 t)) := by
 have e1 := hit h (x := txtT 7) (w := false) rfl
 have e2 := hit h (x := txtT 8) (w := false) rfl
 have e3 := hit h (x := txtT 9) (w := false) rfl
 have e4 := hit h (x := txtT 10) (w := false) rfl
 have e5 := hit h (x := txtT 11) (w := false) rfl
 have e6 := hit h (x := txtT 12) (w := false) rfl
 simp only [opOf, ops, fnd_cons, fnd_nil, e1, e2, e3, e4, e5, e6]
 obtain ⟨m, hm⟩ : ∃ m, FUEL = m + 7 := ⟨18446744073709551609, rfl⟩
 unfold scrutinyref13_op
 rw [hm]
 clear hm
 have hq : (letv (t.1 != 2) fun b5 => letv (t.1 != 4) fun b7 => letv (b5 && b7) fun b9 => bif b9 then fixN (scrutinyref13_op_L1 t) (m + 7) 0 else some 0) = (bif may24 t then fixN (scrutinyref13_op_L1 t) (m + 7) 0 else some 0) := rfl
 refine Eq.trans (b := bif may24 t then fixN (scrutinyref13_op_L1 t) (m + 7) 0 else some 0) rfl ?_
 clear hq
 have s0 : fixN (scrutinyref13_op_L1 t) (m + 7) 0 = bif (t.2.1 == txtT 7) then some 7 else fixN (scrutinyref13_op_L1 t) (m + 6) 1 := rfl
 have s1 : fixN (scrutinyref13_op_L1 t) (m + 6) 1 = bif (t.2.1 == txtT 8) then some 8 else fixN (scrutinyref13_op_L1 t) (m + 5) 2 := rfl
 have s2 : fixN (scrutinyref13_op_L1 t) (m + 5) 2 = bif (t.2.1 == txtT 9) then some 9 else fixN (scrutinyref13_op_L1 t) (m + 4) 3 := rfl
 have s3 : fixN (scrutinyref13_op_L1 t) (m + 4) 3 = bif (t.2.1 == txtT 10) then some 10 else fixN (scrutinyref13_op_L1 t) (m + 3) 4 := rfl
 have s4 : fixN (scrutinyref13_op_L1 t) (m + 3) 4 = bif (t.2.1 == txtT 11) then some 11 else fixN (scrutinyref13_op_L1 t) (m + 2) 5 := rfl
 have s5 : fixN (scrutinyref13_op_L1 t) (m + 2) 5 = bif (t.2.1 == txtT 12) then some 12 else fixN (scrutinyref13_op_L1 t) (m + 1) 6 := rfl
 have s6 : fixN (scrutinyref13_op_L1 t) (m + 1) 6 = some 0 := rfl
 rw [s0, s1, s2, s3, s4, s5, s6]
 cases may24 t
 ·rfl
 cases (t.2.1 == txtT 7)
 case true => rfl
 cases (t.2.1 == txtT 8)
 case true => rfl
 cases (t.2.1 == txtT 9)
 case true => rfl
 cases (t.2.1 == txtT 10)
 case true => rfl
 cases (t.2.1 == txtT 11)
 case true => rfl
 cases (t.2.1 == txtT 12) <;> rfl
theorem op_eq {t : Tok} (h : TokOk t) {s : Nat} (h1 : 1 ≤ s) (h9 : s ≤ 9) (h6 : s ≠ 6) : scrutinyref13_op t (s : Int) = some (opt (opOf s t)) := by
 have : s = 1 ∨ s = 2 ∨ s = 3 ∨ s = 4 ∨ s = 5 ∨ s = 7 ∨ s = 8 ∨ s = 9 := by omega
 rcases this with rfl | rfl | rfl | rfl | rfl | rfl | rfl | rfl
 ·exact op_1 h
 ·exact op_2 h
 ·exact op_3 h
 ·exact op_4 h
 ·exact op_5 h
 ·exact op_7 h
 ·exact op_8 h
 ·exact op_9 h
theorem opOf_pos {s : Nat} {t : Tok} {k : Int} (h : opOf s t = some k) : (k == 0) = false := by
 have key : ∀ l : List Int, (l.all fun o => o != 0) = true → fnd l t = some k → (k == 0) = false := fun l hl h => by
  unfold fnd at h
  cases hs : sgn t
  ·rw [hs] at h; cases h
  ·rw [hs] at h
   have := List.mem_of_find?_eq_some h
   have := List.all_eq_true.1 hl k this
   simpa using this
 refine key (ops s) ?_ h
 match s with
 | 0 => rfl
 | 1 => rfl
 | 2 => rfl
 | 3 => rfl
 | 4 => rfl
 | 5 => rfl
 | 6 => rfl
 | 7 => rfl
 | 8 => rfl
 | 9 => rfl
 | 10 => rfl
 | 11 => rfl
 | n + 12 => rfl
/-! what the parser hands back -/
abbrev R4 := Ex × Int × Int × Int
abbrev LF := (Int × Int × List Tok × Int × List Str × Int × Int) → Option R4
def RR (l : List Tok) (r : Out) (m : Option R4) : Prop := match r with
 | .ok (x, ts) => ∃ a : Nat, l.drop a = ts ∧ m = some (x, (a : Int), 0, 0)
 | .error (b, p) => ∃ x a, m = some (x, a, b, p)
theorem err_ne0 {names : List Str} {j : Job} {d : Int} {ts : List Tok} {b p : Int} (h : P names j d ts (.error (b, p))) : (b != 0) = true := by
 rcases h.err _ rfl with h | h | h <;> (simp only at h; subst h; rfl)
theorem drop_at {l : List Tok} {a : Nat} {t : Tok} {ts : List Tok} (h : l.drop a = t :: ts) : idx l (a : Int) = some t ∧ l.drop (a + 1) = ts ∧ a < l.length ∧ t ∈ l := by
 have hlt : a < l.length := by
  rcases Nat.lt_or_ge a l.length with h1 | h1
  ·exact h1
  ·rw [List.drop_of_length_le h1] at h; cases h
 rw [List.drop_eq_getElem_cons hlt] at h
 simp only [List.cons.injEq] at h
 refine ⟨by simp [idx, List.getElem?_eq_getElem hlt, h.1], h.2, hlt, by rw [← h.1]; exact List.getElem_mem ..⟩
theorem wrap1 {a : Nat} (h : a < 4611686018427387904) : IntKind.i64.wrap ((a : Int) + 1) = ((a + 1 : Nat) : Int) := by rw [w64 (by omega)]; omega
theorem fail0 {l : List Tok} {a : Nat} {t : Tok} (h : idx l (a : Int) = some t) (b : Int) (names : List Str) (p : Int) : scrutinyref13_look_fail_s3 b l (a : Int) names 0 p = some (.mk 0 0 0 [], b, t.2.2.2) := by
 unfold scrutinyref13_look_fail_s3
 rw [h]; rfl
def atFrom (names : List Str) (v : Str) (i : Nat) : Option Nat := ((names.drop i).findIdx? (fun x => v == x)).map (· + i)
theorem atFrom_zero (names : List Str) (v : Str) : atFrom names v 0 = at_ names v := by
 unfold atFrom at_
 simp
theorem one_loop {l : List Tok} {a : Nat} {t : Tok} {names : List Str} (hn : names.length < 4611686018427387904) (ha : a < 4611686018427387904) (ht : idx l (a : Int) = some t) :
  ∀ (m i M : Nat), names.length - i ≤ m → i ≤ names.length → m < M →
   fixN (scrutinyref13_look_one_s3_L1 l (a : Int) names 0 0 t) M (i : Int) =
    match atFrom names t.2.1 i with
    | some j => some (.mk 2 (j : Int) t.2.2.2 [], ((a + 1 : Nat) : Int), 0, 0)
    | none => some (.mk 0 0 0 [], (a : Int), 3, t.2.2.2) := by
 intro m
 induction m with
 | zero =>
  intro i M h1 h2 h3
  obtain ⟨M, rfl⟩ : ∃ k, M = k + 1 := ⟨M - 1, by omega⟩
  have hi : i = names.length := by omega
  subst hi
  rw [fixN_succ]
  have e : atFrom names t.2.1 names.length = none := by unfold atFrom; simp
  rw [e]
  simp only [scrutinyref13_look_one_s3_L1, decide_eq_false (show ¬ ((names.length : Int) < (List.length names : Int)) by omega), cond_false, fail0 ht, bind_s]
 | succ m ih =>
  intro i M h1 h2 h3
  obtain ⟨M, rfl⟩ : ∃ k, M = k + 1 := ⟨M - 1, by omega⟩
  rw [fixN_succ]
  by_cases hi : i < names.length
  ·have hd : names.drop i = names[i] :: names.drop (i + 1) := List.drop_eq_getElem_cons hi
   have hx : idx names (i : Int) = some names[i] := by simp [idx, List.getElem?_eq_getElem hi]
   simp only [scrutinyref13_look_one_s3_L1, decide_eq_true (show ((i : Nat) : Int) < (List.length names : Int) by omega), cond_true, hx, bind_s, wrap1 ha, wrap1 (show i < 4611686018427387904 by omega)]
   have e : atFrom names t.2.1 i = bif (names[i] == t.2.1) then some i else atFrom names t.2.1 (i + 1) := by
    unfold atFrom
    rw [hd, List.findIdx?_cons]
    have : (t.2.1 == names[i]) = (names[i] == t.2.1) := by
     by_cases h : t.2.1 = names[i]
     ·rw [h]
     ·rw [beq_eq_false_iff_ne.2 h, beq_eq_false_iff_ne.2 (fun e => h e.symm)]
    rw [this]
    cases (names[i] == t.2.1)
    ·simp only [cond_false, Bool.false_eq_true, if_false, Option.map_map]
     congr 1
     funext x
     simp only [Function.comp]; omega
    ·simp
   rw [e]
   cases (names[i] == t.2.1)
   ·simp only [cond_false]
    exact ih (i + 1) M (by omega) (by omega) (by omega)
   ·rfl
  ·have hi : i = names.length := by omega
   subst hi
   have e : atFrom names t.2.1 names.length = none := by unfold atFrom; simp
   rw [e]
   simp only [scrutinyref13_look_one_s3_L1, decide_eq_false (show ¬ ((names.length : Int) < (List.length names : Int)) by omega), cond_false, fail0 ht, bind_s]
def SR (names : List Str) (l : List Tok) (k : LF) (s : Nat) (d : Int) (a : Nat) : Prop := ∃ r, P names (line s) d (l.drop a) r ∧ RR l r (k ((s : Int), d, l, (a : Int), names, 0, 0))
theorem one_ok {names : List Str} (hn : names.length < 4611686018427387904) {l : List Tok} (hl : l.length < 4611686018427387904) (htok : ∀ t ∈ l, TokOk t) {k : LF} {d : Int} {a : Nat} (he : Ends (l.drop a))
  (hk : Ends (l.drop (a + 1)) → SR names l k 1 d (a + 1)) : ∃ r, P names (line 11) d (l.drop a) r ∧ RR l r (scrutinyref13_look_one_s3 k d l (a : Int) names 0 0) := by
 obtain ⟨t, ts, hts⟩ := he.ne
 obtain ⟨hx, hd1, hlt, hmem⟩ := drop_at hts
 have hok := htok t hmem
 have ha : a < 4611686018427387904 := by omega
 have eT := hitL hok (x := txtT 13) rfl
 have eF := hitL hok (x := txtT 14) rfl
 have h11 : opOf 11 t = bif ((t.1 == 1) && (t.2.1 == txtT 13)) then some 13 else bif ((t.1 == 1) && (t.2.1 == txtT 14)) then some 14 else none := by
  simp only [opOf, ops, fnd_cons, fnd_nil, eT, eF]
 rw [hts]
 unfold scrutinyref13_look_one_s3
 simp only [hx, bind_s, letv_e, RKey_eq, wrap1 ha]
 cases h2 : (t.1 == 2)
 case true =>
  have h1 : (t.1 == 1) = false := by have := beq_iff_eq.1 h2; rw [this]; rfl
  exact ⟨_, .oNum rfl (by rw [h11, h1]; rfl) h2, a + 1, hd1, rfl⟩
 simp only [cond_false]
 cases hT : ((t.1 == 1) && (t.2.1 == txtT 13))
 case true =>
  rw [show ((t.1 == 1) && (t.2.1 == [116, 114, 117, 101])) = true from hT]
  exact ⟨_, .oWord rfl (by rw [h11, hT]; rfl), a + 1, hd1, rfl⟩
 rw [show ((t.1 == 1) && (t.2.1 == [116, 114, 117, 101])) = false from hT]
 simp only [cond_false]
 cases hF : ((t.1 == 1) && (t.2.1 == txtT 14))
 case true =>
  rw [show ((t.1 == 1) && (t.2.1 == [102, 97, 108, 115, 101])) = true from hF]
  exact ⟨_, .oWord rfl (by rw [h11, hT, hF]; rfl), a + 1, hd1, rfl⟩
 rw [show ((t.1 == 1) && (t.2.1 == [102, 97, 108, 115, 101])) = false from hF]
 simp only [cond_false]
 have hno : opOf 11 t = none := by rw [h11, hT, hF]; rfl
 cases hN : ((t.1 == 1) && !(keysT.contains t.2.1))
 case true =>
  have hname : name_ t = true := hN
  simp only [cond_true]
  have := one_loop hn ha hx names.length 0 FUEL (by omega) (by omega) (by show names.length < 2 ^ 64; omega)
  rw [show ((0 : Nat) : Int) = 0 from rfl, atFrom_zero] at this
  rw [this]
  cases hat : at_ names t.2.1 with
  | some j => exact ⟨_, .oVar rfl hno h2 hname hat, a + 1, hd1, rfl⟩
  | none => exact ⟨_, .oName rfl hno h2 hname hat, _, _, rfl⟩
 have hname : name_ t = false := hN
 simp only [cond_false]
 cases hO : (((t.1 != 3) || (t.2.1 != [40])) : Bool)
 case true =>
  have hop : open_ t = false := by
   unfold open_
   simp only [Bool.or_eq_true, bne_iff_ne] at hO
   rcases hO with h | h
   ·rw [beq_eq_false_iff_ne.2 h]; rfl
   ·rw [beq_eq_false_iff_ne.2 h, Bool.and_false]
  simp only [cond_true, fail0 hx, bind_s]
  exact ⟨_, .oForm rfl hno h2 hname hop, _, _, rfl⟩
 have h3 : t.1 = 3 ∧ t.2.1 = [40] := by
  simp only [Bool.or_eq_false_iff, bne_eq_false_iff_eq] at hO
  exact hO
 have hop : open_ t = true := by unfold open_; rw [h3.1, h3.2]; rfl
 have he1 : Ends ts := by rw [hts] at he; exact he.tail (by rw [h3.1]; decide)
 obtain ⟨r, hr, hm⟩ := hk (by rw [hd1]; exact he1)
 rw [hd1] at hr
 simp only [cond_false]
 match r, hr, hm with
 | .error (b, p), hr, ⟨x, a', hm⟩ =>
  have hb := err_ne0 hr
  rw [show ((1 : Nat) : Int) = 1 from rfl] at hm
  rw [hm, bind_s]
  simp only [hb, cond_true]
  exact ⟨_, .oErr rfl hno h2 hname hop hr, _, _, rfl⟩
 | .ok (x, ts'), hr, ⟨a', ha', hm⟩ =>
  rw [show ((1 : Nat) : Int) = 1 from rfl] at hm
  obtain ⟨he', hsh⟩ := hr.ends he1 _ rfl
  obtain ⟨c, ts2, hc⟩ := he'.ne
  simp only at hc
  subst hc
  obtain ⟨hxc, hdc, hltc, hmemc⟩ := drop_at ha'
  rw [hm, bind_s]
  simp only [bne_self_eq_false, cond_false, hxc, bind_s, wrap1 (show a' < 4611686018427387904 by omega)]
  by_cases hc3 : c.1 = 3
  ·have e3 : (c.1 != 3) = false := by rw [hc3]; rfl
   simp only [e3, Bool.not_false, callG_tt, bind_s, Bool.false_or]
   cases hcl : (c.2.1 != [41])
   ·have : close_ c = true := by
     unfold close_
     rw [hc3, bne_eq_false_iff_eq.1 hcl]; rfl
    exact ⟨_, .oOpen rfl hno h2 hname hop hr this, a' + 1, hdc, rfl⟩
   ·have : close_ c = false := by
     unfold close_
     rw [beq_eq_false_iff_ne.2 (bne_iff_ne.1 hcl), Bool.and_false]
    simp only [cond_true, fail0 hxc, bind_s]
    exact ⟨_, .oClose rfl hno h2 hname hop hr this, _, _, rfl⟩
  ·have e3 : (c.1 != 3) = true := bne_iff_ne.2 hc3
   have : close_ c = false := by
    unfold close_
    rw [beq_eq_false_iff_ne.2 hc3]; rfl
   simp only [e3, Bool.not_true, callG_ff, Bool.true_or, cond_true, fail0 hxc, bind_s]
   exact ⟨_, .oClose rfl hno h2 hname hop hr this, _, _, rfl⟩
end Pa
end Go.Proofs.YtjdabjpjafkogaaDoor
