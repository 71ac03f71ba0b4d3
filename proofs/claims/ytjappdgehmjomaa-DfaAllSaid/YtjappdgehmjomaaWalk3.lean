/- Printed by a program: the walks. -/
import Derived.Test.YtjappdgehmjomaaTypes
namespace Go.Proofs.Ytjappdgehmjomaa
open Go.Proofs

set_option maxRecDepth 100000 in
set_option maxHeartbeats 4000000 in
theorem slices_Clone_int_int_ok {Φ : Ctx} {w : World} {s : (List Int)} {v1 : SLV} {r : (List Int)} (hs : Sat (imm (RSl (RI .i64)) [sl v1] s :: Φ) w) (hm : slices_Clone_int_int s = some r) :
    CallsR Try.prog 24 [(sl v1)] w (fun v w' => ∃ v3 : SLV, ∃ R4 : List Nat, v = (sl v3) ∧ Sat (osl (RI .i64) 3 (sl v3) r R4 :: Φ) w') := by
  refine CallsX_enter Try.func24 rfl Try.ntmps24 rfl ?_
  unfold slices_Clone_int_int at hm
  refine WC_seq ?_
  refine WC_region ?_
  refine WL_op (Run_assign Opd.c) rfl rfl rfl rfl <| ?_
  refine WL_nil ?_
  refine At_then ?_
  refine WC_seq ?_
  refine WC_seq ?_
  refine WC_region ?_
  refine WL_op (Run_move (Opd.t rfl)) rfl rfl rfl rfl <| ?_
  rcases srd_nilcase (hs.sl (i := 0) rfl) with ⟨rfl, rfl⟩ | hv5
  ·
    replace hm : (some []) = some r := hm
    refine WL_op (Run.eqB (Run_eqNilSl Try.underlying27 (Opd.t rfl) ((hs.sl (i := 0) rfl).len) Opd.c) rfl) rfl rfl rfl rfl <| ?_
    refine WL_nil ?_
    refine At_then ?_
    refine WC_cond (Opd.t rfl) (fun _ => ?_) (fun h => by cases h)
    refine WC_seq ?_
    refine WC_region ?_
    refine WL_op (Run_assign Opd.c) rfl rfl rfl rfl <| ?_
    refine WL_nil ?_
    refine At_then ?_
    refine WC_ret ?_
    refine At_then_ret <| ?_
    refine At_r1 rfl (ResIs.t rfl) ?_
    replace hs := hs.addNil (RI .i64) 3
    cases hm
    exact ⟨(none, 0, 0), [], rfl, (hs.re 2 [0] rfl)⟩
  ·
    refine WL_op (Run.eqB (Run_eqNilSl Try.underlying27 (Opd.t rfl) ((hs.sl (i := 0) rfl).len) Opd.c) hv5) rfl rfl rfl rfl <| ?_
    refine WL_nil ?_
    refine At_then ?_
    refine WC_cond (Opd.t rfl) (fun h => by cases h) (fun _ => ?_)
    refine WC_skip ?_
    refine At_then ?_
    refine WC_seq ?_
    refine WC_region ?_
    refine WS_lit0 (A := (RI .i64)) hs Try.underlying27 ti3 rfl ?_
    intro b6 w7 hs
    replace hs := Sat.n2 (Γ := Φ) hs rfl
    refine WL_op (Run_move (Opd.t rfl)) rfl rfl rfl rfl <| ?_
    obtain ⟨k8, hm⟩ := chk_some hm
    refine WS_append (A := (RI .i64)) hs 0 rfl Try.underlying27 ti3 rfl rfl (Opd.t rfl) (Opd.t rfl) (hs.sl (i := 1) rfl) k8 rfl ?_
    intro v9 R10 w11 hs
    replace hs := Sat.n2 (Γ := Φ) hs rfl
    refine WL_op (Run_assign (Opd.t rfl)) rfl rfl rfl rfl <| ?_
    refine WL_nil ?_
    refine At_then ?_
    refine WC_ret ?_
    refine At_r1 rfl (ResIs.t rfl) ?_
    cases hm
    exact ⟨v9, R10, rfl, (hs.re 2 [0] rfl)⟩

set_option maxRecDepth 100000 in
set_option maxHeartbeats 4000000 in
theorem slices_Equal_api_Edge_api_Edge_ok {Φ : Ctx} {w : World} {s1 : (List (Int × Int))} {s2 : (List (Int × Int))} {v1 : SLV} {v3 : SLV} {r : Bool} (hs : Sat (imm (RSl (RP (RI .u8) (RI .i64))) [sl v1] s1 :: imm (RSl (RP (RI .u8) (RI .i64))) [sl v3] s2 :: Φ) w) (hm : slices_Equal_api_Edge_api_Edge s1 s2 = some r) :
    CallsR Try.prog 46 [(sl v1), (sl v3)] w (fun v w' => v = (.bool r) ∧ Sat (Φ) w') := by
  refine CallsX_enter Try.func46 rfl Try.ntmps46 rfl ?_
  unfold slices_Equal_api_Edge_api_Edge at hm
  refine WC_seq ?_
  refine WC_region ?_
  refine WL_op (Run_assign Opd.c) rfl rfl rfl rfl <| ?_
  refine WL_nil ?_
  refine At_then ?_
  refine WC_seq ?_
  refine WC_seq ?_
  refine WC_region ?_
  refine WL_op (Run_move (Opd.t rfl)) rfl rfl rfl rfl <| WL_op (Run_lenSlG Try.underlying58 (Opd.t rfl) (fun hg => (hs.sl (i := 0) rfl).len)) rfl rfl rfl rfl <| WL_op (Run_move (Opd.t rfl)) rfl rfl rfl rfl <| WL_op (Run_lenSlG Try.underlying58 (Opd.t rfl) (fun hg => (hs.sl (i := 1) rfl).len)) rfl rfl rfl rfl <| WL_op (Run_neI (Opd.t rfl) (Opd.t rfl)) rfl rfl rfl rfl <| ?_
  refine WL_nil ?_
  refine At_then ?_
  refine WC_cond (Opd.t rfl) (fun hc3 => ?_) (fun hc3 => ?_)
  ·
    replace hm := bif_t hc3 hm
    refine WC_seq ?_
    refine WC_region ?_
    refine WL_op (Run_assign Opd.c) rfl rfl rfl rfl <| ?_
    refine WL_nil ?_
    refine At_then ?_
    refine WC_ret ?_
    refine At_then_ret <| ?_
    refine At_r1 rfl (ResIs.t rfl) ?_
    cases hm
    exact ⟨rfl, (hs.re 2 [] rfl)⟩
  ·
    replace hm := bif_f hc3 hm
    refine WC_skip ?_
    refine At_then ?_
    refine WC_seq ?_
    refine WC_seq ?_
    refine WC_region ?_
    refine WL_op (Run_move (Opd.t rfl)) rfl rfl rfl rfl <| WL_op (Run_lenSlG Try.underlying58 (Opd.t rfl) (fun hg => (hs.sl (i := 0) rfl).len)) rfl rfl rfl rfl <| WL_op (Run_move Opd.c) rfl rfl rfl rfl <| ?_
    refine WL_nil ?_
    refine At_then ?_
    refine WC_block ?_
    refine WC_loop (σ := Int) (γ := Unit) (F := (slices_Equal_api_Edge_api_Edge_L1 s1 s2)) (N := FUEL) (s0 := 0) (r := r) (fun t5 (_ : Unit) w4 => Sat (imm (RSl (RP (RI .u8) (RI .i64))) [sl v1] s1 :: imm (RSl (RP (RI .u8) (RI .i64))) [sl v3] s2 :: Φ) w4) (fun t5 (_ : Unit) => [(0, true, (sl v1)), (1, true, (sl v3)), (12, true, (.int .i64 (List.length s1 : Int))), (13, true, (.int .i64 t5))]) hm () (hs.re 2 [0, 1] rfl) rfl ?_
    rintro again6 t5 _ w4 hm hs
    unfold slices_Equal_api_Edge_api_Edge_L1 at hm
    refine WC_seq ?_
    refine WC_region ?_
    refine WL_op (Run_ltI (Opd.t rfl) (Opd.t rfl)) rfl rfl rfl rfl <| ?_
    refine WL_nil ?_
    refine At_then ?_
    refine WC_seq ?_
    refine WC_cond (Opd.t rfl) (fun hc7 => ?_) (fun hc7 => ?_)
    ·
      replace hm := bif_t hc7 hm
      refine WC_skip ?_
      refine At_then ?_
      refine WC_seq ?_
      refine WC_block ?_
      refine WC_seq ?_
      refine WC_region ?_
      refine WL_op (Run_move (Opd.t rfl)) rfl rfl rfl rfl <| WL_op (Run_assign (Opd.t rfl)) rfl rfl rfl rfl <| ?_
      refine WL_nil ?_
      refine At_then ?_
      refine WC_seq ?_
      refine WC_region_mixed [0, 0, 3, 4, 0, 0, 48, 64, 136] (.q 0 0 (.q 1 1 (.q 2 3 (.q 3 7 (.q 4 15 (.q 5 31 (.q 6 63 (.q 7 127 (.q 8 255 .nil))))))))) (by kernel_rfl) (by kernel_rfl) ?_
      intro w8 hx9
      replace hs := hs.ext hx9
      refine WD_pure (fun _ => (Run_move (Opd.t rfl))) rfl rfl rfl rfl <| WD_pure (fun _ => (Run_move (Opd.t rfl))) rfl rfl rfl rfl <| ?_
      obtain ⟨e10, he11, hm⟩ := bind_some' hm
      refine WD_pure (fun _ => (Run_idxAddr (p := (elA (sl v1) t5 2)) Try.underlying58 ti69 (Opd.t rfl) (Opd.t rfl) (fun hg => (SRd.atA (A := (RP (RI .u8) (RI .i64))) (v := (sl v1)) (hs.sl (i := 0) rfl) he11).1))) rfl rfl rfl rfl <| WD_op (fun w => true = true → CellsAt w (elA (sl v1) t5 2) [(.int .u8 e10.1), (.int .i64 e10.2)]) (fun hg => (SRd.cellsF (A := (RP (RI .u8) (RI .i64))) (v := (sl v1)) (hs.sl (i := 0) rfl) he11 (fun _ h => openT69 h)).sub 0 rfl) (fun _ hJ => (Run_loadA (vs := [(.int .u8 e10.1), (.int .i64 e10.2)]) Try.underlying69 rfl ti69 (Opd.t rfl) hJ rfl)) rfl rfl rfl rfl <| WD_pure (fun _ => (Run_move (Opd.t rfl))) rfl rfl rfl rfl <| WD_pure (fun _ => (Run_move (Opd.t rfl))) rfl rfl rfl rfl <| ?_
      obtain ⟨e12, he13, hm⟩ := bind_some' hm
      refine WD_pure (fun _ => (Run_idxAddr (p := (elA (sl v3) t5 2)) Try.underlying58 ti69 (Opd.t rfl) (Opd.t rfl) (fun hg => (SRd.atA (A := (RP (RI .u8) (RI .i64))) (v := (sl v3)) (hs.sl (i := 1) rfl) he13).1))) rfl rfl rfl rfl <| WD_op (fun w => true = true → CellsAt w (elA (sl v3) t5 2) [(.int .u8 e12.1), (.int .i64 e12.2)]) (fun hg => (SRd.cellsF (A := (RP (RI .u8) (RI .i64))) (v := (sl v3)) (hs.sl (i := 1) rfl) he13 (fun _ h => openT69 h)).sub 0 rfl) (fun _ hJ => (Run_loadA (vs := [(.int .u8 e12.1), (.int .i64 e12.2)]) Try.underlying69 rfl ti69 (Opd.t rfl) hJ rfl)) rfl rfl rfl rfl <| WD_pure (fun _ => (Run_bin (Opd.t rfl) (Opd.t rfl) (run_neT69 _ _ _ _ _))) rfl rfl rfl rfl <| ?_
      refine WD_nil ?_
      refine At_then ?_
      refine WC_cond (Opd.t rfl) (fun hc14 => ?_) (fun hc14 => ?_)
      ·
        replace hm := bif_t hc14 hm
        refine WC_seq ?_
        refine WC_region ?_
        refine WL_op (Run_assign Opd.c) rfl rfl rfl rfl <| ?_
        refine WL_nil ?_
        refine At_then ?_
        refine WC_ret ?_
        refine At_blk_ret <| At_then_ret <| At_then_ret <| At_blk_ret <| At_then_ret <| ?_
        refine At_r1 rfl (ResIs.t rfl) ?_
        cases hm
        exact ⟨rfl, (hs.re 2 [] rfl)⟩
      ·
        replace hm := bif_f hc14 hm
        refine WC_skip ?_
        refine At_blk_normal ?_
        refine At_then ?_
        refine WC_region ?_
        refine WL_op (Run_add (Opd.t rfl) Opd.c) rfl rfl rfl rfl <| WL_op (Run_move (Opd.t rfl)) rfl rfl rfl rfl <| ?_
        refine WL_nil ?_
        exact At_again (IntKind.i64.wrap (t5 + 1)) () hm (hs.re 2 [0, 1] rfl) rfl
    ·
      replace hm := bif_f hc7 hm
      refine WC_exit ?_
      refine At_then_exit <| At_then_exit <| At_blk_here <| ?_
      refine At_then ?_
      refine WC_seq ?_
      refine WC_region ?_
      refine WL_op (Run_assign Opd.c) rfl rfl rfl rfl <| ?_
      refine WL_nil ?_
      refine At_then ?_
      refine WC_ret ?_
      refine At_r1 rfl (ResIs.t rfl) ?_
      cases hm
      exact ⟨rfl, (hs.re 2 [] rfl)⟩

set_option maxRecDepth 100000 in
set_option maxHeartbeats 4000000 in
theorem dfa_work_same_ok {Φ : Ctx} {w : World} {next_ : (List (Int × Int))} {Wide : Int} {Node : (List ((List (Int × Int)) × Int))} {Root : Int} {Many : Int} {Free : (List Int)} {young : (Option (List (Int × Bool)))} {b : Nat} {v2 : SLV} {v4 : SLV} {R : List Nat} {v6 : SLV} {R7 : List Nat} {v9 : Option Nat} {r : (Int × Bool)} (hs : Sat (box b 56 [(.int .i64 Wide), (sl v4), (.int .i64 Root), (.int .i64 Many), (sl v6), (.map v9)] :: imm (RSl (RP (RI .u8) (RI .i64))) [sl v2] next_ :: osl (RP (RSl (RP (RI .u8) (RI .i64))) (RI .i64)) 60 (sl v4) Node R :: osl (RI .i64) 3 (sl v6) Free R7 :: omap mk54 mv54 (.map v9) young :: Φ) w) (hm : dfa_work_same next_ Wide Node Root Many Free young = some r) :
    CallsR Try.prog 40 [(.pointer (some ⟨b, 0, none⟩)), (sl v2)] w (fun v w' => v = (.tuple #[(.int .i64 r.1), (.bool r.2)]) ∧ Sat (box b 56 [(.int .i64 Wide), (sl v4), (.int .i64 Root), (.int .i64 Many), (sl v6), (.map v9)] :: osl (RP (RSl (RP (RI .u8) (RI .i64))) (RI .i64)) 60 (sl v4) Node R :: osl (RI .i64) 3 (sl v6) Free R7 :: omap mk54 mv54 (.map v9) young :: Φ) w') := by
  refine CallsX_enter Try.func40 rfl Try.ntmps40 rfl ?_
  unfold dfa_work_same at hm
  refine WC_seq ?_
  refine WC_region ?_
  refine WL_op (Run_assign Opd.c) rfl rfl rfl rfl <| WL_op (Run_assign Opd.c) rfl rfl rfl rfl <| ?_
  refine WL_nil ?_
  refine At_then ?_
  refine WC_seq ?_
  refine WC_seq ?_
  refine WC_region ?_
  refine WL_op (Run_move (Opd.t rfl)) rfl rfl rfl rfl <| WL_op (Run_nilP (Opd.t rfl)) rfl rfl rfl rfl <| WL_op (Run_fieldAddr fo56_0 (Opd.t rfl)) rfl rfl rfl rfl <| WL_op (Run_fieldAddr fo29_1 (Opd.t rfl)) rfl rfl rfl rfl <| WL_op (Run_load1 (v := (sl v4)) Try.underlying26 rfl (Opd.t rfl) (fun _ => (hs.box (i := 0) rfl).part 1 rfl)) rfl rfl rfl rfl <| WL_op (Run_lenSlG Try.underlying26 (Opd.t rfl) (fun _ => (hs.own (i := 2) rfl).len)) rfl rfl rfl rfl <| WL_op (Run_move Opd.c) rfl rfl rfl rfl <| ?_
  refine WL_nil ?_
  refine At_then ?_
  refine WC_block ?_
  refine WC_loop (σ := Int) (γ := Unit) (F := (dfa_work_same_L1 next_ Node young)) (N := FUEL) (s0 := 0) (r := r) (fun t5 (_ : Unit) w4 => Sat (box b 56 [(.int .i64 Wide), (sl v4), (.int .i64 Root), (.int .i64 Many), (sl v6), (.map v9)] :: osl (RP (RSl (RP (RI .u8) (RI .i64))) (RI .i64)) 60 (sl v4) Node R :: osl (RI .i64) 3 (sl v6) Free R7 :: omap mk54 mv54 (.map v9) young :: imm (RSl (RP (RI .u8) (RI .i64))) [sl v2] next_ :: Φ) w4) (fun t5 (_ : Unit) => [(0, true, (.pointer (some ⟨b, 0, none⟩))), (1, true, (sl v2)), (12, true, (sl v4)), (13, true, (.int .i64 (List.length Node : Int))), (14, true, (.int .i64 t5))]) hm () (hs.re 5 [0, 2, 3, 4, 1] rfl) rfl ?_
  rintro again6 t5 _ w4 hm hs
  unfold dfa_work_same_L1 at hm
  refine WC_seq ?_
  refine WC_region ?_
  refine WL_op (Run_ltI (Opd.t rfl) (Opd.t rfl)) rfl rfl rfl rfl <| ?_
  refine WL_nil ?_
  refine At_then ?_
  refine WC_seq ?_
  refine WC_cond (Opd.t rfl) (fun hc7 => ?_) (fun hc7 => ?_)
  ·
    replace hm := bif_t hc7 hm
    refine WC_skip ?_
    refine At_then ?_
    refine WC_seq ?_
    refine WC_block ?_
    refine WC_seq ?_
    refine WC_region ?_
    refine WL_op (Run_move (Opd.t rfl)) rfl rfl rfl rfl <| ?_
    obtain ⟨e8, he9, hm⟩ := bind_some' hm
    obtain ⟨v10, hC11, hN12, hR13⟩ := cellsMO60 (g := true) (fun hg => (hs.own (i := 1) rfl)) (fun hg => he9)
    replace hs := hs.addL [imm (RSl (RP (RI .u8) (RI .i64))) [sl v10] e8.1] rfl ⟨⟨_, rfl, hR13 rfl⟩, trivial⟩
    replace hs := Sat.n6 (Γ := Φ) hs rfl
    refine WL_op (Run_idxAddr (p := (elA (sl v4) t5 2)) Try.underlying26 ti60 (Opd.t rfl) (Opd.t rfl) (fun hg => (Own.atA (A := (RP (RSl (RP (RI .u8) (RI .i64))) (RI .i64))) (v := (sl v4)) (hs.own (i := 2) rfl) he9).1)) rfl rfl rfl rfl <| WL_op (Run_loadA (vs := [(sl v10), (.int .i64 e8.2)]) Try.underlying60 rfl ti60 (Opd.t rfl) (fun hg => (hC11 hg).sub 0 rfl) rfl) rfl rfl rfl rfl <| ?_
    refine WS_alloc (zs := [(sl (none, 0, 0)), (.int .i64 0)]) hs ti60 rfl rfl ?_
    intro b14 w15 hs
    replace hs := Sat.n7 (Γ := Φ) hs rfl
    refine WL_op (Run_assign (Opd.t rfl)) rfl rfl rfl rfl <| ?_
    refine WS_store (us := [(sl v10), (.int .i64 e8.2)]) (vs' := [(sl v10), (.int .i64 e8.2)]) hs 0 rfl ti60 (Opd.t rfl) (Opd.t rfl) rfl rfl rfl rfl rfl ?_
    intro w16 hs
    replace hs := Sat.n7 (Γ := Φ) hs rfl
    refine WL_nil ?_
    refine At_then ?_
    refine WC_seq ?_
    refine WC_region ?_
    refine WL_op (Run_fieldAddr fo60_1 (Opd.t rfl)) rfl rfl rfl rfl <| WL_op (Run_load1 (v := (.int .i64 e8.2)) Try.underlying3 rfl (Opd.t rfl) (fun _ => (hs.box (i := 0) rfl).part 1 rfl)) rfl rfl rfl rfl <| ?_
    obtain ⟨b17, e18, hm⟩ := letv_some hm
    refine WL_op (Run.eqB (Run_gtI (Opd.t rfl) Opd.c) e18) rfl rfl rfl rfl <| WL_op (Run_move (Opd.t rfl)) rfl rfl rfl rfl <| WL_opG rfl rfl rfl rfl guard_neg (Run_move (Opd.t rfl)) rfl rfl rfl <| WL_opG rfl rfl rfl rfl guard_neg (Run_nilP (Opd.g rfl id)) rfl rfl rfl <| WL_opG rfl rfl rfl rfl guard_neg (Run_fieldAddr fo56_1 (Opd.g rfl id)) rfl rfl rfl <| WL_opG rfl rfl rfl rfl guard_neg (Run_load1 (v := (.map v9)) Try.underlying54 rfl (Opd.g rfl id) (fun _ => (hs.box (i := 2) rfl).part 5 rfl)) rfl rfl rfl <| WL_opG rfl rfl rfl rfl guard_neg (Run_move (Opd.t rfl)) rfl rfl rfl <| ?_
    obtain ⟨b19, e20, hm⟩ := letv_some hm
    refine WL_opG rfl rfl rfl rfl guard_neg (Run.eqB (Run_lookup (ke := mk54) (vi := mv54) (z := false) (k := t5) mK54 Try.underlying54 (ti4.zero _) (Opd.g rfl id) (Opd.g rfl id) (fun _ => hs.omap (i := 5) rfl)) e20) rfl rfl rfl <| ?_
    obtain ⟨b21, e22, hm⟩ := letv_some hm
    refine WL_op (Run.eqB (Run_or (Opd.t rfl) (Opd.g rfl id)) e22) rfl rfl rfl rfl <| WL_op (Run_move (Opd.t rfl)) rfl rfl rfl rfl <| WL_opG rfl rfl rfl rfl guard_pos (Run_fieldAddr fo60_0 (Opd.t rfl)) rfl rfl rfl <| WL_opG rfl rfl rfl rfl guard_pos (Run_load1 (v := (sl v10)) Try.underlying58 rfl (Opd.g rfl id) (fun _ => (hs.box (i := 0) rfl).part 0 rfl)) rfl rfl rfl <| WL_opG rfl rfl rfl rfl guard_pos (Run_move (Opd.t rfl)) rfl rfl rfl <| ?_
    obtain ⟨r23, hr24, -, hm⟩ := callG_some hm
    refine WL_callG rfl rfl rfl guard_pos (f := 46) (first := []) (cap := []) (xs := [(.tmp 32), (.tmp 33)]) (vs := [(sl v10), (sl v2)]) (args := [(sl v10), (sl v2)]) Try.call46 Opd.f (.cons (Opd.g rfl id) (.cons (Opd.g rfl id) .nil)) rfl rfl (fun hg => slices_Equal_api_Edge_api_Edge_ok (hs.re 7 [1, 6, 0, 1, 2, 3, 4, 5, 6] rfl) (hr24 hg)) ?_
    intro v26 w25 hv27 hz28
    replace hs := Sat.ofG (fun hg => (hv27 hg).2.re 7 [0, 1, 2, 3, 4, 5, 6] rfl) hz28 hs
    refine WL_sub1 (v := (.bool r23)) (fun hg => (hv27 hg).1) ?_
    replace hs := Sat.n7 (Γ := Φ) hs rfl
    obtain ⟨b29, e30, hm⟩ := letv_some hm
    refine WL_op (Run.eqB (Run_and (Opd.t rfl) (Opd.g rfl id)) e30) rfl rfl rfl rfl <| ?_
    refine WL_nil ?_
    refine At_then ?_
    refine WC_cond (Opd.t rfl) (fun hc31 => ?_) (fun hc31 => ?_)
    ·
      replace hm := bif_t hc31 hm
      refine WC_seq ?_
      refine WC_region ?_
      refine WL_op (Run_move (Opd.t rfl)) rfl rfl rfl rfl <| WL_op (Run_assign (Opd.t rfl)) rfl rfl rfl rfl <| WL_op (Run_assign Opd.c) rfl rfl rfl rfl <| ?_
      refine WL_nil ?_
      refine At_then ?_
      refine WC_ret ?_
      refine At_blk_ret <| At_then_ret <| At_then_ret <| At_blk_ret <| At_then_ret <| ?_
      refine At_r2 rfl (ResIs.t rfl) (ResIs.t rfl) ?_
      cases hm
      exact ⟨rfl, (hs.re 7 [2, 3, 4, 5] rfl)⟩
    ·
      replace hm := bif_f hc31 hm
      refine WC_skip ?_
      refine At_blk_normal ?_
      refine At_then ?_
      refine WC_region ?_
      refine WL_op (Run_add (Opd.t rfl) Opd.c) rfl rfl rfl rfl <| WL_op (Run_move (Opd.t rfl)) rfl rfl rfl rfl <| ?_
      refine WL_nil ?_
      exact At_again (IntKind.i64.wrap (t5 + 1)) () hm (hs.re 7 [2, 3, 4, 5, 6] rfl) rfl
  ·
    replace hm := bif_f hc7 hm
    refine WC_exit ?_
    refine At_then_exit <| At_then_exit <| At_blk_here <| ?_
    refine At_then ?_
    refine WC_seq ?_
    refine WC_region ?_
    refine WL_op (Run_assign Opd.c) rfl rfl rfl rfl <| WL_op (Run_assign Opd.c) rfl rfl rfl rfl <| ?_
    refine WL_nil ?_
    refine At_then ?_
    refine WC_ret ?_
    refine At_r2 rfl (ResIs.t rfl) (ResIs.t rfl) ?_
    cases hm
    exact ⟨rfl, (hs.re 5 [0, 1, 2, 3] rfl)⟩

set_option maxRecDepth 100000 in
set_option maxHeartbeats 4000000 in
theorem dfa_numbers_Len_s2_ok {Φ : Ctx} {w : World} {h : (List Int)} {v1 : SLV} {R : List Nat} {r : Int} (hs : Sat (osl (RI .i64) 3 (sl v1) h R :: Φ) w) (hm : dfa_numbers_Len_s2 h = some r) :
    CallsR Try.prog 67 [(sl v1)] w (fun v w' => v = (.int .i64 r) ∧ Sat (osl (RI .i64) 3 (sl v1) h R :: Φ) w') := by
  refine CallsX_enter Try.func67 rfl Try.ntmps67 rfl ?_
  unfold dfa_numbers_Len_s2 at hm
  refine WC_seq ?_
  refine WC_region ?_
  refine WL_op (Run_assign Opd.c) rfl rfl rfl rfl <| ?_
  refine WL_nil ?_
  refine At_then ?_
  refine WC_seq ?_
  refine WC_region ?_
  refine WL_op (Run_move (Opd.t rfl)) rfl rfl rfl rfl <| WL_op (Run_lenSlG Try.underlying78 (Opd.t rfl) (fun _ => (hs.own (i := 0) rfl).len)) rfl rfl rfl rfl <| WL_op (Run_assign (Opd.t rfl)) rfl rfl rfl rfl <| ?_
  refine WL_nil ?_
  refine At_then ?_
  refine WC_ret ?_
  refine At_r1 rfl (ResIs.t rfl) ?_
  cases hm
  exact ⟨rfl, (hs.re 1 [0] rfl)⟩

end Go.Proofs.Ytjappdgehmjomaa
