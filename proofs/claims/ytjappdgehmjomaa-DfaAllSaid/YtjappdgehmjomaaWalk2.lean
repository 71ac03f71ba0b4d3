/- Printed by a program: the walks. -/
import Derived.Test.YtjappdgehmjomaaTypes
import Derived.Test.YtjappdgehmjomaaWalk1
namespace Go.Proofs.Ytjappdgehmjomaa
open Go.Proofs

set_option maxRecDepth 100000 in
set_option maxHeartbeats 4000000 in
theorem slices_BinarySearchFunc_api_Edge_api_Edge_byte_ok {Φ : Ctx} {w : World} {x : (List (Int × Int))} {target : Int} {v1 : SLV} {r : (Int × Bool)} (hs : Sat (imm (RSl (RP (RI .u8) (RI .i64))) [sl v1] x :: Φ) w) (hm : slices_BinarySearchFunc_api_Edge_api_Edge_byte x target = some r) :
    CallsR Try.prog 34 [(sl v1), (.int .u8 target), (.func (.func 39) #[] #[])] w (fun v w' => v = (.tuple #[(.int .i64 r.1), (.bool r.2)]) ∧ Sat (Φ) w') := by
  refine CallsX_enter Try.func34 rfl Try.ntmps34 rfl ?_
  unfold slices_BinarySearchFunc_api_Edge_api_Edge_byte at hm
  refine WC_seq ?_
  refine WC_region ?_
  refine WL_op (Run_assign Opd.c) rfl rfl rfl rfl <| WL_op (Run_assign Opd.c) rfl rfl rfl rfl <| ?_
  refine WL_nil ?_
  refine At_then ?_
  refine WC_seq ?_
  refine WC_region ?_
  refine WL_op (Run_move (Opd.t rfl)) rfl rfl rfl rfl <| WL_op (Run_lenSlG Try.underlying58 (Opd.t rfl) (fun hg => (hs.sl (i := 0) rfl).len)) rfl rfl rfl rfl <| WL_op (Run_assign (Opd.t rfl)) rfl rfl rfl rfl <| ?_
  refine WL_nil ?_
  refine At_then ?_
  refine WC_seq ?_
  refine WC_region ?_
  refine WL_op (Run_move (Opd.t rfl)) rfl rfl rfl rfl <| WL_op (Run_assign Opd.c) rfl rfl rfl rfl <| WL_op (Run_assign (Opd.t rfl)) rfl rfl rfl rfl <| ?_
  refine WL_nil ?_
  refine At_then ?_
  refine WC_seq ?_
  refine WC_block ?_
  refine WC_loop (σ := Int × Int) (γ := Unit) (F := (slices_BinarySearchFunc_api_Edge_api_Edge_byte_L1 x target)) (N := FUEL) (s0 := (0, (List.length x : Int))) (r := r) (fun ⟨i5, j6⟩ (_ : Unit) w4 => Sat (imm (RSl (RP (RI .u8) (RI .i64))) [sl v1] x :: Φ) w4) (fun ⟨i5, j6⟩ (_ : Unit) => [(0, true, (sl v1)), (1, true, (.int .u8 target)), (2, true, (.func (.func 39) #[] #[])), (8, true, (.int .i64 (List.length x : Int))), (9, true, (.int .i64 i5)), (10, true, (.int .i64 j6))]) hm () (hs.re 1 [0] rfl) rfl ?_
  rintro again7 ⟨i5, j6⟩ _ w4 hm hs
  unfold slices_BinarySearchFunc_api_Edge_api_Edge_byte_L1 at hm
  dsimp only at hm
  refine WC_seq ?_
  refine WC_seq ?_
  refine WC_region ?_
  refine WL_op (Run_move (Opd.t rfl)) rfl rfl rfl rfl <| WL_op (Run_move (Opd.t rfl)) rfl rfl rfl rfl <| WL_op (Run_ltI (Opd.t rfl) (Opd.t rfl)) rfl rfl rfl rfl <| ?_
  refine WL_nil ?_
  refine At_then ?_
  refine WC_cond (Opd.t rfl) (fun hc8 => ?_) (fun hc8 => ?_)
  ·
    replace hm := bif_t hc8 hm
    refine WC_skip ?_
    refine At_then ?_
    refine WC_block ?_
    refine WC_seq ?_
    refine WC_region ?_
    refine WL_op (Run_move (Opd.t rfl)) rfl rfl rfl rfl <| WL_op (Run_move (Opd.t rfl)) rfl rfl rfl rfl <| WL_op (Run_add (Opd.t rfl) (Opd.t rfl)) rfl rfl rfl rfl <| WL_op (Run_conv Try.underlying3 Try.underlying83 (Opd.t rfl)) rfl rfl rfl rfl <| WL_op (Run_shr (Opd.t rfl) Opd.c (fun _ => rfl)) rfl rfl rfl rfl <| WL_op (Run_conv Try.underlying83 Try.underlying3 (Opd.t rfl)) rfl rfl rfl rfl <| WL_op (Run_assign (Opd.t rfl)) rfl rfl rfl rfl <| ?_
    refine WL_nil ?_
    refine At_then ?_
    refine WC_seq ?_
    refine WC_region ?_
    refine WL_op (Run_move (Opd.t rfl)) rfl rfl rfl rfl <| WL_op (Run_move (Opd.t rfl)) rfl rfl rfl rfl <| WL_op (Run_move (Opd.t rfl)) rfl rfl rfl rfl <| ?_
    obtain ⟨e9, he10, hm⟩ := bind_some' hm
    refine WL_op (Run_idxAddr (p := (elA (sl v1) (IntKind.i64.wrap (shrI .u64 (IntKind.u64.wrap (IntKind.i64.wrap (i5 + j6))) 1)) 2)) Try.underlying58 ti69 (Opd.t rfl) (Opd.t rfl) (fun hg => (SRd.atA (A := (RP (RI .u8) (RI .i64))) (v := (sl v1)) (hs.sl (i := 0) rfl) he10).1)) rfl rfl rfl rfl <| WL_op (Run_loadA (vs := [(.int .u8 e9.1), (.int .i64 e9.2)]) Try.underlying69 rfl ti69 (Opd.t rfl) (fun hg => (SRd.cellsF (A := (RP (RI .u8) (RI .i64))) (v := (sl v1)) (hs.sl (i := 0) rfl) he10 (fun _ h => openT69 h)).sub 0 rfl) rfl) rfl rfl rfl rfl <| WL_op (Run_move (Opd.t rfl)) rfl rfl rfl rfl <| ?_
    obtain ⟨r11, hr12, hm⟩ := bind_some' hm
    refine WL_call (f := 39) (first := []) (cap := []) (xs := [(.tmp 28), (.tmp 29)]) (vs := [(.agg #[(.int .u8 e9.1), (.int .i64 e9.2)]), (.int .u8 target)]) (args := [(.agg #[(.int .u8 e9.1), (.int .i64 e9.2)]), (.int .u8 target)]) Try.call39 (Opd.t rfl) (.cons (Opd.t rfl) (.cons (Opd.t rfl) .nil)) rfl rfl (dfa_to_c1_ok (hs.re 1 [0] rfl) hr12) ?_
    rintro _ w13 ⟨rfl, hs⟩
    replace hs := Sat.n1 (Γ := Φ) hs rfl
    refine WL_op (Run_ltI (Opd.t rfl) Opd.c) rfl rfl rfl rfl <| ?_
    refine WL_nil ?_
    refine At_then ?_
    refine WC_cond (Opd.t rfl) (fun hc14 => ?_) (fun hc14 => ?_)
    ·
      replace hm := bif_t hc14 hm
      refine WC_region ?_
      refine WL_op (Run_move (Opd.t rfl)) rfl rfl rfl rfl <| WL_op (Run_add (Opd.t rfl) Opd.c) rfl rfl rfl rfl <| WL_op (Run_assign (Opd.t rfl)) rfl rfl rfl rfl <| ?_
      refine WL_nil ?_
      refine At_blk_normal ?_
      exact At_again ((IntKind.i64.wrap ((IntKind.i64.wrap (shrI .u64 (IntKind.u64.wrap (IntKind.i64.wrap (i5 + j6))) 1)) + 1)), j6) () hm (hs.re 1 [0] rfl) rfl
    ·
      replace hm := bif_f hc14 hm
      refine WC_region ?_
      refine WL_op (Run_move (Opd.t rfl)) rfl rfl rfl rfl <| WL_op (Run_assign (Opd.t rfl)) rfl rfl rfl rfl <| ?_
      refine WL_nil ?_
      refine At_blk_normal ?_
      exact At_again (i5, (IntKind.i64.wrap (shrI .u64 (IntKind.u64.wrap (IntKind.i64.wrap (i5 + j6))) 1))) () hm (hs.re 1 [0] rfl) rfl
  ·
    replace hm := bif_f hc8 hm
    refine WC_exit ?_
    refine At_then_exit <| At_then_exit <| At_blk_here <| ?_
    refine At_then ?_
    refine WC_seq ?_
    refine WC_region ?_
    refine WL_op (Run_move (Opd.t rfl)) rfl rfl rfl rfl <| WL_op (Run_move (Opd.t rfl)) rfl rfl rfl rfl <| WL_op (Run_move (Opd.t rfl)) rfl rfl rfl rfl <| ?_
    obtain ⟨b15, e16, hm⟩ := letv_some hm
    refine WL_op (Run.eqB (Run_ltI (Opd.t rfl) (Opd.t rfl)) e16) rfl rfl rfl rfl <| WL_op (Run_move (Opd.t rfl)) rfl rfl rfl rfl <| WL_opG rfl rfl rfl rfl guard_pos (Run_move (Opd.t rfl)) rfl rfl rfl <| WL_opG rfl rfl rfl rfl guard_pos (Run_move (Opd.t rfl)) rfl rfl rfl <| WL_opG rfl rfl rfl rfl guard_pos (Run_move (Opd.t rfl)) rfl rfl rfl <| ?_
    obtain ⟨e17, he18, -, hm⟩ := callG_some hm
    refine WL_opG rfl rfl rfl rfl guard_pos (Run_idxAddr (p := (elA (sl v1) i5 2)) Try.underlying58 ti69 (Opd.g rfl id) (Opd.g rfl id) (fun hg => (SRd.atA (A := (RP (RI .u8) (RI .i64))) (v := (sl v1)) (hs.sl (i := 0) rfl) (he18 hg)).1)) rfl rfl rfl <| WL_opG rfl rfl rfl rfl guard_pos (Run_loadA (vs := [(.int .u8 e17.1), (.int .i64 e17.2)]) Try.underlying69 rfl ti69 (Opd.g rfl id) (fun hg => (SRd.cellsF (A := (RP (RI .u8) (RI .i64))) (v := (sl v1)) (hs.sl (i := 0) rfl) (he18 hg) (fun _ h => openT69 h)).sub 0 rfl) rfl) rfl rfl rfl <| WL_opG rfl rfl rfl rfl guard_pos (Run_move (Opd.t rfl)) rfl rfl rfl <| ?_
    obtain ⟨r19, hr20, -, hm⟩ := callG_some hm
    refine WL_callG rfl rfl rfl guard_pos (f := 39) (first := []) (cap := []) (xs := [(.tmp 44), (.tmp 45)]) (vs := [(.agg #[(.int .u8 e17.1), (.int .i64 e17.2)]), (.int .u8 target)]) (args := [(.agg #[(.int .u8 e17.1), (.int .i64 e17.2)]), (.int .u8 target)]) Try.call39 (Opd.g rfl id) (.cons (Opd.g rfl id) (.cons (Opd.g rfl id) .nil)) rfl rfl (fun hg => dfa_to_c1_ok (hs.re 1 [0] rfl) (hr20 hg)) ?_
    intro v22 w21 hv23 hz24
    replace hs := Sat.ofG (fun hg => (hv23 hg).2.re 1 [0] rfl) hz24 hs
    refine WL_sub1 (v := (.int .i64 r19)) (fun hg => (hv23 hg).1) ?_
    replace hs := Sat.n1 (Γ := Φ) hs rfl
    obtain ⟨b25, e26, hm⟩ := letv_some hm
    refine WL_opG rfl rfl rfl rfl guard_pos (Run.eqB (Run_eqI (Opd.g rfl id) Opd.c) e26) rfl rfl rfl <| ?_
    obtain ⟨b27, e28, hm⟩ := letv_some hm
    refine WL_op (Run.eqB (Run_and (Opd.t rfl) (Opd.g rfl id)) e28) rfl rfl rfl rfl <| WL_op (Run_assign (Opd.t rfl)) rfl rfl rfl rfl <| WL_op (Run_assign (Opd.t rfl)) rfl rfl rfl rfl <| ?_
    refine WL_nil ?_
    refine At_then ?_
    refine WC_ret ?_
    refine At_r2 rfl (ResIs.t rfl) (ResIs.t rfl) ?_
    cases hm
    exact ⟨rfl, (hs.re 1 [] rfl)⟩

set_option maxRecDepth 100000 in
set_option maxHeartbeats 4000000 in
theorem dfa_to_ok {Φ : Ctx} {w : World} {d : (Int × (List ((List (Int × Int)) × Int)) × Int × Int × (List Int))} {at_ : Int} {by_ : Int} {v1 : SLV} {v3 : SLV} {r : Int} (hs : Sat (imm (RSl (RP (RSl (RP (RI .u8) (RI .i64))) (RI .i64))) [sl v1] d.2.1 :: imm (RSl (RI .i64)) [sl v3] d.2.2.2.2 :: Φ) w) (hm : dfa_to d at_ by_ = some r) :
    CallsR Try.prog 31 [(.agg #[(.int .i64 d.1), (sl v1), (.int .i64 d.2.2.1), (.int .i64 d.2.2.2.1), (sl v3)]), (.int .i64 at_), (.int .u8 by_)] w (fun v w' => v = (.int .i64 r) ∧ Sat (Φ) w') := by
  refine CallsX_enter Try.func31 rfl Try.ntmps31 rfl ?_
  unfold dfa_to at hm
  refine WC_seq ?_
  refine WC_region ?_
  refine WS_box (zs := [(.int .i64 d.1), (sl v1), (.int .i64 d.2.2.1), (.int .i64 d.2.2.2.1), (sl v3)]) hs (Opd.t rfl) rfl rfl ?_
  intro b3 w4 hs
  replace hs := Sat.n3 (Γ := Φ) hs rfl
  refine WL_op (Run_assign Opd.c) rfl rfl rfl rfl <| ?_
  refine WL_nil ?_
  refine At_then ?_
  refine WC_seq ?_
  refine WC_seq ?_
  refine WC_region ?_
  refine WL_op (Run_move (Opd.t rfl)) rfl rfl rfl rfl <| WL_op (Run_eqI (Opd.t rfl) Opd.c) rfl rfl rfl rfl <| ?_
  refine WL_nil ?_
  refine At_then ?_
  refine WC_cond (Opd.t rfl) (fun hc5 => ?_) (fun hc5 => ?_)
  ·
    replace hm := bif_t hc5 hm
    refine WC_seq ?_
    refine WC_region ?_
    refine WL_op (Run_assign Opd.c) rfl rfl rfl rfl <| ?_
    refine WL_nil ?_
    refine At_then ?_
    refine WC_ret ?_
    refine At_then_ret <| ?_
    refine At_r1 rfl (ResIs.t rfl) ?_
    cases hm
    exact ⟨rfl, (hs.re 3 [] rfl)⟩
  ·
    replace hm := bif_f hc5 hm
    refine WC_skip ?_
    refine At_then ?_
    refine WC_seq ?_
    refine WC_region ?_
    refine WL_op (Run_fieldAddr fo29_1 (Opd.t rfl)) rfl rfl rfl rfl <| WL_op (Run_load1 (v := (sl v1)) Try.underlying26 rfl (Opd.t rfl) (fun _ => (hs.box (i := 0) rfl).part 1 rfl)) rfl rfl rfl rfl <| WL_op (Run_move (Opd.t rfl)) rfl rfl rfl rfl <| ?_
    obtain ⟨e6, he7, hm⟩ := bind_some' hm
    obtain ⟨v8, hC9, hN10, hR11⟩ := cellsM60 (g := true) (fun hg => (hs.sl (i := 1) rfl)) (fun hg => he7)
    replace hs := hs.addL [elem true (elA (sl v1) at_ 2) [(sl v8), (.int .i64 e6.2)], imm (RSl (RP (RI .u8) (RI .i64))) [sl v8] e6.1] rfl ⟨fun hg => ⟨hN10 hg, hC9 hg⟩, ⟨_, rfl, hR11 rfl⟩, trivial⟩
    replace hs := Sat.n5 (Γ := Φ) hs rfl
    refine WL_op (Run_idxAddr (p := (elA (sl v1) at_ 2)) Try.underlying26 ti60 (Opd.t rfl) (Opd.t rfl) (fun hg => (SRd.atA (A := (RP (RSl (RP (RI .u8) (RI .i64))) (RI .i64))) (v := (sl v1)) (hs.sl (i := 3) rfl) he7).1)) rfl rfl rfl rfl <| WL_op (Run_fieldAddr fo60_0 (Opd.t rfl)) rfl rfl rfl rfl <| WL_op (Run_load1 (v := (sl v8)) Try.underlying58 rfl (Opd.t rfl) (fun hg => (((hs.elem (i := 0) rfl) hg).sub (us := [(sl v8)]) 0 rfl).sub 0 rfl)) rfl rfl rfl rfl <| WL_op (Run_move (Opd.t rfl)) rfl rfl rfl rfl <| ?_
    obtain ⟨r12, hr13, hm⟩ := bind_some' hm
    refine WL_call (f := 34) (first := []) (cap := []) (xs := [(.tmp 17), (.tmp 18), (.func 39)]) (vs := [(sl v8), (.int .u8 by_), (.func (.func 39) #[] #[])]) (args := [(sl v8), (.int .u8 by_), (.func (.func 39) #[] #[])]) Try.call34 Opd.f (.cons (Opd.t rfl) (.cons (Opd.t rfl) (.cons Opd.f .nil))) rfl rfl (slices_BinarySearchFunc_api_Edge_api_Edge_byte_ok (hs.re 5 [1, 0, 1, 2, 3, 4] rfl) hr13) ?_
    rintro _ w14 ⟨rfl, hs⟩
    replace hs := Sat.n5 (Γ := Φ) hs rfl
    refine WL_op (Run_move (Opd.t rfl)) rfl rfl rfl rfl <| WL_op (Run_extract (vs := [(.int .i64 r12.1), (.bool r12.2)]) (Opd.t rfl) rfl) rfl rfl rfl rfl <| WL_op (Run_extract (vs := [(.int .i64 r12.1), (.bool r12.2)]) (Opd.t rfl) rfl) rfl rfl rfl rfl <| WL_op (Run_assign (Opd.t rfl)) rfl rfl rfl rfl <| WL_op (Run_assign (Opd.t rfl)) rfl rfl rfl rfl <| ?_
    refine WL_nil ?_
    refine At_then ?_
    refine WC_seq ?_
    refine WC_seq ?_
    refine WC_region ?_
    refine WL_op (Run_move (Opd.t rfl)) rfl rfl rfl rfl <| WL_op (Run_notB (Opd.t rfl)) rfl rfl rfl rfl <| ?_
    refine WL_nil ?_
    refine At_then ?_
    refine WC_cond (Opd.t rfl) (fun hc15 => ?_) (fun hc15 => ?_)
    ·
      replace hm := bif_t hc15 hm
      refine WC_seq ?_
      refine WC_region ?_
      refine WL_op (Run_assign Opd.c) rfl rfl rfl rfl <| ?_
      refine WL_nil ?_
      refine At_then ?_
      refine WC_ret ?_
      refine At_then_ret <| ?_
      refine At_r1 rfl (ResIs.t rfl) ?_
      cases hm
      exact ⟨rfl, (hs.re 5 [] rfl)⟩
    ·
      replace hm := bif_f hc15 hm
      refine WC_skip ?_
      refine At_then ?_
      refine WC_seq ?_
      refine WC_region ?_
      refine WL_op (Run_fieldAddr fo29_1 (Opd.t rfl)) rfl rfl rfl rfl <| WL_op (Run_load1 (v := (sl v1)) Try.underlying26 rfl (Opd.t rfl) (fun _ => (hs.box (i := 2) rfl).part 1 rfl)) rfl rfl rfl rfl <| WL_op (Run_move (Opd.t rfl)) rfl rfl rfl rfl <| ?_
      obtain ⟨e16, he17, hm⟩ := bind_some' hm
      obtain ⟨v18, hC19, hN20, hR21⟩ := cellsM60 (g := true) (fun hg => (hs.sl (i := 3) rfl)) (fun hg => he17)
      replace hs := hs.addL [elem true (elA (sl v1) at_ 2) [(sl v18), (.int .i64 e16.2)], imm (RSl (RP (RI .u8) (RI .i64))) [sl v18] e16.1] rfl ⟨fun hg => ⟨hN20 hg, hC19 hg⟩, ⟨_, rfl, hR21 rfl⟩, trivial⟩
      replace hs := Sat.n7 (Γ := Φ) hs rfl
      refine WL_op (Run_idxAddr (p := (elA (sl v1) at_ 2)) Try.underlying26 ti60 (Opd.t rfl) (Opd.t rfl) (fun hg => (SRd.atA (A := (RP (RSl (RP (RI .u8) (RI .i64))) (RI .i64))) (v := (sl v1)) (hs.sl (i := 5) rfl) he17).1)) rfl rfl rfl rfl <| WL_op (Run_fieldAddr fo60_0 (Opd.t rfl)) rfl rfl rfl rfl <| WL_op (Run_load1 (v := (sl v18)) Try.underlying58 rfl (Opd.t rfl) (fun hg => (((hs.elem (i := 0) rfl) hg).sub (us := [(sl v18)]) 0 rfl).sub 0 rfl)) rfl rfl rfl rfl <| WL_op (Run_move (Opd.t rfl)) rfl rfl rfl rfl <| ?_
      obtain ⟨e22, he23, hm⟩ := bind_some' hm
      refine WL_op (Run_idxAddr (p := (elA (sl v18) r12.1 2)) Try.underlying58 ti69 (Opd.t rfl) (Opd.t rfl) (fun hg => (SRd.atA (A := (RP (RI .u8) (RI .i64))) (v := (sl v18)) (hs.sl (i := 1) rfl) he23).1)) rfl rfl rfl rfl <| WL_op (Run_fieldAddr fo69_1 (Opd.t rfl)) rfl rfl rfl rfl <| WL_op (Run_load1 (v := (.int .i64 e22.2)) Try.underlying3 rfl (Opd.t rfl) (fun hg => ((SRd.cellsF (A := (RP (RI .u8) (RI .i64))) (v := (sl v18)) (hs.sl (i := 1) rfl) he23 (fun _ h => openT69 h)).sub (us := [(.int .i64 e22.2)]) 1 rfl).sub 0 rfl)) rfl rfl rfl rfl <| WL_op (Run_assign (Opd.t rfl)) rfl rfl rfl rfl <| ?_
      refine WL_nil ?_
      refine At_then ?_
      refine WC_ret ?_
      refine At_r1 rfl (ResIs.t rfl) ?_
      cases hm
      exact ⟨rfl, (hs.re 7 [] rfl)⟩

set_option maxRecDepth 100000 in
set_option maxHeartbeats 4000000 in
theorem dfa_Has_ok {Φ : Ctx} {w : World} {d : (Int × (List ((List (Int × Int)) × Int)) × Int × Int × (List Int))} {w5 : (List Int)} {v1 : SLV} {v3 : SLV} {v6 : SLV} {r : Bool} (hs : Sat (imm (RSl (RP (RSl (RP (RI .u8) (RI .i64))) (RI .i64))) [sl v1] d.2.1 :: imm (RSl (RI .i64)) [sl v3] d.2.2.2.2 :: imm (RSl (RI .u8)) [sl v6] w5 :: Φ) w) (hm : dfa_Has d w5 = some r) :
    CallsR Try.prog 20 [(.agg #[(.int .i64 d.1), (sl v1), (.int .i64 d.2.2.1), (.int .i64 d.2.2.2.1), (sl v3)]), (sl v6)] w (fun v w' => v = (.bool r) ∧ Sat (Φ) w') := by
  refine CallsX_enter Try.func20 rfl Try.ntmps20 rfl ?_
  unfold dfa_Has at hm
  refine WC_seq ?_
  refine WC_region ?_
  refine WS_box (zs := [(.int .i64 d.1), (sl v1), (.int .i64 d.2.2.1), (.int .i64 d.2.2.2.1), (sl v3)]) hs (Opd.t rfl) rfl rfl ?_
  intro b3 w4 hs
  replace hs := Sat.n4 (Γ := Φ) hs rfl
  refine WL_op (Run_assign Opd.c) rfl rfl rfl rfl <| ?_
  refine WL_nil ?_
  refine At_then ?_
  refine WC_seq ?_
  refine WC_region ?_
  refine WL_op (Run_fieldAddr fo29_2 (Opd.t rfl)) rfl rfl rfl rfl <| WL_op (Run_load1 (v := (.int .i64 d.2.2.1)) Try.underlying3 rfl (Opd.t rfl) (fun _ => (hs.box (i := 0) rfl).part 2 rfl)) rfl rfl rfl rfl <| WL_op (Run_assign (Opd.t rfl)) rfl rfl rfl rfl <| ?_
  refine WL_nil ?_
  refine At_then ?_
  refine WC_seq ?_
  refine WC_seq ?_
  refine WC_region ?_
  refine WL_op (Run_move (Opd.t rfl)) rfl rfl rfl rfl <| WL_op (Run_lenSlG Try.underlying23 (Opd.t rfl) (fun hg => (hs.sl (i := 3) rfl).len)) rfl rfl rfl rfl <| WL_op (Run_move Opd.c) rfl rfl rfl rfl <| ?_
  refine WL_nil ?_
  refine At_then ?_
  refine WC_block ?_
  refine WC_loop (σ := Int × Int) (γ := Unit) (F := (dfa_Has_L1 d w5)) (N := FUEL) (s0 := (d.2.2.1, 0)) (r := r) (fun ⟨at7, t8⟩ (_ : Unit) w6 => Sat (imm (RSl (RI .u8)) [sl v6] w5 :: box b3 29 [(.int .i64 d.1), (sl v1), (.int .i64 d.2.2.1), (.int .i64 d.2.2.2.1), (sl v3)] :: imm (RSl (RP (RSl (RP (RI .u8) (RI .i64))) (RI .i64))) [sl v1] d.2.1 :: imm (RSl (RI .i64)) [sl v3] d.2.2.2.2 :: Φ) w6) (fun ⟨at7, t8⟩ (_ : Unit) => [(1, true, (sl v6)), (2, true, (.pointer (some ⟨b3, 0, none⟩))), (5, true, (.int .i64 at7)), (10, true, (sl v6)), (11, true, (.int .i64 (List.length w5 : Int))), (12, true, (.int .i64 t8))]) hm () (hs.re 4 [3, 0, 1, 2] rfl) rfl ?_
  rintro again9 ⟨at7, t8⟩ _ w6 hm hs
  unfold dfa_Has_L1 at hm
  dsimp only at hm
  refine WC_seq ?_
  refine WC_region ?_
  refine WL_op (Run_ltI (Opd.t rfl) (Opd.t rfl)) rfl rfl rfl rfl <| ?_
  refine WL_nil ?_
  refine At_then ?_
  refine WC_seq ?_
  refine WC_cond (Opd.t rfl) (fun hc10 => ?_) (fun hc10 => ?_)
  ·
    replace hm := bif_t hc10 hm
    refine WC_skip ?_
    refine At_then ?_
    refine WC_seq ?_
    refine WC_block ?_
    refine WC_seq ?_
    refine WC_region ?_
    obtain ⟨e11, he12, hm⟩ := bind_some' hm
    refine WL_op (Run_idxAddr (p := (elA (sl v6) t8 1)) Try.underlying23 ti5 (Opd.t rfl) (Opd.t rfl) (fun hg => (SRd.atA (A := (RI .u8)) (v := (sl v6)) (hs.sl (i := 0) rfl) he12).1)) rfl rfl rfl rfl <| WL_op (Run_load1 (v := (.int .u8 e11)) Try.underlying5 rfl (Opd.t rfl) (fun hg => (SRd.cellsF (A := (RI .u8)) (v := (sl v6)) (hs.sl (i := 0) rfl) he12 (fun _ h => openT5 h)).sub 0 rfl)) rfl rfl rfl rfl <| WL_op (Run_assign (Opd.t rfl)) rfl rfl rfl rfl <| ?_
    refine WL_nil ?_
    refine At_then ?_
    refine WC_region ?_
    refine WL_op (Run_loadA (vs := [(.int .i64 d.1), (sl v1), (.int .i64 d.2.2.1), (.int .i64 d.2.2.2.1), (sl v3)]) Try.underlying29 rfl ti29 (Opd.t rfl) (fun _ => (hs.box (i := 1) rfl).part 0 rfl) rfl) rfl rfl rfl rfl <| WL_op (Run_move (Opd.t rfl)) rfl rfl rfl rfl <| WL_op (Run_move (Opd.t rfl)) rfl rfl rfl rfl <| ?_
    obtain ⟨r13, hr14, hm⟩ := bind_some' hm
    refine WL_call (f := 31) (first := []) (cap := []) (xs := [(.tmp 16), (.tmp 17), (.tmp 18)]) (vs := [(.agg #[(.int .i64 d.1), (sl v1), (.int .i64 d.2.2.1), (.int .i64 d.2.2.2.1), (sl v3)]), (.int .i64 at7), (.int .u8 e11)]) (args := [(.agg #[(.int .i64 d.1), (sl v1), (.int .i64 d.2.2.1), (.int .i64 d.2.2.2.1), (sl v3)]), (.int .i64 at7), (.int .u8 e11)]) Try.call31 Opd.f (.cons (Opd.t rfl) (.cons (Opd.t rfl) (.cons (Opd.t rfl) .nil))) rfl rfl (dfa_to_ok (hs.re 4 [2, 3, 0, 1, 2, 3] rfl) hr14) ?_
    rintro _ w15 ⟨rfl, hs⟩
    replace hs := Sat.n4 (Γ := Φ) hs rfl
    refine WL_op (Run_assign (Opd.t rfl)) rfl rfl rfl rfl <| ?_
    refine WL_nil ?_
    refine At_blk_normal ?_
    refine At_then ?_
    refine WC_region ?_
    refine WL_op (Run_add (Opd.t rfl) Opd.c) rfl rfl rfl rfl <| WL_op (Run_move (Opd.t rfl)) rfl rfl rfl rfl <| ?_
    refine WL_nil ?_
    exact At_again (r13, (IntKind.i64.wrap (t8 + 1))) () hm (hs.re 4 [0, 1, 2, 3] rfl) rfl
  ·
    replace hm := bif_f hc10 hm
    refine WC_exit ?_
    refine At_then_exit <| At_then_exit <| At_blk_here <| ?_
    refine At_then ?_
    refine WC_seq ?_
    refine WC_region ?_
    refine WL_op (Run_move (Opd.t rfl)) rfl rfl rfl rfl <| WL_op (Run_lenSlG Try.underlying23 (Opd.t rfl) (fun hg => (hs.sl (i := 0) rfl).len)) rfl rfl rfl rfl <| WL_op (Run_fieldAddr fo29_0 (Opd.t rfl)) rfl rfl rfl rfl <| WL_op (Run_load1 (v := (.int .i64 d.1)) Try.underlying3 rfl (Opd.t rfl) (fun _ => (hs.box (i := 1) rfl).part 0 rfl)) rfl rfl rfl rfl <| ?_
    obtain ⟨b16, e17, hm⟩ := letv_some hm
    refine WL_op (Run.eqB (Run_eqI (Opd.t rfl) (Opd.t rfl)) e17) rfl rfl rfl rfl <| WL_op (Run_move (Opd.t rfl)) rfl rfl rfl rfl <| WL_opG rfl rfl rfl rfl guard_pos (Run_fieldAddr fo29_0 (Opd.t rfl)) rfl rfl rfl <| WL_opG rfl rfl rfl rfl guard_pos (Run_load1 (v := (.int .i64 d.1)) Try.underlying3 rfl (Opd.g rfl id) (fun _ => (hs.box (i := 1) rfl).part 0 rfl)) rfl rfl rfl <| ?_
    obtain ⟨b18, e19, hm⟩ := letv_some hm
    refine WL_opG rfl rfl rfl rfl guard_pos (Run.eqB (Run_gtI (Opd.g rfl id) Opd.c) e19) rfl rfl rfl <| ?_
    obtain ⟨b20, e21, hm⟩ := letv_some hm
    refine WL_op (Run.eqB (Run_and (Opd.t rfl) (Opd.g rfl id)) e21) rfl rfl rfl rfl <| WL_op (Run_move (Opd.t rfl)) rfl rfl rfl rfl <| WL_opG rfl rfl rfl rfl guard_pos (Run_move (Opd.t rfl)) rfl rfl rfl <| ?_
    obtain ⟨b22, e23, hm⟩ := letv_some hm
    refine WL_opG rfl rfl rfl rfl guard_pos (Run.eqB (Run_neI (Opd.g rfl id) Opd.c) e23) rfl rfl rfl <| ?_
    obtain ⟨b24, e25, hm⟩ := letv_some hm
    refine WL_op (Run.eqB (Run_and (Opd.t rfl) (Opd.g rfl id)) e25) rfl rfl rfl rfl <| WL_op (Run_assign (Opd.t rfl)) rfl rfl rfl rfl <| ?_
    refine WL_nil ?_
    refine At_then ?_
    refine WC_ret ?_
    refine At_r1 rfl (ResIs.t rfl) ?_
    cases hm
    exact ⟨rfl, (hs.re 4 [] rfl)⟩

set_option maxRecDepth 100000 in
set_option maxHeartbeats 4000000 in
theorem slices_Clone_api_Node_api_Node_ok {Φ : Ctx} {w : World} {s : (List ((List (Int × Int)) × Int))} {v1 : SLV} {r : (List ((List (Int × Int)) × Int))} (hs : Sat (imm (RSl (RP (RSl (RP (RI .u8) (RI .i64))) (RI .i64))) [sl v1] s :: Φ) w) (hm : slices_Clone_api_Node_api_Node s = some r) :
    CallsR Try.prog 23 [(sl v1)] w (fun v w' => ∃ v3 : SLV, ∃ R4 : List Nat, v = (sl v3) ∧ Sat (osl (RP (RSl (RP (RI .u8) (RI .i64))) (RI .i64)) 60 (sl v3) r R4 :: Φ) w') := by
  refine CallsX_enter Try.func23 rfl Try.ntmps23 rfl ?_
  unfold slices_Clone_api_Node_api_Node at hm
  refine WC_seq ?_
  refine WC_region ?_
  refine WL_op (Run_assign Opd.c) rfl rfl rfl rfl <| ?_
  refine WL_nil ?_
  refine At_then ?_
  refine WC_seq ?_
  refine WC_seq ?_
  refine WC_region ?_
  refine WL_op (Run_move (Opd.t rfl)) rfl rfl rfl rfl <| ?_
  rcases srd_nilcase (hs.sl (i := 0) rfl) with ⟨rfl, rfl⟩ | hv5
  ·
    replace hm : (some []) = some r := hm
    refine WL_op (Run.eqB (Run_eqNilSl Try.underlying26 (Opd.t rfl) ((hs.sl (i := 0) rfl).len) Opd.c) rfl) rfl rfl rfl rfl <| ?_
    refine WL_nil ?_
    refine At_then ?_
    refine WC_cond (Opd.t rfl) (fun _ => ?_) (fun h => by cases h)
    refine WC_seq ?_
    refine WC_region ?_
    refine WL_op (Run_assign Opd.c) rfl rfl rfl rfl <| ?_
    refine WL_nil ?_
    refine At_then ?_
    refine WC_ret ?_
    refine At_then_ret <| ?_
    refine At_r1 rfl (ResIs.t rfl) ?_
    replace hs := hs.addNil (RP (RSl (RP (RI .u8) (RI .i64))) (RI .i64)) 60
    cases hm
    exact ⟨(none, 0, 0), [], rfl, (hs.re 2 [0] rfl)⟩
  ·
    refine WL_op (Run.eqB (Run_eqNilSl Try.underlying26 (Opd.t rfl) ((hs.sl (i := 0) rfl).len) Opd.c) hv5) rfl rfl rfl rfl <| ?_
    refine WL_nil ?_
    refine At_then ?_
    refine WC_cond (Opd.t rfl) (fun h => by cases h) (fun _ => ?_)
    refine WC_skip ?_
    refine At_then ?_
    refine WC_seq ?_
    refine WC_region ?_
    refine WS_lit0 (A := (RP (RSl (RP (RI .u8) (RI .i64))) (RI .i64))) hs Try.underlying26 ti60 rfl ?_
    intro b6 w7 hs
    replace hs := Sat.n2 (Γ := Φ) hs rfl
    refine WL_op (Run_move (Opd.t rfl)) rfl rfl rfl rfl <| ?_
    obtain ⟨k8, hm⟩ := chk_some hm
    refine WS_append (A := (RP (RSl (RP (RI .u8) (RI .i64))) (RI .i64))) hs 0 rfl Try.underlying26 ti60 rfl rfl (Opd.t rfl) (Opd.t rfl) (hs.sl (i := 1) rfl) k8 rfl ?_
    intro v9 R10 w11 hs
    replace hs := Sat.n2 (Γ := Φ) hs rfl
    refine WL_op (Run_assign (Opd.t rfl)) rfl rfl rfl rfl <| ?_
    refine WL_nil ?_
    refine At_then ?_
    refine WC_ret ?_
    refine At_r1 rfl (ResIs.t rfl) ?_
    cases hm
    exact ⟨v9, R10, rfl, (hs.re 2 [0] rfl)⟩

end Go.Proofs.Ytjappdgehmjomaa
