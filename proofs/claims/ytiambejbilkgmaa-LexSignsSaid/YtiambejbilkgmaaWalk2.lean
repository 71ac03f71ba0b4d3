/- Printed by a program: the walks. -/
import Derived.Test.YtiambejbilkgmaaWalk1
namespace Go.Proofs.Ytiambejbilkgmaa
open Go.Proofs

theorem lex_digit_ok (w0 : World) {c0 : Int} {r : Bool} (hm : lex_digit c0 = some r) :
    CallsR Try.prog 24 [(.int .u8 c0)] w0 (fun v w' => Ext w0 w' ∧ v = (.bool r)) := by
  obtain ⟨M0, hM⟩ : ∃ M0 : Nat → Prop, ∀ b, M0 b → b < w0.heap.size := ⟨fun _ => False, fun _ h => h.elim⟩
  have hS : St w0 [] w0 := St.start w0 0
  refine CallsR_enter Try.func24 rfl Try.ntmps24 rfl ?_
  unfold lex_digit at hm
  refine WC_seq ?_
  refine WC_region ?_
  refine WL_op (Run_assign Opd.c) rfl rfl rfl <| ?_
  refine WL_nil ?_
  refine At_then ?_
  refine WC_seq ?_
  refine WC_region ?_
  obtain ⟨b1, e2, hm⟩ := letv_some hm
  obtain ⟨b3, e4, hm⟩ := letv_some hm
  obtain ⟨b5, e6, hm⟩ := letv_some hm
  refine WL_op (Run_move (Opd.t rfl)) rfl rfl rfl <| WL_op (Run.eqB (Run_geI (Opd.t rfl) Opd.c) e2) rfl rfl rfl <| WL_op (Run_move (Opd.t rfl)) rfl rfl rfl <| WL_opG rfl rfl rfl rfl guard_pos (Run_move (Opd.t rfl)) rfl rfl <| WL_opG rfl rfl rfl rfl guard_pos (Run.eqB (Run_leI (Opd.g rfl id) Opd.c) e4) rfl rfl <| WL_op (Run.eqB (Run_and (Opd.t rfl) (Opd.g rfl id)) e6) rfl rfl rfl <| WL_op (Run_assign (Opd.t rfl)) rfl rfl rfl <| ?_
  refine WL_nil ?_
  refine At_then ?_
  refine WC_ret ?_
  refine At_r1 rfl (ResIs.t rfl) ?_
  cases hm
  exact ⟨hS.toExt, rfl⟩

theorem lex_either_ok (w0 : World) {c0 : Int} {r : Bool} (hm : lex_either c0 = some r) :
    CallsR Try.prog 23 [(.int .u8 c0)] w0 (fun v w' => Ext w0 w' ∧ v = (.bool r)) := by
  obtain ⟨M0, hM⟩ : ∃ M0 : Nat → Prop, ∀ b, M0 b → b < w0.heap.size := ⟨fun _ => False, fun _ h => h.elim⟩
  have hS : St w0 [] w0 := St.start w0 0
  refine CallsR_enter Try.func23 rfl Try.ntmps23 rfl ?_
  unfold lex_either at hm
  refine WC_seq ?_
  refine WC_region ?_
  refine WL_op (Run_assign Opd.c) rfl rfl rfl <| ?_
  refine WL_nil ?_
  refine At_then ?_
  refine WC_seq ?_
  refine WC_region ?_
  refine WL_op (Run_move (Opd.t rfl)) rfl rfl rfl <| ?_
  obtain ⟨r1, hr2, hm⟩ := bind_some' hm
  refine WL_call (f := 22) (first := []) (cap := []) (xs := [(.tmp 3)]) (vs := [(.int .u8 c0)]) (args := [(.int .u8 c0)]) Try.call22 Opd.f (.cons (Opd.t rfl) .nil) rfl rfl (lex_letter_ok w0 hr2) ?_
  rintro _ w4 ⟨hx3, rfl⟩
  replace hS := hS.ext hx3
  refine WL_op (Run_move (Opd.t rfl)) rfl rfl rfl <| WL_opG rfl rfl rfl rfl guard_neg (Run_move (Opd.t rfl)) rfl rfl <| ?_
  obtain ⟨r5, hr6, -, hm⟩ := callG_some hm
  refine WL_callG rfl rfl rfl guard_neg (f := 24) (first := []) (cap := []) (xs := [(.tmp 6)]) (vs := [(.int .u8 c0)]) (args := [(.int .u8 c0)]) Try.call24 Opd.f (.cons (Opd.g rfl id) .nil) rfl rfl (fun hg => lex_digit_ok w4 (hr6 hg)) ?_
  intro v9 w8 hv10 hz11
  have hx7 : Ext w4 w8 := Ext.ofG (fun hg => (hv10 hg).1) hz11
  replace hS := hS.ext hx7
  refine WL_sub1 (v := (.bool r5)) (fun hg => (hv10 hg).2) ?_
  obtain ⟨b12, e13, hm⟩ := letv_some hm
  refine WL_op (Run.eqB (Run_or (Opd.t rfl) (Opd.g rfl id)) e13) rfl rfl rfl <| WL_op (Run_assign (Opd.t rfl)) rfl rfl rfl <| ?_
  refine WL_nil ?_
  refine At_then ?_
  refine WC_ret ?_
  refine At_r1 rfl (ResIs.t rfl) ?_
  cases hm
  exact ⟨hS.toExt, rfl⟩

theorem lex_run__lex_either_ok (w0 : World) {text0 : Str} {r : Str} (hm : lex_run__lex_either text0 = some r) :
    CallsR Try.prog 18 [(S text0), (.func (.func 23) #[] #[])] w0 (fun v w' => Ext w0 w' ∧ v = (S r)) := by
  obtain ⟨M0, hM⟩ : ∃ M0 : Nat → Prop, ∀ b, M0 b → b < w0.heap.size := ⟨fun _ => False, fun _ h => h.elim⟩
  have hS : St w0 [] w0 := St.start w0 0
  refine CallsR_enter Try.func18 rfl Try.ntmps18 rfl ?_
  unfold lex_run__lex_either at hm
  refine WC_seq ?_
  refine WC_region ?_
  refine WL_op (Run_assign Opd.c) rfl rfl rfl <| ?_
  refine WL_nil ?_
  refine At_then ?_
  refine WC_seq ?_
  refine WC_seq ?_
  refine WC_region ?_
  refine WL_op (Run_move (Opd.t rfl)) rfl rfl rfl <| WL_op (Run_lenS Try.underlying9 (Opd.t rfl)) rfl rfl rfl <| WL_op (Run_move Opd.c) rfl rfl rfl <| ?_
  refine WL_nil ?_
  refine At_then ?_
  refine WC_block ?_
  refine WC_loop (σ := Int) (γ := Unit) (F := (lex_run__lex_either_L1 text0)) (N := FUEL) (s0 := 0) (r := r) (fun t1 (_ : Unit) w2 => St w0 [] w2) (fun t1 (_ : Unit) => [(0, true, (S text0)), (1, true, (.func (.func 23) #[] #[])), (7, true, (.int .i64 (List.length text0 : Int))), (8, true, (.int .i64 t1))]) hm () hS rfl ?_
  rintro again3 t1 _ w2 hm hS
  unfold lex_run__lex_either_L1 at hm
  refine WC_seq ?_
  refine WC_region ?_
  refine WL_op (Run_ltI (Opd.t rfl) (Opd.t rfl)) rfl rfl rfl <| ?_
  refine WL_nil ?_
  refine At_then ?_
  refine WC_seq ?_
  refine WC_cond (Opd.t rfl) (fun hc4 => ?_) (fun hc4 => ?_)
  ·
    replace hm := bif_t hc4 hm
    refine WC_skip ?_
    refine At_then ?_
    refine WC_seq ?_
    refine WC_block ?_
    refine WC_seq ?_
    refine WC_region ?_
    refine WL_op (Run_move (Opd.t rfl)) rfl rfl rfl <| WL_op (Run_assign (Opd.t rfl)) rfl rfl rfl <| ?_
    refine WL_nil ?_
    refine At_then ?_
    refine WC_seq ?_
    refine WC_region ?_
    obtain ⟨k5, hm⟩ := chk_some hm
    refine WL_op (Run_move (Opd.t rfl)) rfl rfl rfl <| WL_op (Run_move (Opd.t rfl)) rfl rfl rfl <| WL_op (Run_move (Opd.t rfl)) rfl rfl rfl <| WL_op (Run_idxS Try.underlying9 (Opd.t rfl) (Opd.t rfl) (fun _ => k5)) rfl rfl rfl <| ?_
    obtain ⟨r6, hr7, hm⟩ := bind_some' hm
    refine WL_call (f := 23) (first := []) (cap := []) (xs := [(.tmp 14)]) (vs := [(.int .u8 (byteAt text0 t1))]) (args := [(.int .u8 (byteAt text0 t1))]) Try.call23 (Opd.t rfl) (.cons (Opd.t rfl) .nil) rfl rfl (lex_either_ok w2 hr7) ?_
    rintro _ w9 ⟨hx8, rfl⟩
    replace hS := hS.ext hx8
    refine WL_op (Run_notB (Opd.t rfl)) rfl rfl rfl <| ?_
    refine WL_nil ?_
    refine At_then ?_
    refine WC_cond (Opd.t rfl) (fun hc10 => ?_) (fun hc10 => ?_)
    ·
      replace hm := bif_t hc10 hm
      refine WC_seq ?_
      refine WC_region ?_
      obtain ⟨k11, hm⟩ := chk_some hm
      refine WL_op (Run_move (Opd.t rfl)) rfl rfl rfl <| WL_op (Run_move (Opd.t rfl)) rfl rfl rfl <| WL_op (Run_cutS Try.underlying9 (Opd.t rfl) rfl ⟨_, (Opd.t rfl)⟩ (fun _ => k11)) rfl rfl rfl <| WL_op (Run_assign (Opd.t rfl)) rfl rfl rfl <| ?_
      refine WL_nil ?_
      refine At_then ?_
      refine WC_ret ?_
      refine At_blk_ret <| At_then_ret <| At_then_ret <| At_blk_ret <| At_then_ret <| ?_
      refine At_r1 rfl (ResIs.t rfl) ?_
      cases hm
      exact ⟨hS.toExt, rfl⟩
    ·
      replace hm := bif_f hc10 hm
      refine WC_skip ?_
      refine At_blk_normal ?_
      refine At_then ?_
      refine WC_region ?_
      refine WL_op (Run_add (Opd.t rfl) Opd.c) rfl rfl rfl <| WL_op (Run_move (Opd.t rfl)) rfl rfl rfl <| ?_
      refine WL_nil ?_
      exact At_again (IntKind.i64.wrap (t1 + 1)) () hm hS rfl
  ·
    replace hm := bif_f hc4 hm
    refine WC_exit ?_
    refine At_then_exit <| At_then_exit <| At_blk_here <| ?_
    refine At_then ?_
    refine WC_seq ?_
    refine WC_region ?_
    refine WL_op (Run_move (Opd.t rfl)) rfl rfl rfl <| WL_op (Run_assign (Opd.t rfl)) rfl rfl rfl <| ?_
    refine WL_nil ?_
    refine At_then ?_
    refine WC_ret ?_
    refine At_r1 rfl (ResIs.t rfl) ?_
    cases hm
    exact ⟨hS.toExt, rfl⟩

theorem lex_run__lex_digit_ok (w0 : World) {text0 : Str} {r : Str} (hm : lex_run__lex_digit text0 = some r) :
    CallsR Try.prog 18 [(S text0), (.func (.func 24) #[] #[])] w0 (fun v w' => Ext w0 w' ∧ v = (S r)) := by
  obtain ⟨M0, hM⟩ : ∃ M0 : Nat → Prop, ∀ b, M0 b → b < w0.heap.size := ⟨fun _ => False, fun _ h => h.elim⟩
  have hS : St w0 [] w0 := St.start w0 0
  refine CallsR_enter Try.func18 rfl Try.ntmps18 rfl ?_
  unfold lex_run__lex_digit at hm
  refine WC_seq ?_
  refine WC_region ?_
  refine WL_op (Run_assign Opd.c) rfl rfl rfl <| ?_
  refine WL_nil ?_
  refine At_then ?_
  refine WC_seq ?_
  refine WC_seq ?_
  refine WC_region ?_
  refine WL_op (Run_move (Opd.t rfl)) rfl rfl rfl <| WL_op (Run_lenS Try.underlying9 (Opd.t rfl)) rfl rfl rfl <| WL_op (Run_move Opd.c) rfl rfl rfl <| ?_
  refine WL_nil ?_
  refine At_then ?_
  refine WC_block ?_
  refine WC_loop (σ := Int) (γ := Unit) (F := (lex_run__lex_digit_L1 text0)) (N := FUEL) (s0 := 0) (r := r) (fun t1 (_ : Unit) w2 => St w0 [] w2) (fun t1 (_ : Unit) => [(0, true, (S text0)), (1, true, (.func (.func 24) #[] #[])), (7, true, (.int .i64 (List.length text0 : Int))), (8, true, (.int .i64 t1))]) hm () hS rfl ?_
  rintro again3 t1 _ w2 hm hS
  unfold lex_run__lex_digit_L1 at hm
  refine WC_seq ?_
  refine WC_region ?_
  refine WL_op (Run_ltI (Opd.t rfl) (Opd.t rfl)) rfl rfl rfl <| ?_
  refine WL_nil ?_
  refine At_then ?_
  refine WC_seq ?_
  refine WC_cond (Opd.t rfl) (fun hc4 => ?_) (fun hc4 => ?_)
  ·
    replace hm := bif_t hc4 hm
    refine WC_skip ?_
    refine At_then ?_
    refine WC_seq ?_
    refine WC_block ?_
    refine WC_seq ?_
    refine WC_region ?_
    refine WL_op (Run_move (Opd.t rfl)) rfl rfl rfl <| WL_op (Run_assign (Opd.t rfl)) rfl rfl rfl <| ?_
    refine WL_nil ?_
    refine At_then ?_
    refine WC_seq ?_
    refine WC_region ?_
    obtain ⟨k5, hm⟩ := chk_some hm
    refine WL_op (Run_move (Opd.t rfl)) rfl rfl rfl <| WL_op (Run_move (Opd.t rfl)) rfl rfl rfl <| WL_op (Run_move (Opd.t rfl)) rfl rfl rfl <| WL_op (Run_idxS Try.underlying9 (Opd.t rfl) (Opd.t rfl) (fun _ => k5)) rfl rfl rfl <| ?_
    obtain ⟨r6, hr7, hm⟩ := bind_some' hm
    refine WL_call (f := 24) (first := []) (cap := []) (xs := [(.tmp 14)]) (vs := [(.int .u8 (byteAt text0 t1))]) (args := [(.int .u8 (byteAt text0 t1))]) Try.call24 (Opd.t rfl) (.cons (Opd.t rfl) .nil) rfl rfl (lex_digit_ok w2 hr7) ?_
    rintro _ w9 ⟨hx8, rfl⟩
    replace hS := hS.ext hx8
    refine WL_op (Run_notB (Opd.t rfl)) rfl rfl rfl <| ?_
    refine WL_nil ?_
    refine At_then ?_
    refine WC_cond (Opd.t rfl) (fun hc10 => ?_) (fun hc10 => ?_)
    ·
      replace hm := bif_t hc10 hm
      refine WC_seq ?_
      refine WC_region ?_
      obtain ⟨k11, hm⟩ := chk_some hm
      refine WL_op (Run_move (Opd.t rfl)) rfl rfl rfl <| WL_op (Run_move (Opd.t rfl)) rfl rfl rfl <| WL_op (Run_cutS Try.underlying9 (Opd.t rfl) rfl ⟨_, (Opd.t rfl)⟩ (fun _ => k11)) rfl rfl rfl <| WL_op (Run_assign (Opd.t rfl)) rfl rfl rfl <| ?_
      refine WL_nil ?_
      refine At_then ?_
      refine WC_ret ?_
      refine At_blk_ret <| At_then_ret <| At_then_ret <| At_blk_ret <| At_then_ret <| ?_
      refine At_r1 rfl (ResIs.t rfl) ?_
      cases hm
      exact ⟨hS.toExt, rfl⟩
    ·
      replace hm := bif_f hc10 hm
      refine WC_skip ?_
      refine At_blk_normal ?_
      refine At_then ?_
      refine WC_region ?_
      refine WL_op (Run_add (Opd.t rfl) Opd.c) rfl rfl rfl <| WL_op (Run_move (Opd.t rfl)) rfl rfl rfl <| ?_
      refine WL_nil ?_
      exact At_again (IntKind.i64.wrap (t1 + 1)) () hm hS rfl
  ·
    replace hm := bif_f hc4 hm
    refine WC_exit ?_
    refine At_then_exit <| At_then_exit <| At_blk_here <| ?_
    refine At_then ?_
    refine WC_seq ?_
    refine WC_region ?_
    refine WL_op (Run_move (Opd.t rfl)) rfl rfl rfl <| WL_op (Run_assign (Opd.t rfl)) rfl rfl rfl <| ?_
    refine WL_nil ?_
    refine At_then ?_
    refine WC_ret ?_
    refine At_r1 rfl (ResIs.t rfl) ?_
    cases hm
    exact ⟨hS.toExt, rfl⟩

end Go.Proofs.Ytiambejbilkgmaa
