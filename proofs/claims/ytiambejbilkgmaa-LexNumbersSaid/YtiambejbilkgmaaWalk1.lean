/- Printed by a program: the walks. -/
import Derived.Test.YtiambejbilkgmaaTypes
namespace Go.Proofs.Ytiambejbilkgmaa
open Go.Proofs

theorem lex_blank_ok (w0 : World) {c0 : Int} {r : Bool} (hm : lex_blank c0 = some r) :
    CallsR Try.prog 17 [(.int .u8 c0)] w0 (fun v w' => Ext w0 w' ∧ v = (.bool r)) := by
  obtain ⟨M0, hM⟩ : ∃ M0 : Nat → Prop, ∀ b, M0 b → b < w0.heap.size := ⟨fun _ => False, fun _ h => h.elim⟩
  have hS : St w0 [] w0 := St.start w0 0
  refine CallsR_enter Try.func17 rfl Try.ntmps17 rfl ?_
  unfold lex_blank at hm
  refine WC_seq ?_
  refine WC_region ?_
  refine WL_op (Run_assign Opd.c) rfl rfl rfl <| ?_
  refine WL_nil ?_
  refine At_then ?_
  refine WC_seq ?_
  refine WC_region ?_
  obtain ⟨b1, e2, hm⟩ := letv_some hm
  obtain ⟨b3, e4, hm⟩ := letv_some hm
  obtain ⟨b5, e6, hm⟩ := letv_some hm
  refine WL_op (Run_move (Opd.t rfl)) rfl rfl rfl <| WL_op (Run.eqB (Run_eqI (Opd.t rfl) Opd.c) e2) rfl rfl rfl <| WL_op (Run_move (Opd.t rfl)) rfl rfl rfl <| WL_opG rfl rfl rfl rfl guard_neg (Run_move (Opd.t rfl)) rfl rfl <| WL_opG rfl rfl rfl rfl guard_neg (Run.eqB (Run_eqI (Opd.g rfl id) Opd.c) e4) rfl rfl <| WL_op (Run.eqB (Run_or (Opd.t rfl) (Opd.g rfl id)) e6) rfl rfl rfl <| WL_op (Run_move (Opd.t rfl)) rfl rfl rfl <| WL_opG rfl rfl rfl rfl guard_neg (Run_move (Opd.t rfl)) rfl rfl <| ?_
  obtain ⟨b7, e8, hm⟩ := letv_some hm
  obtain ⟨b9, e10, hm⟩ := letv_some hm
  obtain ⟨b11, e12, hm⟩ := letv_some hm
  obtain ⟨b13, e14, hm⟩ := letv_some hm
  refine WL_opG rfl rfl rfl rfl guard_neg (Run.eqB (Run_eqI (Opd.g rfl id) Opd.c) e8) rfl rfl <| WL_op (Run.eqB (Run_or (Opd.t rfl) (Opd.g rfl id)) e10) rfl rfl rfl <| WL_op (Run_move (Opd.t rfl)) rfl rfl rfl <| WL_opG rfl rfl rfl rfl guard_neg (Run_move (Opd.t rfl)) rfl rfl <| WL_opG rfl rfl rfl rfl guard_neg (Run.eqB (Run_eqI (Opd.g rfl id) Opd.c) e12) rfl rfl <| WL_op (Run.eqB (Run_or (Opd.t rfl) (Opd.g rfl id)) e14) rfl rfl rfl <| WL_op (Run_assign (Opd.t rfl)) rfl rfl rfl <| ?_
  refine WL_nil ?_
  refine At_then ?_
  refine WC_ret ?_
  refine At_r1 rfl (ResIs.t rfl) ?_
  cases hm
  exact ⟨hS.toExt, rfl⟩

theorem lex_Tokens_c1_ok (w0 : World) {c0 : Int} {r : Bool} (hm : lex_Tokens_c1 c0 = some r) :
    CallsR Try.prog 19 [(.int .u8 c0)] w0 (fun v w' => Ext w0 w' ∧ v = (.bool r)) := by
  obtain ⟨M0, hM⟩ : ∃ M0 : Nat → Prop, ∀ b, M0 b → b < w0.heap.size := ⟨fun _ => False, fun _ h => h.elim⟩
  have hS : St w0 [] w0 := St.start w0 0
  refine CallsR_enter Try.func19 rfl Try.ntmps19 rfl ?_
  unfold lex_Tokens_c1 at hm
  refine WC_seq ?_
  refine WC_region ?_
  refine WL_op (Run_assign Opd.c) rfl rfl rfl <| ?_
  refine WL_nil ?_
  refine At_then ?_
  refine WC_seq ?_
  refine WC_region ?_
  refine WL_op (Run_move (Opd.t rfl)) rfl rfl rfl <| WL_op (Run_neI (Opd.t rfl) Opd.c) rfl rfl rfl <| WL_op (Run_assign (Opd.t rfl)) rfl rfl rfl <| ?_
  refine WL_nil ?_
  refine At_then ?_
  refine WC_ret ?_
  refine At_r1 rfl (ResIs.t rfl) ?_
  cases hm
  exact ⟨hS.toExt, rfl⟩

theorem lex_run__lex_Tokens_c1_ok (w0 : World) {text0 : Str} {r : Str} (hm : lex_run__lex_Tokens_c1 text0 = some r) :
    CallsR Try.prog 18 [(S text0), (.func (.func 19) #[] #[])] w0 (fun v w' => Ext w0 w' ∧ v = (S r)) := by
  obtain ⟨M0, hM⟩ : ∃ M0 : Nat → Prop, ∀ b, M0 b → b < w0.heap.size := ⟨fun _ => False, fun _ h => h.elim⟩
  have hS : St w0 [] w0 := St.start w0 0
  refine CallsR_enter Try.func18 rfl Try.ntmps18 rfl ?_
  unfold lex_run__lex_Tokens_c1 at hm
  refine WC_seq ?_
  refine WC_region ?_
  refine WL_op (Run_assign Opd.c) rfl rfl rfl <| ?_
  refine WL_nil ?_
  refine At_then ?_
  refine WC_seq ?_
  refine WC_seq ?_
  refine WC_region ?_
  refine WL_op (Run_move (Opd.t rfl)) rfl rfl rfl <| WL_op (Run_lenS Try.underlying9 (Opd.t rfl)) rfl rfl rfl <| WL_op (Run_move Opd.c) rfl rfl rfl <| ?_
  refine WL_nil ?_
  refine At_then ?_
  refine WC_block ?_
  refine WC_loop (σ := Int) (γ := Unit) (F := (lex_run__lex_Tokens_c1_L1 text0)) (N := FUEL) (s0 := 0) (r := r) (fun t1 (_ : Unit) w2 => St w0 [] w2) (fun t1 (_ : Unit) => [(0, true, (S text0)), (1, true, (.func (.func 19) #[] #[])), (7, true, (.int .i64 (List.length text0 : Int))), (8, true, (.int .i64 t1))]) hm () hS rfl ?_
  rintro again3 t1 _ w2 hm hS
  unfold lex_run__lex_Tokens_c1_L1 at hm
  refine WC_seq ?_
  refine WC_region ?_
  refine WL_op (Run_ltI (Opd.t rfl) (Opd.t rfl)) rfl rfl rfl <| ?_
  refine WL_nil ?_
  refine At_then ?_
  refine WC_seq ?_
  refine WC_cond (Opd.t rfl) (fun hc4 => ?_) (fun hc4 => ?_)
  ·
    replace hm := bif_t hc4 hm
    refine WC_skip ?_
    refine At_then ?_
    refine WC_seq ?_
    refine WC_block ?_
    refine WC_seq ?_
    refine WC_region ?_
    refine WL_op (Run_move (Opd.t rfl)) rfl rfl rfl <| WL_op (Run_assign (Opd.t rfl)) rfl rfl rfl <| ?_
    refine WL_nil ?_
    refine At_then ?_
    refine WC_seq ?_
    refine WC_region ?_
    obtain ⟨k5, hm⟩ := chk_some hm
    refine WL_op (Run_move (Opd.t rfl)) rfl rfl rfl <| WL_op (Run_move (Opd.t rfl)) rfl rfl rfl <| WL_op (Run_move (Opd.t rfl)) rfl rfl rfl <| WL_op (Run_idxS Try.underlying9 (Opd.t rfl) (Opd.t rfl) (fun _ => k5)) rfl rfl rfl <| ?_
    obtain ⟨r6, hr7, hm⟩ := bind_some' hm
    refine WL_call (f := 19) (first := []) (cap := []) (xs := [(.tmp 14)]) (vs := [(.int .u8 (byteAt text0 t1))]) (args := [(.int .u8 (byteAt text0 t1))]) Try.call19 (Opd.t rfl) (.cons (Opd.t rfl) .nil) rfl rfl (lex_Tokens_c1_ok w2 hr7) ?_
    rintro _ w9 ⟨hx8, rfl⟩
    replace hS := hS.ext hx8
    refine WL_op (Run_notB (Opd.t rfl)) rfl rfl rfl <| ?_
    refine WL_nil ?_
    refine At_then ?_
    refine WC_cond (Opd.t rfl) (fun hc10 => ?_) (fun hc10 => ?_)
    ·
      replace hm := bif_t hc10 hm
      refine WC_seq ?_
      refine WC_region ?_
      obtain ⟨k11, hm⟩ := chk_some hm
      refine WL_op (Run_move (Opd.t rfl)) rfl rfl rfl <| WL_op (Run_move (Opd.t rfl)) rfl rfl rfl <| WL_op (Run_cutS Try.underlying9 (Opd.t rfl) rfl ⟨_, (Opd.t rfl)⟩ (fun _ => k11)) rfl rfl rfl <| WL_op (Run_assign (Opd.t rfl)) rfl rfl rfl <| ?_
      refine WL_nil ?_
      refine At_then ?_
      refine WC_ret ?_
      refine At_blk_ret <| At_then_ret <| At_then_ret <| At_blk_ret <| At_then_ret <| ?_
      refine At_r1 rfl (ResIs.t rfl) ?_
      cases hm
      exact ⟨hS.toExt, rfl⟩
    ·
      replace hm := bif_f hc10 hm
      refine WC_skip ?_
      refine At_blk_normal ?_
      refine At_then ?_
      refine WC_region ?_
      refine WL_op (Run_add (Opd.t rfl) Opd.c) rfl rfl rfl <| WL_op (Run_move (Opd.t rfl)) rfl rfl rfl <| ?_
      refine WL_nil ?_
      exact At_again (IntKind.i64.wrap (t1 + 1)) () hm hS rfl
  ·
    replace hm := bif_f hc4 hm
    refine WC_exit ?_
    refine At_then_exit <| At_then_exit <| At_blk_here <| ?_
    refine At_then ?_
    refine WC_seq ?_
    refine WC_region ?_
    refine WL_op (Run_move (Opd.t rfl)) rfl rfl rfl <| WL_op (Run_assign (Opd.t rfl)) rfl rfl rfl <| ?_
    refine WL_nil ?_
    refine At_then ?_
    refine WC_ret ?_
    refine At_r1 rfl (ResIs.t rfl) ?_
    cases hm
    exact ⟨hS.toExt, rfl⟩

theorem lex_letter_ok (w0 : World) {c0 : Int} {r : Bool} (hm : lex_letter c0 = some r) :
    CallsR Try.prog 22 [(.int .u8 c0)] w0 (fun v w' => Ext w0 w' ∧ v = (.bool r)) := by
  obtain ⟨M0, hM⟩ : ∃ M0 : Nat → Prop, ∀ b, M0 b → b < w0.heap.size := ⟨fun _ => False, fun _ h => h.elim⟩
  have hS : St w0 [] w0 := St.start w0 0
  refine CallsR_enter Try.func22 rfl Try.ntmps22 rfl ?_
  unfold lex_letter at hm
  refine WC_seq ?_
  refine WC_region ?_
  refine WL_op (Run_assign Opd.c) rfl rfl rfl <| ?_
  refine WL_nil ?_
  refine At_then ?_
  refine WC_seq ?_
  refine WC_region ?_
  obtain ⟨b1, e2, hm⟩ := letv_some hm
  obtain ⟨b3, e4, hm⟩ := letv_some hm
  obtain ⟨b5, e6, hm⟩ := letv_some hm
  refine WL_op (Run_move (Opd.t rfl)) rfl rfl rfl <| WL_op (Run.eqB (Run_geI (Opd.t rfl) Opd.c) e2) rfl rfl rfl <| WL_op (Run_move (Opd.t rfl)) rfl rfl rfl <| WL_opG rfl rfl rfl rfl guard_pos (Run_move (Opd.t rfl)) rfl rfl <| WL_opG rfl rfl rfl rfl guard_pos (Run.eqB (Run_leI (Opd.g rfl id) Opd.c) e4) rfl rfl <| WL_op (Run.eqB (Run_and (Opd.t rfl) (Opd.g rfl id)) e6) rfl rfl rfl <| WL_op (Run_move (Opd.t rfl)) rfl rfl rfl <| WL_opG rfl rfl rfl rfl guard_neg (Run_move (Opd.t rfl)) rfl rfl <| ?_
  obtain ⟨b7, e8, hm⟩ := letv_some hm
  obtain ⟨b9, e10, hm⟩ := letv_some hm
  obtain ⟨b11, e12, hm⟩ := letv_some hm
  obtain ⟨b13, e14, hm⟩ := letv_some hm
  refine WL_opG rfl rfl rfl rfl guard_neg (Run.eqB (Run_geI (Opd.g rfl id) Opd.c) e8) rfl rfl <| WL_opG rfl rfl rfl rfl guard_neg (Run_move (Opd.g rfl id)) rfl rfl <| WL_opG rfl rfl rfl rfl guard_pos' (Run_move (Opd.t rfl)) rfl rfl <| WL_opG rfl rfl rfl rfl guard_pos' (Run.eqB (Run_leI (Opd.g rfl id) Opd.c) e10) rfl rfl <| WL_opG rfl rfl rfl rfl guard_neg (Run.eqB (Run_and (Opd.g rfl id) (Opd.g rfl id)) e12) rfl rfl <| WL_op (Run.eqB (Run_or (Opd.t rfl) (Opd.g rfl id)) e14) rfl rfl rfl <| WL_op (Run_move (Opd.t rfl)) rfl rfl rfl <| WL_opG rfl rfl rfl rfl guard_neg (Run_move (Opd.t rfl)) rfl rfl <| ?_
  obtain ⟨b15, e16, hm⟩ := letv_some hm
  obtain ⟨b17, e18, hm⟩ := letv_some hm
  refine WL_opG rfl rfl rfl rfl guard_neg (Run.eqB (Run_eqI (Opd.g rfl id) Opd.c) e16) rfl rfl <| WL_op (Run.eqB (Run_or (Opd.t rfl) (Opd.g rfl id)) e18) rfl rfl rfl <| WL_op (Run_assign (Opd.t rfl)) rfl rfl rfl <| ?_
  refine WL_nil ?_
  refine At_then ?_
  refine WC_ret ?_
  refine At_r1 rfl (ResIs.t rfl) ?_
  cases hm
  exact ⟨hS.toExt, rfl⟩

end Go.Proofs.Ytiambejbilkgmaa
