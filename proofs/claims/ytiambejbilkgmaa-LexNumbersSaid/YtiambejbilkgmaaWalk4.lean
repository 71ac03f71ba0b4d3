/- Printed by a program: the walks. -/
import Derived.Test.YtiambejbilkgmaaWalk3
namespace Go.Proofs.Ytiambejbilkgmaa
open Go.Proofs

theorem lex_sign_ok (w0 : World) {text0 : Str} {r : Str} (hm : lex_sign text0 = some r) :
    CallsR Try.prog 26 [(S text0)] w0 (fun v w' => Ext w0 w' ∧ v = (S r)) := by
  obtain ⟨M0, hM⟩ : ∃ M0 : Nat → Prop, ∀ b, M0 b → b < w0.heap.size := ⟨fun _ => False, fun _ h => h.elim⟩
  have hS : St w0 [] w0 := St.start w0 0
  refine CallsR_enter Try.func26 rfl Try.ntmps26 rfl ?_
  unfold lex_sign at hm
  refine WC_seq ?_
  refine WC_region ?_
  refine WL_op (Run_assign Opd.c) rfl rfl rfl <| ?_
  refine WL_nil ?_
  refine At_then ?_
  refine WC_seq ?_
  refine WC_seq ?_
  refine WC_region ?_
  obtain ⟨r1, hr2, hm⟩ := bind_some' hm
  refine WL_call (f := 13) (first := []) (cap := []) (xs := []) (vs := []) (args := []) Try.call13 Opd.f .nil rfl rfl (lex_Signs_ok w0 (Mine [] M0) (mine_lt hS hM) hr2) ?_
  rintro v3 w6 ⟨hx5, _, rfl, h4⟩
  replace hS := hS.ext hx5
  refine WL_op (Run_lenSl Try.underlying29 (Opd.t rfl) h4.len) rfl rfl rfl <| WL_op (Run_move Opd.c) rfl rfl rfl <| ?_
  refine WL_nil ?_
  refine At_then ?_
  refine WC_block ?_
  refine WC_loop (σ := Int) (γ := Unit) (F := (lex_sign_L1 text0 r1)) (N := FUEL) (s0 := 0) (r := r) (fun t7 (_ : Unit) w8 => St w0 [] w8 ∧ SRd RS (Mine [] M0) w8 v3 r1) (fun t7 (_ : Unit) => [(0, true, (S text0)), (5, true, v3), (6, true, (.int .i64 (List.length r1 : Int))), (7, true, (.int .i64 t7))]) hm () ⟨hS, h4⟩ rfl ?_
  rintro again9 t7 _ w8 hm ⟨hS, h4⟩
  unfold lex_sign_L1 at hm
  refine WC_seq ?_
  refine WC_region ?_
  refine WL_op (Run_ltI (Opd.t rfl) (Opd.t rfl)) rfl rfl rfl <| ?_
  refine WL_nil ?_
  refine At_then ?_
  refine WC_seq ?_
  refine WC_cond (Opd.t rfl) (fun hc10 => ?_) (fun hc10 => ?_)
  ·
    replace hm := bif_t hc10 hm
    refine WC_skip ?_
    refine At_then ?_
    refine WC_seq ?_
    refine WC_block ?_
    refine WC_seq ?_
    refine WC_region ?_
    obtain ⟨e11, he12, hm⟩ := bind_some' hm
    obtain ⟨p13, vs14, hE15, hC16, hR17⟩ := SRd.atG (fun _ => h4) (fun _ => he12)
    replace hC16 : true = true → CellsAt w8 p13 [(S e11)] := fun hg => openT9 (hR17 hg) ▸ hC16 hg
    replace hC16 := hC16 rfl
    refine WL_op (Run_idxAddr Try.underlying29 ti9 (Opd.t rfl) (Opd.t rfl) hE15) rfl rfl rfl <| WL_op (Run_load1 (v := (S e11)) Try.underlying9 rfl (Opd.t rfl) (fun hg => (((fun _ => hC16) hg).sub 0 rfl))) rfl rfl rfl <| WL_op (Run_assign (Opd.t rfl)) rfl rfl rfl <| ?_
    refine WL_nil ?_
    refine At_then ?_
    refine WC_seq ?_
    refine WC_region ?_
    refine WL_op (Run_move (Opd.t rfl)) rfl rfl rfl <| WL_op (Run_move (Opd.t rfl)) rfl rfl rfl <| ?_
    obtain ⟨r18, hr19, hm⟩ := bind_some' hm
    refine WL_call (f := 27) (first := []) (cap := []) (xs := [(.tmp 11), (.tmp 12)]) (vs := [(S text0), (S e11)]) (args := [(S text0), (S e11)]) Try.call27 Opd.f (.cons (Opd.t rfl) (.cons (Opd.t rfl) .nil)) rfl rfl (strings_HasPrefix_ok w8 hr19) ?_
    rintro _ w21 ⟨hx20, rfl⟩
    replace h4 := h4.mv (hx20.mv _)
    replace hS := hS.ext hx20
    refine WL_nil ?_
    refine At_then ?_
    refine WC_cond (Opd.t rfl) (fun hc22 => ?_) (fun hc22 => ?_)
    ·
      replace hm := bif_t hc22 hm
      refine WC_seq ?_
      refine WC_region ?_
      refine WL_op (Run_move (Opd.t rfl)) rfl rfl rfl <| WL_op (Run_assign (Opd.t rfl)) rfl rfl rfl <| ?_
      refine WL_nil ?_
      refine At_then ?_
      refine WC_ret ?_
      refine At_blk_ret <| At_then_ret <| At_then_ret <| At_blk_ret <| At_then_ret <| ?_
      refine At_r1 rfl (ResIs.t rfl) ?_
      cases hm
      exact ⟨hS.toExt, rfl⟩
    ·
      replace hm := bif_f hc22 hm
      refine WC_skip ?_
      refine At_blk_normal ?_
      refine At_then ?_
      refine WC_region ?_
      refine WL_op (Run_add (Opd.t rfl) Opd.c) rfl rfl rfl <| WL_op (Run_move (Opd.t rfl)) rfl rfl rfl <| ?_
      refine WL_nil ?_
      exact At_again (IntKind.i64.wrap (t7 + 1)) () hm ⟨hS, h4⟩ rfl
  ·
    replace hm := bif_f hc10 hm
    refine WC_exit ?_
    refine At_then_exit <| At_then_exit <| At_blk_here <| ?_
    refine At_then ?_
    refine WC_seq ?_
    refine WC_region ?_
    refine WL_op (Run_assign Opd.c) rfl rfl rfl <| ?_
    refine WL_nil ?_
    refine At_then ?_
    refine WC_ret ?_
    refine At_r1 rfl (ResIs.t rfl) ?_
    cases hm
    exact ⟨hS.toExt, rfl⟩

theorem lex_token_ok (w0 : World) {text0 : Str} {r : ((Int × Str × Int × Int) × Int)} (hm : lex_token text0 = some r) :
    CallsR Try.prog 20 [(S text0)] w0 (fun v w' => Ext w0 w' ∧ v = (.tuple #[(.agg #[(.int .i64 r.1.1), (S r.1.2.1), (.int .i64 r.1.2.2.1), (.int .i64 r.1.2.2.2)]), (.int .i64 r.2)])) := by
  obtain ⟨M0, hM⟩ : ∃ M0 : Nat → Prop, ∀ b, M0 b → b < w0.heap.size := ⟨fun _ => False, fun _ h => h.elim⟩
  have hS : St w0 [[]] w0 := St.start w0 1
  refine CallsR_enter Try.func20 rfl Try.ntmps20 rfl ?_
  unfold lex_token at hm
  refine WC_seq ?_
  refine WC_region ?_
  obtain ⟨b1, hb2⟩ : ∃ b, w0.heap.size = b := ⟨_, rfl⟩
  refine WL_alloc (zs := [(.int .i64 0), (S ([])), (.int .i64 0), (.int .i64 0)]) ti34 rfl hb2 rfl ?_
  intro w3 hx4 hB5
  have mv6 : Mv (Mine [[]] M0) w0 (Mine [[b1]] M0) w3 := Mv.newB hS hM 0 hx4 hb2 hB5.lt
  replace hS : St w0 [[b1]] w3 := hS.newB 0 hx4 hb2 hB5.lt
  refine WL_op (Run_assign Opd.c) rfl rfl rfl <| ?_
  refine WL_nil ?_
  refine At_then ?_
  refine WC_seq ?_
  refine WC_seq ?_
  refine WC_region ?_
  obtain ⟨k8, hm⟩ := chk_some hm
  refine WL_op (Run_move (Opd.t rfl)) rfl rfl rfl <| WL_op (Run_idxS Try.underlying9 (Opd.t rfl) Opd.c (fun _ => k8)) rfl rfl rfl <| WL_op (Run_assign (Opd.t rfl)) rfl rfl rfl <| ?_
  refine WL_nil ?_
  refine At_then ?_
  refine WC_block ?_
  refine WC_seq ?_
  refine WC_region ?_
  refine WL_op (Run_move (Opd.t rfl)) rfl rfl rfl <| ?_
  obtain ⟨r9, hr10, hm⟩ := bind_some' hm
  refine WL_call (f := 22) (first := []) (cap := []) (xs := [(.tmp 13)]) (vs := [(.int .u8 (byteAt text0 0))]) (args := [(.int .u8 (byteAt text0 0))]) Try.call22 Opd.f (.cons (Opd.t rfl) .nil) rfl rfl (lex_letter_ok w3 hr10) ?_
  rintro _ w12 ⟨hx11, rfl⟩
  replace hB5 := hB5.ext hx11
  replace hS := hS.ext hx11
  refine WL_op (Run_assign (Opd.t rfl)) rfl rfl rfl <| ?_
  refine WL_nil ?_
  refine At_then ?_
  refine WC_cond (Opd.t rfl) (fun hc13 => ?_) (fun hc13 => ?_)
  ·
    replace hm := bif_t hc13 hm
    refine WC_seq ?_
    refine WC_region ?_
    refine WL_op (Run_move (Opd.t rfl)) rfl rfl rfl <| ?_
    obtain ⟨r14, hr15, hm⟩ := bind_some' hm
    refine WL_call (f := 18) (first := []) (cap := []) (xs := [(.tmp 15), (.func 23)]) (vs := [(S text0), (.func (.func 23) #[] #[])]) (args := [(S text0), (.func (.func 23) #[] #[])]) Try.call18 Opd.f (.cons (Opd.t rfl) (.cons Opd.f .nil)) rfl rfl (lex_run__lex_either_ok w12 hr15) ?_
    rintro _ w17 ⟨hx16, rfl⟩
    replace hB5 := hB5.ext hx16
    replace hS := hS.ext hx16
    refine WL_op (Run_assign (Opd.t rfl)) rfl rfl rfl <| ?_
    refine WL_nil ?_
    refine At_then ?_
    refine WC_seq ?_
    refine WC_seq ?_
    refine WC_region ?_
    refine WL_op (Run_move (Opd.t rfl)) rfl rfl rfl <| WL_op (Run_lenS Try.underlying9 (Opd.t rfl)) rfl rfl rfl <| WL_op (Run_gtI (Opd.t rfl) Opd.c) rfl rfl rfl <| ?_
    refine WL_nil ?_
    refine At_then ?_
    refine WC_cond (Opd.t rfl) (fun hc18 => ?_) (fun hc18 => ?_)
    ·
      replace hm := bif_t hc18 hm
      refine WC_seq ?_
      refine WC_region ?_
      refine WL_op (Run_build (parts := []) (v := (.agg #[(.int .i64 0), (S ([])), (.int .i64 0), (.int .i64 0)])) .nil (fun _ => by kernel_rfl)) rfl rfl rfl <| ?_
      refine WL_store (us := [(.int .i64 0), (S ([])), (.int .i64 0), (.int .i64 0)]) (vs' := [(.int .i64 0), (S ([])), (.int .i64 0), (.int .i64 0)]) ti34 (Opd.t rfl) (Opd.t rfl) rfl rfl rfl hB5 rfl rfl ?_
      intro w19 hC20 hz21 hB23
      have mv22 : Mv (Mine [[b1]] M0) w17 (Mine [[b1]] M0) w19 := Mv.wrote hS hM 0 hC20
      replace hS : St w0 [[b1]] w19 := hS.wrote 0 hC20
      refine WL_op (Run_assign Opd.c) rfl rfl rfl <| ?_
      refine WL_nil ?_
      refine At_then ?_
      refine WC_ret ?_
      refine At_then_ret <| At_blk_ret <| At_then_ret <| ?_
      refine At_r2 rfl (ResIs.cA (vs := [(.int .i64 0), (S ([])), (.int .i64 0), (.int .i64 0)]) rfl Try.underlying34 rfl ti34 (hB23.part 0 rfl) rfl) (ResIs.t rfl) ?_
      cases hm
      exact ⟨hS.toExt, rfl⟩
    ·
      replace hm := bif_f hc18 hm
      refine WC_skip ?_
      refine At_then ?_
      refine WC_seq ?_
      refine WC_region ?_
      refine WL_op (Run_move (Opd.t rfl)) rfl rfl rfl <| WL_op (Run_build (parts := [(0, (.const (.int .i64 1))), (1, (.tmp 21))]) (v := (.agg #[(.int .i64 1), (S r14), (.int .i64 0), (.int .i64 0)])) (.cons Opd.c (.cons (Opd.t rfl) .nil)) (fun _ => by kernel_rfl)) rfl rfl rfl <| ?_
      refine WL_store (us := [(.int .i64 1), (S r14), (.int .i64 0), (.int .i64 0)]) (vs' := [(.int .i64 1), (S r14), (.int .i64 0), (.int .i64 0)]) ti34 (Opd.t rfl) (Opd.t rfl) rfl rfl rfl hB5 rfl rfl ?_
      intro w24 hC25 hz26 hB28
      have mv27 : Mv (Mine [[b1]] M0) w17 (Mine [[b1]] M0) w24 := Mv.wrote hS hM 0 hC25
      replace hS : St w0 [[b1]] w24 := hS.wrote 0 hC25
      refine WL_op (Run_assign Opd.c) rfl rfl rfl <| ?_
      refine WL_nil ?_
      refine At_then ?_
      refine WC_ret ?_
      refine At_blk_ret <| At_then_ret <| ?_
      refine At_r2 rfl (ResIs.cA (vs := [(.int .i64 1), (S r14), (.int .i64 0), (.int .i64 0)]) rfl Try.underlying34 rfl ti34 (hB28.part 0 rfl) rfl) (ResIs.t rfl) ?_
      cases hm
      exact ⟨hS.toExt, rfl⟩
  ·
    replace hm := bif_f hc13 hm
    refine WC_seq ?_
    refine WC_region ?_
    refine WL_op (Run_move (Opd.t rfl)) rfl rfl rfl <| ?_
    obtain ⟨r29, hr30, hm⟩ := bind_some' hm
    refine WL_call (f := 24) (first := []) (cap := []) (xs := [(.tmp 24)]) (vs := [(.int .u8 (byteAt text0 0))]) (args := [(.int .u8 (byteAt text0 0))]) Try.call24 Opd.f (.cons (Opd.t rfl) .nil) rfl rfl (lex_digit_ok w12 hr30) ?_
    rintro _ w32 ⟨hx31, rfl⟩
    replace hB5 := hB5.ext hx31
    replace hS := hS.ext hx31
    refine WL_op (Run_assign (Opd.t rfl)) rfl rfl rfl <| ?_
    refine WL_nil ?_
    refine At_then ?_
    refine WC_cond (Opd.t rfl) (fun hc33 => ?_) (fun hc33 => ?_)
    ·
      replace hm := bif_t hc33 hm
      refine WC_seq ?_
      refine WC_region ?_
      refine WL_op (Run_move (Opd.t rfl)) rfl rfl rfl <| ?_
      obtain ⟨r34, hr35, hm⟩ := bind_some' hm
      refine WL_call (f := 18) (first := []) (cap := []) (xs := [(.tmp 26), (.func 24)]) (vs := [(S text0), (.func (.func 24) #[] #[])]) (args := [(S text0), (.func (.func 24) #[] #[])]) Try.call18 Opd.f (.cons (Opd.t rfl) (.cons Opd.f .nil)) rfl rfl (lex_run__lex_digit_ok w32 hr35) ?_
      rintro _ w37 ⟨hx36, rfl⟩
      replace hB5 := hB5.ext hx36
      replace hS := hS.ext hx36
      refine WL_op (Run_assign (Opd.t rfl)) rfl rfl rfl <| ?_
      refine WL_nil ?_
      refine At_then ?_
      refine WC_seq ?_
      refine WC_region ?_
      refine WL_op (Run_move (Opd.t rfl)) rfl rfl rfl <| ?_
      obtain ⟨r38, hr39, hm⟩ := bind_some' hm
      refine WL_call (f := 25) (first := []) (cap := []) (xs := [(.tmp 29)]) (vs := [(S r34)]) (args := [(S r34)]) Try.call25 Opd.f (.cons (Opd.t rfl) .nil) rfl rfl (lex_value_ok w37 hr39) ?_
      rintro _ w41 ⟨hx40, rfl⟩
      replace hB5 := hB5.ext hx40
      replace hS := hS.ext hx40
      refine WL_op (Run_move (Opd.t rfl)) rfl rfl rfl <| WL_op (Run_extract (vs := [(.int .i64 r38.1), (.bool r38.2)]) (Opd.t rfl) rfl) rfl rfl rfl <| WL_op (Run_extract (vs := [(.int .i64 r38.1), (.bool r38.2)]) (Opd.t rfl) rfl) rfl rfl rfl <| WL_op (Run_assign (Opd.t rfl)) rfl rfl rfl <| WL_op (Run_assign (Opd.t rfl)) rfl rfl rfl <| ?_
      refine WL_nil ?_
      refine At_then ?_
      refine WC_seq ?_
      refine WC_seq ?_
      refine WC_region ?_
      refine WL_op (Run_move (Opd.t rfl)) rfl rfl rfl <| WL_op (Run_notB (Opd.t rfl)) rfl rfl rfl <| ?_
      refine WL_nil ?_
      refine At_then ?_
      refine WC_cond (Opd.t rfl) (fun hc42 => ?_) (fun hc42 => ?_)
      ·
        replace hm := bif_t hc42 hm
        refine WC_seq ?_
        refine WC_region ?_
        refine WL_op (Run_build (parts := []) (v := (.agg #[(.int .i64 0), (S ([])), (.int .i64 0), (.int .i64 0)])) .nil (fun _ => by kernel_rfl)) rfl rfl rfl <| ?_
        refine WL_store (us := [(.int .i64 0), (S ([])), (.int .i64 0), (.int .i64 0)]) (vs' := [(.int .i64 0), (S ([])), (.int .i64 0), (.int .i64 0)]) ti34 (Opd.t rfl) (Opd.t rfl) rfl rfl rfl hB5 rfl rfl ?_
        intro w43 hC44 hz45 hB47
        have mv46 : Mv (Mine [[b1]] M0) w41 (Mine [[b1]] M0) w43 := Mv.wrote hS hM 0 hC44
        replace hS : St w0 [[b1]] w43 := hS.wrote 0 hC44
        refine WL_op (Run_assign Opd.c) rfl rfl rfl <| ?_
        refine WL_nil ?_
        refine At_then ?_
        refine WC_ret ?_
        refine At_then_ret <| At_blk_ret <| At_then_ret <| ?_
        refine At_r2 rfl (ResIs.cA (vs := [(.int .i64 0), (S ([])), (.int .i64 0), (.int .i64 0)]) rfl Try.underlying34 rfl ti34 (hB47.part 0 rfl) rfl) (ResIs.t rfl) ?_
        cases hm
        exact ⟨hS.toExt, rfl⟩
      ·
        replace hm := bif_f hc42 hm
        refine WC_skip ?_
        refine At_then ?_
        refine WC_seq ?_
        refine WC_region ?_
        refine WL_op (Run_move (Opd.t rfl)) rfl rfl rfl <| WL_op (Run_move (Opd.t rfl)) rfl rfl rfl <| WL_op (Run_build (parts := [(0, (.const (.int .i64 2))), (1, (.tmp 36)), (2, (.tmp 37))]) (v := (.agg #[(.int .i64 2), (S r34), (.int .i64 r38.1), (.int .i64 0)])) (.cons Opd.c (.cons (Opd.t rfl) (.cons (Opd.t rfl) .nil))) (fun _ => by kernel_rfl)) rfl rfl rfl <| ?_
        refine WL_store (us := [(.int .i64 2), (S r34), (.int .i64 r38.1), (.int .i64 0)]) (vs' := [(.int .i64 2), (S r34), (.int .i64 r38.1), (.int .i64 0)]) ti34 (Opd.t rfl) (Opd.t rfl) rfl rfl rfl hB5 rfl rfl ?_
        intro w48 hC49 hz50 hB52
        have mv51 : Mv (Mine [[b1]] M0) w41 (Mine [[b1]] M0) w48 := Mv.wrote hS hM 0 hC49
        replace hS : St w0 [[b1]] w48 := hS.wrote 0 hC49
        refine WL_op (Run_assign Opd.c) rfl rfl rfl <| ?_
        refine WL_nil ?_
        refine At_then ?_
        refine WC_ret ?_
        refine At_blk_ret <| At_then_ret <| ?_
        refine At_r2 rfl (ResIs.cA (vs := [(.int .i64 2), (S r34), (.int .i64 r38.1), (.int .i64 0)]) rfl Try.underlying34 rfl ti34 (hB52.part 0 rfl) rfl) (ResIs.t rfl) ?_
        cases hm
        exact ⟨hS.toExt, rfl⟩
    ·
      replace hm := bif_f hc33 hm
      refine WC_skip ?_
      refine At_blk_normal ?_
      refine At_then ?_
      refine WC_seq ?_
      refine WC_region ?_
      refine WL_op (Run_move (Opd.t rfl)) rfl rfl rfl <| ?_
      obtain ⟨r53, hr54, hm⟩ := bind_some' hm
      refine WL_call (f := 26) (first := []) (cap := []) (xs := [(.tmp 39)]) (vs := [(S text0)]) (args := [(S text0)]) Try.call26 Opd.f (.cons (Opd.t rfl) .nil) rfl rfl (lex_sign_ok w32 hr54) ?_
      rintro _ w56 ⟨hx55, rfl⟩
      replace hB5 := hB5.ext hx55
      replace hS := hS.ext hx55
      refine WL_op (Run_assign (Opd.t rfl)) rfl rfl rfl <| ?_
      refine WL_nil ?_
      refine At_then ?_
      refine WC_seq ?_
      refine WC_seq ?_
      refine WC_region ?_
      refine WL_op (Run_move (Opd.t rfl)) rfl rfl rfl <| WL_op (Run_eqS (Opd.t rfl) Opd.c) rfl rfl rfl <| ?_
      refine WL_nil ?_
      refine At_then ?_
      refine WC_cond (Opd.t rfl) (fun hc57 => ?_) (fun hc57 => ?_)
      ·
        replace hm := bif_t hc57 hm
        refine WC_seq ?_
        refine WC_region ?_
        refine WL_op (Run_build (parts := []) (v := (.agg #[(.int .i64 0), (S ([])), (.int .i64 0), (.int .i64 0)])) .nil (fun _ => by kernel_rfl)) rfl rfl rfl <| ?_
        refine WL_store (us := [(.int .i64 0), (S ([])), (.int .i64 0), (.int .i64 0)]) (vs' := [(.int .i64 0), (S ([])), (.int .i64 0), (.int .i64 0)]) ti34 (Opd.t rfl) (Opd.t rfl) rfl rfl rfl hB5 rfl rfl ?_
        intro w58 hC59 hz60 hB62
        have mv61 : Mv (Mine [[b1]] M0) w56 (Mine [[b1]] M0) w58 := Mv.wrote hS hM 0 hC59
        replace hS : St w0 [[b1]] w58 := hS.wrote 0 hC59
        refine WL_op (Run_assign Opd.c) rfl rfl rfl <| ?_
        refine WL_nil ?_
        refine At_then ?_
        refine WC_ret ?_
        refine At_then_ret <| ?_
        refine At_r2 rfl (ResIs.cA (vs := [(.int .i64 0), (S ([])), (.int .i64 0), (.int .i64 0)]) rfl Try.underlying34 rfl ti34 (hB62.part 0 rfl) rfl) (ResIs.t rfl) ?_
        cases hm
        exact ⟨hS.toExt, rfl⟩
      ·
        replace hm := bif_f hc57 hm
        refine WC_skip ?_
        refine At_then ?_
        refine WC_seq ?_
        refine WC_region ?_
        refine WL_op (Run_move (Opd.t rfl)) rfl rfl rfl <| WL_op (Run_build (parts := [(0, (.const (.int .i64 3))), (1, (.tmp 44))]) (v := (.agg #[(.int .i64 3), (S r53), (.int .i64 0), (.int .i64 0)])) (.cons Opd.c (.cons (Opd.t rfl) .nil)) (fun _ => by kernel_rfl)) rfl rfl rfl <| ?_
        refine WL_store (us := [(.int .i64 3), (S r53), (.int .i64 0), (.int .i64 0)]) (vs' := [(.int .i64 3), (S r53), (.int .i64 0), (.int .i64 0)]) ti34 (Opd.t rfl) (Opd.t rfl) rfl rfl rfl hB5 rfl rfl ?_
        intro w63 hC64 hz65 hB67
        have mv66 : Mv (Mine [[b1]] M0) w56 (Mine [[b1]] M0) w63 := Mv.wrote hS hM 0 hC64
        replace hS : St w0 [[b1]] w63 := hS.wrote 0 hC64
        refine WL_op (Run_assign Opd.c) rfl rfl rfl <| ?_
        refine WL_nil ?_
        refine At_then ?_
        refine WC_ret ?_
        refine At_r2 rfl (ResIs.cA (vs := [(.int .i64 3), (S r53), (.int .i64 0), (.int .i64 0)]) rfl Try.underlying34 rfl ti34 (hB67.part 0 rfl) rfl) (ResIs.t rfl) ?_
        cases hm
        exact ⟨hS.toExt, rfl⟩

theorem lex_Tokens_ok (w0 : World) (M0 : Nat → Prop) (hM : ∀ b, M0 b → b < w0.heap.size) {text0 : Str} {r : ((List (Int × Str × Int × Int)) × Int × Int)} (hm : lex_Tokens text0 = some r) :
    CallsR Try.prog 11 [(S text0)] w0 (fun v w' => Ext w0 w' ∧ ∃ v87, v = (.tuple #[v87, (.int .i64 r.2.1), (.int .i64 r.2.2)]) ∧ SRd (RP (RI .i64) (RP RS (RP (RI .i64) (RI .i64)))) M0 w' v87 r.1) := by
  have _hM := hM
  have hS : St w0 [[], [], []] w0 := St.start w0 3
  refine CallsR_enter Try.func11 rfl Try.ntmps11 rfl ?_
  unfold lex_Tokens at hm
  refine WC_seq ?_
  refine WC_region ?_
  refine WL_op (Run_assign Opd.c) rfl rfl rfl <| WL_op (Run_assign Opd.c) rfl rfl rfl <| WL_op (Run_assign Opd.c) rfl rfl rfl <| ?_
  refine WL_nil ?_
  refine At_then ?_
  refine WC_scope (σ := (List (Int × Str × Int × Int)) × Int) (γ := Value) (F := (lex_Tokens_G1 text0)) (r := r) (fun ⟨out2, at5⟩ v3 w6 => St w0 [[], blk v3, []] w6 ∧ OSl (RP (RI .i64) (RP RS (RP (RI .i64) (RI .i64)))) 34 (Mine [[], blk v3, []] M0) w6 v3 out2) (fun ⟨out2, at5⟩ v3 => [(0, true, (S text0)), (5, true, v3), (6, true, (.int .i64 at5))]) 0 (by rfl) ?_ ?_
  ·
    refine WC_seq ?_
    refine WC_region ?_
    refine WL_op (Run_assign Opd.c) rfl rfl rfl <| ?_
    refine WL_nil ?_
    refine At_then ?_
    refine WC_seq ?_
    refine WC_region ?_
    refine WL_op (Run_assign Opd.c) rfl rfl rfl <| ?_
    refine WL_nil ?_
    refine At_then ?_
    refine WC_seq ?_
    refine WC_seq ?_
    refine WC_region ?_
    refine WL_op (Run_move (Opd.t rfl)) rfl rfl rfl <| WL_op (Run_lenS Try.underlying9 (Opd.t rfl)) rfl rfl rfl <| WL_op (Run_gtI (Opd.t rfl) Opd.c) rfl rfl rfl <| ?_
    refine WL_nil ?_
    refine At_then ?_
    refine WC_cond (Opd.t rfl) (fun hc1 => ?_) (fun hc1 => ?_)
    ·
      replace hm := bif_t hc1 hm
      refine WC_seq ?_
      refine WC_region ?_
      refine WL_op (Run_assign Opd.c) rfl rfl rfl <| WL_op (Run_assign Opd.c) rfl rfl rfl <| WL_op (Run_assign Opd.c) rfl rfl rfl <| ?_
      refine WL_nil ?_
      refine At_then ?_
      refine WC_ret ?_
      refine At_then_ret <| At_jmp_ret <| ?_
      refine At_r3 rfl (ResIs.t rfl) (ResIs.t rfl) (ResIs.t rfl) ?_
      cases hm
      exact ⟨hS.toExt, _, rfl, SRd.nil⟩
    ·
      replace hm := bif_f hc1 hm
      refine WC_skip ?_
      refine At_then ?_
      refine WC_seq ?_
      refine WC_label ?_
      refine At_gen (σ := (List (Int × Str × Int × Int)) × Int) (γ := Value) (F := (lex_Tokens_G1 text0)) (N := FUEL) (s0 := ([], 0)) (r := r) (fun ⟨out2, at5⟩ v3 w6 => St w0 [[], blk v3, []] w6 ∧ OSl (RP (RI .i64) (RP RS (RP (RI .i64) (RI .i64)))) 34 (Mine [[], blk v3, []] M0) w6 v3 out2) (fun ⟨out2, at5⟩ v3 => [(0, true, (S text0)), (5, true, v3), (6, true, (.int .i64 at5))]) hm (.slice none 0 0) ⟨hS, OSl.nil⟩ rfl ?_
      rintro m again7 hag ⟨out2, at5⟩ v3 w6 hm ⟨hS, h4⟩
      unfold lex_Tokens_G1 at hm
      dsimp only at hm
      refine At_then ?_
      refine WC_seq ?_
      refine WC_seq ?_
      refine WC_region ?_
      obtain ⟨b8, e9, hm⟩ := letv_some hm
      obtain ⟨k10, hm⟩ := chkG_some hm
      refine WL_op (Run_move (Opd.t rfl)) rfl rfl rfl <| WL_op (Run_move (Opd.t rfl)) rfl rfl rfl <| WL_op (Run_lenS Try.underlying9 (Opd.t rfl)) rfl rfl rfl <| WL_op (Run.eqB (Run_ltI (Opd.t rfl) (Opd.t rfl)) e9) rfl rfl rfl <| WL_op (Run_move (Opd.t rfl)) rfl rfl rfl <| WL_opG rfl rfl rfl rfl guard_pos (Run_move (Opd.t rfl)) rfl rfl <| WL_opG rfl rfl rfl rfl guard_pos (Run_move (Opd.t rfl)) rfl rfl <| WL_opG rfl rfl rfl rfl guard_pos (Run_idxS Try.underlying9 (Opd.g rfl id) (Opd.g rfl id) k10) rfl rfl <| ?_
      obtain ⟨r11, hr12, -, hm⟩ := callG_some hm
      refine WL_callG rfl rfl rfl guard_pos (f := 17) (first := []) (cap := []) (xs := [(.tmp 19)]) (vs := [(.int .u8 (byteAt text0 at5))]) (args := [(.int .u8 (byteAt text0 at5))]) Try.call17 Opd.f (.cons (Opd.g rfl id) .nil) rfl rfl (fun hg => lex_blank_ok w6 (hr12 hg)) ?_
      intro v15 w14 hv16 hz17
      have hx13 : Ext w6 w14 := Ext.ofG (fun hg => (hv16 hg).1) hz17
      replace h4 := h4.ext hx13
      replace hS := hS.ext hx13
      refine WL_sub1 (v := (.bool r11)) (fun hg => (hv16 hg).2) ?_
      obtain ⟨b18, e19, hm⟩ := letv_some hm
      refine WL_op (Run.eqB (Run_and (Opd.t rfl) (Opd.g rfl id)) e19) rfl rfl rfl <| ?_
      refine WL_nil ?_
      refine At_then ?_
      refine WC_cond (Opd.t rfl) (fun hc20 => ?_) (fun hc20 => ?_)
      ·
        replace hm := bif_t hc20 hm
        refine WC_seq ?_
        refine WC_region ?_
        refine WL_op (Run_move (Opd.t rfl)) rfl rfl rfl <| WL_op (Run_add (Opd.t rfl) Opd.c) rfl rfl rfl <| WL_op (Run_assign (Opd.t rfl)) rfl rfl rfl <| ?_
        refine WL_nil ?_
        refine At_then ?_
        refine WC_goto ?_
        refine At_then_goto <| ?_
        exact At_jump_first hag (out2, (IntKind.i64.wrap (at5 + 1))) v3 hm ⟨hS, h4⟩ rfl
      ·
        replace hm := bif_f hc20 hm
        refine WC_skip ?_
        refine At_then ?_
        refine WC_seq ?_
        refine WC_seq ?_
        refine WC_region ?_
        obtain ⟨b21, e22, hm⟩ := letv_some hm
        obtain ⟨k23, hm⟩ := chkG_some hm
        refine WL_op (Run_move (Opd.t rfl)) rfl rfl rfl <| WL_op (Run_move (Opd.t rfl)) rfl rfl rfl <| WL_op (Run_lenS Try.underlying9 (Opd.t rfl)) rfl rfl rfl <| WL_op (Run.eqB (Run_ltI (Opd.t rfl) (Opd.t rfl)) e22) rfl rfl rfl <| WL_op (Run_move (Opd.t rfl)) rfl rfl rfl <| WL_opG rfl rfl rfl rfl guard_pos (Run_move (Opd.t rfl)) rfl rfl <| WL_opG rfl rfl rfl rfl guard_pos (Run_move (Opd.t rfl)) rfl rfl <| WL_opG rfl rfl rfl rfl guard_pos (Run_idxS Try.underlying9 (Opd.g rfl id) (Opd.g rfl id) k23) rfl rfl <| ?_
        obtain ⟨b24, e25, hm⟩ := letv_some hm
        obtain ⟨b26, e27, hm⟩ := letv_some hm
        refine WL_opG rfl rfl rfl rfl guard_pos (Run.eqB (Run_eqI (Opd.g rfl id) Opd.c) e25) rfl rfl <| WL_op (Run.eqB (Run_and (Opd.t rfl) (Opd.g rfl id)) e27) rfl rfl rfl <| ?_
        refine WL_nil ?_
        refine At_then ?_
        refine WC_cond (Opd.t rfl) (fun hc28 => ?_) (fun hc28 => ?_)
        ·
          replace hm := bif_t hc28 hm
          refine WC_seq ?_
          refine WC_region ?_
          obtain ⟨k29, hm⟩ := chk_some hm
          refine WL_op (Run_move (Opd.t rfl)) rfl rfl rfl <| WL_op (Run_move (Opd.t rfl)) rfl rfl rfl <| WL_op (Run_move (Opd.t rfl)) rfl rfl rfl <| WL_op (Run_cutS Try.underlying9 (Opd.t rfl) ⟨_, (Opd.t rfl)⟩ rfl (fun _ => k29)) rfl rfl rfl <| ?_
          obtain ⟨r30, hr31, hm⟩ := bind_some' hm
          refine WL_call (f := 18) (first := []) (cap := []) (xs := [(.tmp 37), (.func 19)]) (vs := [(S (cut text0 at5 ((List.length text0) : Int))), (.func (.func 19) #[] #[])]) (args := [(S (cut text0 at5 ((List.length text0) : Int))), (.func (.func 19) #[] #[])]) Try.call18 Opd.f (.cons (Opd.t rfl) (.cons Opd.f .nil)) rfl rfl (lex_run__lex_Tokens_c1_ok w14 hr31) ?_
          rintro _ w33 ⟨hx32, rfl⟩
          replace h4 := h4.ext hx32
          replace hS := hS.ext hx32
          refine WL_op (Run_lenS Try.underlying9 (Opd.t rfl)) rfl rfl rfl <| WL_op (Run_add (Opd.t rfl) (Opd.t rfl)) rfl rfl rfl <| WL_op (Run_assign (Opd.t rfl)) rfl rfl rfl <| ?_
          refine WL_nil ?_
          refine At_then ?_
          refine WC_goto ?_
          refine At_then_goto <| ?_
          exact At_jump_first hag (out2, (IntKind.i64.wrap (at5 + (List.length r30 : Int)))) v3 hm ⟨hS, h4⟩ rfl
        ·
          replace hm := bif_f hc28 hm
          refine WC_skip ?_
          refine At_then ?_
          refine WC_seq ?_
          refine WC_seq ?_
          refine WC_region ?_
          refine WL_op (Run_move (Opd.t rfl)) rfl rfl rfl <| WL_op (Run_move (Opd.t rfl)) rfl rfl rfl <| WL_op (Run_lenS Try.underlying9 (Opd.t rfl)) rfl rfl rfl <| WL_op (Run_ltI (Opd.t rfl) (Opd.t rfl)) rfl rfl rfl <| ?_
          refine WL_nil ?_
          refine At_then ?_
          refine WC_cond (Opd.t rfl) (fun hc34 => ?_) (fun hc34 => ?_)
          ·
            replace hm := bif_t hc34 hm
            refine WC_seq ?_
            refine WC_region ?_
            obtain ⟨k35, hm⟩ := chk_some hm
            refine WL_op (Run_move (Opd.t rfl)) rfl rfl rfl <| WL_op (Run_move (Opd.t rfl)) rfl rfl rfl <| WL_op (Run_cutS Try.underlying9 (Opd.t rfl) ⟨_, (Opd.t rfl)⟩ rfl (fun _ => k35)) rfl rfl rfl <| ?_
            obtain ⟨r36, hr37, hm⟩ := bind_some' hm
            refine WL_call (f := 20) (first := []) (cap := []) (xs := [(.tmp 48)]) (vs := [(S (cut text0 at5 ((List.length text0) : Int)))]) (args := [(S (cut text0 at5 ((List.length text0) : Int)))]) Try.call20 Opd.f (.cons (Opd.t rfl) .nil) rfl rfl (lex_token_ok w14 hr37) ?_
            rintro _ w39 ⟨hx38, rfl⟩
            replace h4 := h4.ext hx38
            replace hS := hS.ext hx38
            refine WL_op (Run_move (Opd.t rfl)) rfl rfl rfl <| WL_op (Run_extract (vs := [(.agg #[(.int .i64 r36.1.1), (S r36.1.2.1), (.int .i64 r36.1.2.2.1), (.int .i64 r36.1.2.2.2)]), (.int .i64 r36.2)]) (Opd.t rfl) rfl) rfl rfl rfl <| WL_op (Run_extract (vs := [(.agg #[(.int .i64 r36.1.1), (S r36.1.2.1), (.int .i64 r36.1.2.2.1), (.int .i64 r36.1.2.2.2)]), (.int .i64 r36.2)]) (Opd.t rfl) rfl) rfl rfl rfl <| ?_
            obtain ⟨b40, hb41⟩ : ∃ b, w39.heap.size = b := ⟨_, rfl⟩
            refine WL_alloc (zs := [(.int .i64 0), (S ([])), (.int .i64 0), (.int .i64 0)]) ti34 rfl hb41 rfl ?_
            intro w42 hx43 hB44
            have mv45 : Mv (Mine [[], blk v3, []] M0) w39 (Mine [[], blk v3, [b40]] M0) w42 := Mv.newB hS hM 2 hx43 hb41 hB44.lt
            replace h4 := h4.keep (fun c hc => hx43.block c (h4.lt c hc)) mv45
            replace hS : St w0 [[], blk v3, [b40]] w42 := hS.newB 2 hx43 hb41 hB44.lt
            refine WL_store (us := [(.int .i64 r36.1.1), (S r36.1.2.1), (.int .i64 r36.1.2.2.1), (.int .i64 r36.1.2.2.2)]) (vs' := [(.int .i64 r36.1.1), (S r36.1.2.1), (.int .i64 r36.1.2.2.1), (.int .i64 r36.1.2.2.2)]) ti34 (Opd.t rfl) (Opd.t rfl) rfl rfl rfl hB44 rfl rfl ?_
            intro w47 hC48 hz49 hB51
            have mv50 : Mv (Mine [[], blk v3, [b40]] M0) w42 (Mine [[], blk v3, [b40]] M0) w47 := Mv.wrote hS hM 2 hC48
            replace h4 := h4.keep (fun c hc => hS.keep (i := 2) (j := 1) rfl hc hC48) mv50
            replace hS : St w0 [[], blk v3, [b40]] w47 := hS.wrote 2 hC48
            refine WL_op (Run_assign (Opd.t rfl)) rfl rfl rfl <| ?_
            refine WL_nil ?_
            refine At_then ?_
            refine WC_seq ?_
            refine WC_seq ?_
            refine WC_region ?_
            refine WL_op (Run_move (Opd.t rfl)) rfl rfl rfl <| WL_op (Run_neI (Opd.t rfl) Opd.c) rfl rfl rfl <| ?_
            refine WL_nil ?_
            refine At_then ?_
            refine WC_cond (Opd.t rfl) (fun hc52 => ?_) (fun hc52 => ?_)
            ·
              replace hm := bif_t hc52 hm
              refine WC_seq ?_
              refine WC_region ?_
              refine WL_op (Run_move (Opd.t rfl)) rfl rfl rfl <| WL_op (Run_move (Opd.t rfl)) rfl rfl rfl <| WL_op (Run_assign Opd.c) rfl rfl rfl <| WL_op (Run_assign (Opd.t rfl)) rfl rfl rfl <| WL_op (Run_assign (Opd.t rfl)) rfl rfl rfl <| ?_
              refine WL_nil ?_
              refine At_then ?_
              refine WC_ret ?_
              refine At_then_ret <| At_then_ret <| At_jmp_ret <| ?_
              refine At_r3 rfl (ResIs.t rfl) (ResIs.t rfl) (ResIs.t rfl) ?_
              cases hm
              exact ⟨hS.toExt, _, rfl, SRd.nil⟩
            ·
              replace hm := bif_f hc52 hm
              refine WC_skip ?_
              refine At_then ?_
              refine WC_seq ?_
              refine WC_region ?_
              refine WL_op (Run_move (Opd.t rfl)) rfl rfl rfl <| WL_op (Run_fieldAddr fo34_3 (Opd.t rfl)) rfl rfl rfl <| ?_
              refine WL_store (us := [(.int .i64 at5)]) (vs' := [(.int .i64 r36.1.1), (S r36.1.2.1), (.int .i64 r36.1.2.2.1), (.int .i64 at5)]) ti3 (Opd.t rfl) (Opd.t rfl) rfl rfl rfl hB51 rfl rfl ?_
              intro w53 hC54 hz55 hB57
              have mv56 : Mv (Mine [[], blk v3, [b40]] M0) w47 (Mine [[], blk v3, [b40]] M0) w53 := Mv.wrote hS hM 2 hC54
              replace h4 := h4.keep (fun c hc => hS.keep (i := 2) (j := 1) rfl hc hC54) mv56
              replace hS : St w0 [[], blk v3, [b40]] w53 := hS.wrote 2 hC54
              refine WL_nil ?_
              refine At_then ?_
              refine WC_seq ?_
              refine WC_region ?_
              refine WL_op (Run_move (Opd.t rfl)) rfl rfl rfl <| WL_op (Run_loadA (vs := [(.int .i64 r36.1.1), (S r36.1.2.1), (.int .i64 r36.1.2.2.1), (.int .i64 at5)]) Try.underlying34 rfl ti34 (Opd.t rfl) (fun _ => (hB57.part 0 rfl)) rfl) rfl rfl rfl <| ?_
              obtain ⟨b58, hb59⟩ : ∃ b, w53.heap.size = b := ⟨_, rfl⟩
              refine WL_buildSlice (zs := [(.int .i64 0), (S ([])), (.int .i64 0), (.int .i64 0)]) (cells := [(.int .i64 r36.1.1), (S r36.1.2.1), (.int .i64 r36.1.2.2.1), (.int .i64 at5)]) (parts := [(0, (.tmp 59))]) Try.underlying23 ti34 rfl rfl rfl (.cons (Opd.t rfl) .nil) (by kernel_rfl) hb59 rfl ?_
              intro w60 hx61 hB62
              have hf64 : ¬ Mine [[], blk v3, [b40]] M0 b58 := newB_free hS hM hb59
              replace h4 := h4.ext hx61
              replace hB57 := hB57.ext hx61
              replace hS := hS.ext hx61
              have h63 : SRd (RP (RI .i64) (RP RS (RP (RI .i64) (RI .i64)))) (Mine [[], blk v3, [b40]] M0) w60 (.slice (some ⟨b58, 0, none⟩) 1 1) ([(r36.1.1, r36.1.2.1, r36.1.2.2.1, at5)] : List (Int × Str × Int × Int)) := SRd.fresh (cells := [(.int .i64 r36.1.1), (S r36.1.2.1), (.int .i64 r36.1.2.2.1), (.int .i64 at5)]) hB62 hf64 rfl (ARd.cons (c := [(.int .i64 r36.1.1), (S r36.1.2.1), (.int .i64 r36.1.2.2.1), (.int .i64 at5)]) ⟨_, _, rfl, rfl, ⟨_, _, rfl, rfl, ⟨_, _, rfl, rfl, rfl⟩⟩⟩ ARd.nil)
              obtain ⟨k65, hm⟩ := chk_some hm
              refine WL_append (A := (RP (RI .i64) (RP RS (RP (RI .i64) (RI .i64))))) Try.underlying23 ti34 rfl (by decide) rfl (Opd.t rfl) (Opd.t rfl) hS hM (i := 1) rfl h4 h63 k65 ?_
              intro v66 w67 hC68 (hS69 : St w0 [[], blk v66, [b40]] w67) (mv70 : Mv (Mine [[], blk v3, [b40]] M0) w60 (Mine [[], blk v66, [b40]] M0) w67) h71
              replace hB57 := hB57.keep (hS.keep (i := 1) (j := 2) rfl (List.mem_singleton.2 rfl) hC68)
              replace hS := hS69
              refine WL_op (Run_assign (Opd.t rfl)) rfl rfl rfl <| ?_
              refine WL_nil ?_
              refine At_then ?_
              refine WC_seq ?_
              refine WC_region ?_
              refine WL_op (Run_move (Opd.t rfl)) rfl rfl rfl <| WL_op (Run_fieldAddr fo34_1 (Opd.t rfl)) rfl rfl rfl <| WL_op (Run_load1 (v := (S r36.1.2.1)) Try.underlying9 rfl (Opd.t rfl) (fun _ => (hB57.part 1 rfl))) rfl rfl rfl <| WL_op (Run_lenS Try.underlying9 (Opd.t rfl)) rfl rfl rfl <| WL_op (Run_add (Opd.t rfl) (Opd.t rfl)) rfl rfl rfl <| WL_op (Run_assign (Opd.t rfl)) rfl rfl rfl <| ?_
              refine WL_nil ?_
              refine At_then ?_
              refine WC_goto ?_
              refine At_then_goto <| ?_
              have mv72 : Mv (Mine [[], blk v66, [b40]] M0) w67 (Mine [[], blk v66, []] M0) w67 := Mv.drop w67 2
              replace h71 := h71.keep (fun _ _ => rfl) mv72
              replace hS : St w0 [[], blk v66, []] w67 := hS.drop 2
              exact At_jump_first hag ((out2 ++ ([(r36.1.1, r36.1.2.1, r36.1.2.2.1, at5)] : List (Int × Str × Int × Int))), (IntKind.i64.wrap (at5 + (List.length r36.1.2.1 : Int)))) v66 hm ⟨hS, h71⟩ rfl
          ·
            replace hm := bif_f hc34 hm
            refine WC_skip ?_
            refine At_then ?_
            refine WC_seq ?_
            refine WC_region ?_
            refine WL_op (Run_move (Opd.t rfl)) rfl rfl rfl <| WL_op (Run_move (Opd.t rfl)) rfl rfl rfl <| WL_op (Run_build (parts := [(0, (.const (.int .i64 4))), (3, (.tmp 68))]) (v := (.agg #[(.int .i64 4), (S ([])), (.int .i64 0), (.int .i64 at5)])) (.cons Opd.c (.cons (Opd.t rfl) .nil)) (fun _ => by kernel_rfl)) rfl rfl rfl <| ?_
            obtain ⟨b73, hb74⟩ : ∃ b, w14.heap.size = b := ⟨_, rfl⟩
            refine WL_buildSlice (zs := [(.int .i64 0), (S ([])), (.int .i64 0), (.int .i64 0)]) (cells := [(.int .i64 4), (S ([])), (.int .i64 0), (.int .i64 at5)]) (parts := [(0, (.tmp 69))]) Try.underlying23 ti34 rfl rfl rfl (.cons (Opd.t rfl) .nil) (by kernel_rfl) hb74 rfl ?_
            intro w75 hx76 hB77
            have hf79 : ¬ Mine [[], blk v3, []] M0 b73 := newB_free hS hM hb74
            replace h4 := h4.ext hx76
            replace hS := hS.ext hx76
            have h78 : SRd (RP (RI .i64) (RP RS (RP (RI .i64) (RI .i64)))) (Mine [[], blk v3, []] M0) w75 (.slice (some ⟨b73, 0, none⟩) 1 1) ([(4, [], 0, at5)] : List (Int × Str × Int × Int)) := SRd.fresh (cells := [(.int .i64 4), (S ([])), (.int .i64 0), (.int .i64 at5)]) hB77 hf79 rfl (ARd.cons (c := [(.int .i64 4), (S ([])), (.int .i64 0), (.int .i64 at5)]) ⟨_, _, rfl, rfl, ⟨_, _, rfl, rfl, ⟨_, _, rfl, rfl, rfl⟩⟩⟩ ARd.nil)
            obtain ⟨k80, hm⟩ := chk_some hm
            refine WL_append (A := (RP (RI .i64) (RP RS (RP (RI .i64) (RI .i64))))) Try.underlying23 ti34 rfl (by decide) rfl (Opd.t rfl) (Opd.t rfl) hS hM (i := 1) rfl h4 h78 k80 ?_
            intro v81 w82 hC83 (hS84 : St w0 [[], blk v81, []] w82) (mv85 : Mv (Mine [[], blk v3, []] M0) w75 (Mine [[], blk v81, []] M0) w82) h86
            replace hS := hS84
            refine WL_op (Run_assign (Opd.t rfl)) rfl rfl rfl <| WL_op (Run_assign Opd.c) rfl rfl rfl <| WL_op (Run_assign Opd.c) rfl rfl rfl <| ?_
            refine WL_nil ?_
            refine At_then ?_
            refine WC_ret ?_
            refine At_jmp_ret <| ?_
            refine At_r3 rfl (ResIs.t rfl) (ResIs.t rfl) (ResIs.t rfl) ?_
            cases hm
            exact ⟨hS.toExt, _, rfl, h86.done hS hM (i := 1) rfl⟩
  ·
    rintro again7 ⟨out2, at5⟩ v3 w6 hm ⟨hS, h4⟩
    unfold lex_Tokens_G1 at hm
    dsimp only at hm
    refine WC_seq ?_
    refine WC_skip ?_
    refine At_then ?_
    refine WC_seq ?_
    refine WC_seq ?_
    refine WC_region ?_
    obtain ⟨b8, e9, hm⟩ := letv_some hm
    obtain ⟨k10, hm⟩ := chkG_some hm
    refine WL_op (Run_move (Opd.t rfl)) rfl rfl rfl <| WL_op (Run_move (Opd.t rfl)) rfl rfl rfl <| WL_op (Run_lenS Try.underlying9 (Opd.t rfl)) rfl rfl rfl <| WL_op (Run.eqB (Run_ltI (Opd.t rfl) (Opd.t rfl)) e9) rfl rfl rfl <| WL_op (Run_move (Opd.t rfl)) rfl rfl rfl <| WL_opG rfl rfl rfl rfl guard_pos (Run_move (Opd.t rfl)) rfl rfl <| WL_opG rfl rfl rfl rfl guard_pos (Run_move (Opd.t rfl)) rfl rfl <| WL_opG rfl rfl rfl rfl guard_pos (Run_idxS Try.underlying9 (Opd.g rfl id) (Opd.g rfl id) k10) rfl rfl <| ?_
    obtain ⟨r11, hr12, -, hm⟩ := callG_some hm
    refine WL_callG rfl rfl rfl guard_pos (f := 17) (first := []) (cap := []) (xs := [(.tmp 19)]) (vs := [(.int .u8 (byteAt text0 at5))]) (args := [(.int .u8 (byteAt text0 at5))]) Try.call17 Opd.f (.cons (Opd.g rfl id) .nil) rfl rfl (fun hg => lex_blank_ok w6 (hr12 hg)) ?_
    intro v15 w14 hv16 hz17
    have hx13 : Ext w6 w14 := Ext.ofG (fun hg => (hv16 hg).1) hz17
    replace h4 := h4.ext hx13
    replace hS := hS.ext hx13
    refine WL_sub1 (v := (.bool r11)) (fun hg => (hv16 hg).2) ?_
    obtain ⟨b18, e19, hm⟩ := letv_some hm
    refine WL_op (Run.eqB (Run_and (Opd.t rfl) (Opd.g rfl id)) e19) rfl rfl rfl <| ?_
    refine WL_nil ?_
    refine At_then ?_
    refine WC_cond (Opd.t rfl) (fun hc20 => ?_) (fun hc20 => ?_)
    ·
      replace hm := bif_t hc20 hm
      refine WC_seq ?_
      refine WC_region ?_
      refine WL_op (Run_move (Opd.t rfl)) rfl rfl rfl <| WL_op (Run_add (Opd.t rfl) Opd.c) rfl rfl rfl <| WL_op (Run_assign (Opd.t rfl)) rfl rfl rfl <| ?_
      refine WL_nil ?_
      refine At_then ?_
      refine WC_goto ?_
      refine At_then_goto <| ?_
      exact At_jump (out2, (IntKind.i64.wrap (at5 + 1))) v3 hm ⟨hS, h4⟩ rfl
    ·
      replace hm := bif_f hc20 hm
      refine WC_skip ?_
      refine At_then ?_
      refine WC_seq ?_
      refine WC_seq ?_
      refine WC_region ?_
      obtain ⟨b21, e22, hm⟩ := letv_some hm
      obtain ⟨k23, hm⟩ := chkG_some hm
      refine WL_op (Run_move (Opd.t rfl)) rfl rfl rfl <| WL_op (Run_move (Opd.t rfl)) rfl rfl rfl <| WL_op (Run_lenS Try.underlying9 (Opd.t rfl)) rfl rfl rfl <| WL_op (Run.eqB (Run_ltI (Opd.t rfl) (Opd.t rfl)) e22) rfl rfl rfl <| WL_op (Run_move (Opd.t rfl)) rfl rfl rfl <| WL_opG rfl rfl rfl rfl guard_pos (Run_move (Opd.t rfl)) rfl rfl <| WL_opG rfl rfl rfl rfl guard_pos (Run_move (Opd.t rfl)) rfl rfl <| WL_opG rfl rfl rfl rfl guard_pos (Run_idxS Try.underlying9 (Opd.g rfl id) (Opd.g rfl id) k23) rfl rfl <| ?_
      obtain ⟨b24, e25, hm⟩ := letv_some hm
      obtain ⟨b26, e27, hm⟩ := letv_some hm
      refine WL_opG rfl rfl rfl rfl guard_pos (Run.eqB (Run_eqI (Opd.g rfl id) Opd.c) e25) rfl rfl <| WL_op (Run.eqB (Run_and (Opd.t rfl) (Opd.g rfl id)) e27) rfl rfl rfl <| ?_
      refine WL_nil ?_
      refine At_then ?_
      refine WC_cond (Opd.t rfl) (fun hc28 => ?_) (fun hc28 => ?_)
      ·
        replace hm := bif_t hc28 hm
        refine WC_seq ?_
        refine WC_region ?_
        obtain ⟨k29, hm⟩ := chk_some hm
        refine WL_op (Run_move (Opd.t rfl)) rfl rfl rfl <| WL_op (Run_move (Opd.t rfl)) rfl rfl rfl <| WL_op (Run_move (Opd.t rfl)) rfl rfl rfl <| WL_op (Run_cutS Try.underlying9 (Opd.t rfl) ⟨_, (Opd.t rfl)⟩ rfl (fun _ => k29)) rfl rfl rfl <| ?_
        obtain ⟨r30, hr31, hm⟩ := bind_some' hm
        refine WL_call (f := 18) (first := []) (cap := []) (xs := [(.tmp 37), (.func 19)]) (vs := [(S (cut text0 at5 ((List.length text0) : Int))), (.func (.func 19) #[] #[])]) (args := [(S (cut text0 at5 ((List.length text0) : Int))), (.func (.func 19) #[] #[])]) Try.call18 Opd.f (.cons (Opd.t rfl) (.cons Opd.f .nil)) rfl rfl (lex_run__lex_Tokens_c1_ok w14 hr31) ?_
        rintro _ w33 ⟨hx32, rfl⟩
        replace h4 := h4.ext hx32
        replace hS := hS.ext hx32
        refine WL_op (Run_lenS Try.underlying9 (Opd.t rfl)) rfl rfl rfl <| WL_op (Run_add (Opd.t rfl) (Opd.t rfl)) rfl rfl rfl <| WL_op (Run_assign (Opd.t rfl)) rfl rfl rfl <| ?_
        refine WL_nil ?_
        refine At_then ?_
        refine WC_goto ?_
        refine At_then_goto <| ?_
        exact At_jump (out2, (IntKind.i64.wrap (at5 + (List.length r30 : Int)))) v3 hm ⟨hS, h4⟩ rfl
      ·
        replace hm := bif_f hc28 hm
        refine WC_skip ?_
        refine At_then ?_
        refine WC_seq ?_
        refine WC_seq ?_
        refine WC_region ?_
        refine WL_op (Run_move (Opd.t rfl)) rfl rfl rfl <| WL_op (Run_move (Opd.t rfl)) rfl rfl rfl <| WL_op (Run_lenS Try.underlying9 (Opd.t rfl)) rfl rfl rfl <| WL_op (Run_ltI (Opd.t rfl) (Opd.t rfl)) rfl rfl rfl <| ?_
        refine WL_nil ?_
        refine At_then ?_
        refine WC_cond (Opd.t rfl) (fun hc34 => ?_) (fun hc34 => ?_)
        ·
          replace hm := bif_t hc34 hm
          refine WC_seq ?_
          refine WC_region ?_
          obtain ⟨k35, hm⟩ := chk_some hm
          refine WL_op (Run_move (Opd.t rfl)) rfl rfl rfl <| WL_op (Run_move (Opd.t rfl)) rfl rfl rfl <| WL_op (Run_cutS Try.underlying9 (Opd.t rfl) ⟨_, (Opd.t rfl)⟩ rfl (fun _ => k35)) rfl rfl rfl <| ?_
          obtain ⟨r36, hr37, hm⟩ := bind_some' hm
          refine WL_call (f := 20) (first := []) (cap := []) (xs := [(.tmp 48)]) (vs := [(S (cut text0 at5 ((List.length text0) : Int)))]) (args := [(S (cut text0 at5 ((List.length text0) : Int)))]) Try.call20 Opd.f (.cons (Opd.t rfl) .nil) rfl rfl (lex_token_ok w14 hr37) ?_
          rintro _ w39 ⟨hx38, rfl⟩
          replace h4 := h4.ext hx38
          replace hS := hS.ext hx38
          refine WL_op (Run_move (Opd.t rfl)) rfl rfl rfl <| WL_op (Run_extract (vs := [(.agg #[(.int .i64 r36.1.1), (S r36.1.2.1), (.int .i64 r36.1.2.2.1), (.int .i64 r36.1.2.2.2)]), (.int .i64 r36.2)]) (Opd.t rfl) rfl) rfl rfl rfl <| WL_op (Run_extract (vs := [(.agg #[(.int .i64 r36.1.1), (S r36.1.2.1), (.int .i64 r36.1.2.2.1), (.int .i64 r36.1.2.2.2)]), (.int .i64 r36.2)]) (Opd.t rfl) rfl) rfl rfl rfl <| ?_
          obtain ⟨b40, hb41⟩ : ∃ b, w39.heap.size = b := ⟨_, rfl⟩
          refine WL_alloc (zs := [(.int .i64 0), (S ([])), (.int .i64 0), (.int .i64 0)]) ti34 rfl hb41 rfl ?_
          intro w42 hx43 hB44
          have mv45 : Mv (Mine [[], blk v3, []] M0) w39 (Mine [[], blk v3, [b40]] M0) w42 := Mv.newB hS hM 2 hx43 hb41 hB44.lt
          replace h4 := h4.keep (fun c hc => hx43.block c (h4.lt c hc)) mv45
          replace hS : St w0 [[], blk v3, [b40]] w42 := hS.newB 2 hx43 hb41 hB44.lt
          refine WL_store (us := [(.int .i64 r36.1.1), (S r36.1.2.1), (.int .i64 r36.1.2.2.1), (.int .i64 r36.1.2.2.2)]) (vs' := [(.int .i64 r36.1.1), (S r36.1.2.1), (.int .i64 r36.1.2.2.1), (.int .i64 r36.1.2.2.2)]) ti34 (Opd.t rfl) (Opd.t rfl) rfl rfl rfl hB44 rfl rfl ?_
          intro w47 hC48 hz49 hB51
          have mv50 : Mv (Mine [[], blk v3, [b40]] M0) w42 (Mine [[], blk v3, [b40]] M0) w47 := Mv.wrote hS hM 2 hC48
          replace h4 := h4.keep (fun c hc => hS.keep (i := 2) (j := 1) rfl hc hC48) mv50
          replace hS : St w0 [[], blk v3, [b40]] w47 := hS.wrote 2 hC48
          refine WL_op (Run_assign (Opd.t rfl)) rfl rfl rfl <| ?_
          refine WL_nil ?_
          refine At_then ?_
          refine WC_seq ?_
          refine WC_seq ?_
          refine WC_region ?_
          refine WL_op (Run_move (Opd.t rfl)) rfl rfl rfl <| WL_op (Run_neI (Opd.t rfl) Opd.c) rfl rfl rfl <| ?_
          refine WL_nil ?_
          refine At_then ?_
          refine WC_cond (Opd.t rfl) (fun hc52 => ?_) (fun hc52 => ?_)
          ·
            replace hm := bif_t hc52 hm
            refine WC_seq ?_
            refine WC_region ?_
            refine WL_op (Run_move (Opd.t rfl)) rfl rfl rfl <| WL_op (Run_move (Opd.t rfl)) rfl rfl rfl <| WL_op (Run_assign Opd.c) rfl rfl rfl <| WL_op (Run_assign (Opd.t rfl)) rfl rfl rfl <| WL_op (Run_assign (Opd.t rfl)) rfl rfl rfl <| ?_
            refine WL_nil ?_
            refine At_then ?_
            refine WC_ret ?_
            refine At_then_ret <| At_then_ret <| At_jmp_ret <| ?_
            refine At_r3 rfl (ResIs.t rfl) (ResIs.t rfl) (ResIs.t rfl) ?_
            cases hm
            exact ⟨hS.toExt, _, rfl, SRd.nil⟩
          ·
            replace hm := bif_f hc52 hm
            refine WC_skip ?_
            refine At_then ?_
            refine WC_seq ?_
            refine WC_region ?_
            refine WL_op (Run_move (Opd.t rfl)) rfl rfl rfl <| WL_op (Run_fieldAddr fo34_3 (Opd.t rfl)) rfl rfl rfl <| ?_
            refine WL_store (us := [(.int .i64 at5)]) (vs' := [(.int .i64 r36.1.1), (S r36.1.2.1), (.int .i64 r36.1.2.2.1), (.int .i64 at5)]) ti3 (Opd.t rfl) (Opd.t rfl) rfl rfl rfl hB51 rfl rfl ?_
            intro w53 hC54 hz55 hB57
            have mv56 : Mv (Mine [[], blk v3, [b40]] M0) w47 (Mine [[], blk v3, [b40]] M0) w53 := Mv.wrote hS hM 2 hC54
            replace h4 := h4.keep (fun c hc => hS.keep (i := 2) (j := 1) rfl hc hC54) mv56
            replace hS : St w0 [[], blk v3, [b40]] w53 := hS.wrote 2 hC54
            refine WL_nil ?_
            refine At_then ?_
            refine WC_seq ?_
            refine WC_region ?_
            refine WL_op (Run_move (Opd.t rfl)) rfl rfl rfl <| WL_op (Run_loadA (vs := [(.int .i64 r36.1.1), (S r36.1.2.1), (.int .i64 r36.1.2.2.1), (.int .i64 at5)]) Try.underlying34 rfl ti34 (Opd.t rfl) (fun _ => (hB57.part 0 rfl)) rfl) rfl rfl rfl <| ?_
            obtain ⟨b58, hb59⟩ : ∃ b, w53.heap.size = b := ⟨_, rfl⟩
            refine WL_buildSlice (zs := [(.int .i64 0), (S ([])), (.int .i64 0), (.int .i64 0)]) (cells := [(.int .i64 r36.1.1), (S r36.1.2.1), (.int .i64 r36.1.2.2.1), (.int .i64 at5)]) (parts := [(0, (.tmp 59))]) Try.underlying23 ti34 rfl rfl rfl (.cons (Opd.t rfl) .nil) (by kernel_rfl) hb59 rfl ?_
            intro w60 hx61 hB62
            have hf64 : ¬ Mine [[], blk v3, [b40]] M0 b58 := newB_free hS hM hb59
            replace h4 := h4.ext hx61
            replace hB57 := hB57.ext hx61
            replace hS := hS.ext hx61
            have h63 : SRd (RP (RI .i64) (RP RS (RP (RI .i64) (RI .i64)))) (Mine [[], blk v3, [b40]] M0) w60 (.slice (some ⟨b58, 0, none⟩) 1 1) ([(r36.1.1, r36.1.2.1, r36.1.2.2.1, at5)] : List (Int × Str × Int × Int)) := SRd.fresh (cells := [(.int .i64 r36.1.1), (S r36.1.2.1), (.int .i64 r36.1.2.2.1), (.int .i64 at5)]) hB62 hf64 rfl (ARd.cons (c := [(.int .i64 r36.1.1), (S r36.1.2.1), (.int .i64 r36.1.2.2.1), (.int .i64 at5)]) ⟨_, _, rfl, rfl, ⟨_, _, rfl, rfl, ⟨_, _, rfl, rfl, rfl⟩⟩⟩ ARd.nil)
            obtain ⟨k65, hm⟩ := chk_some hm
            refine WL_append (A := (RP (RI .i64) (RP RS (RP (RI .i64) (RI .i64))))) Try.underlying23 ti34 rfl (by decide) rfl (Opd.t rfl) (Opd.t rfl) hS hM (i := 1) rfl h4 h63 k65 ?_
            intro v66 w67 hC68 (hS69 : St w0 [[], blk v66, [b40]] w67) (mv70 : Mv (Mine [[], blk v3, [b40]] M0) w60 (Mine [[], blk v66, [b40]] M0) w67) h71
            replace hB57 := hB57.keep (hS.keep (i := 1) (j := 2) rfl (List.mem_singleton.2 rfl) hC68)
            replace hS := hS69
            refine WL_op (Run_assign (Opd.t rfl)) rfl rfl rfl <| ?_
            refine WL_nil ?_
            refine At_then ?_
            refine WC_seq ?_
            refine WC_region ?_
            refine WL_op (Run_move (Opd.t rfl)) rfl rfl rfl <| WL_op (Run_fieldAddr fo34_1 (Opd.t rfl)) rfl rfl rfl <| WL_op (Run_load1 (v := (S r36.1.2.1)) Try.underlying9 rfl (Opd.t rfl) (fun _ => (hB57.part 1 rfl))) rfl rfl rfl <| WL_op (Run_lenS Try.underlying9 (Opd.t rfl)) rfl rfl rfl <| WL_op (Run_add (Opd.t rfl) (Opd.t rfl)) rfl rfl rfl <| WL_op (Run_assign (Opd.t rfl)) rfl rfl rfl <| ?_
            refine WL_nil ?_
            refine At_then ?_
            refine WC_goto ?_
            refine At_then_goto <| ?_
            have mv72 : Mv (Mine [[], blk v66, [b40]] M0) w67 (Mine [[], blk v66, []] M0) w67 := Mv.drop w67 2
            replace h71 := h71.keep (fun _ _ => rfl) mv72
            replace hS : St w0 [[], blk v66, []] w67 := hS.drop 2
            exact At_jump ((out2 ++ ([(r36.1.1, r36.1.2.1, r36.1.2.2.1, at5)] : List (Int × Str × Int × Int))), (IntKind.i64.wrap (at5 + (List.length r36.1.2.1 : Int)))) v66 hm ⟨hS, h71⟩ rfl
        ·
          replace hm := bif_f hc34 hm
          refine WC_skip ?_
          refine At_then ?_
          refine WC_seq ?_
          refine WC_region ?_
          refine WL_op (Run_move (Opd.t rfl)) rfl rfl rfl <| WL_op (Run_move (Opd.t rfl)) rfl rfl rfl <| WL_op (Run_build (parts := [(0, (.const (.int .i64 4))), (3, (.tmp 68))]) (v := (.agg #[(.int .i64 4), (S ([])), (.int .i64 0), (.int .i64 at5)])) (.cons Opd.c (.cons (Opd.t rfl) .nil)) (fun _ => by kernel_rfl)) rfl rfl rfl <| ?_
          obtain ⟨b73, hb74⟩ : ∃ b, w14.heap.size = b := ⟨_, rfl⟩
          refine WL_buildSlice (zs := [(.int .i64 0), (S ([])), (.int .i64 0), (.int .i64 0)]) (cells := [(.int .i64 4), (S ([])), (.int .i64 0), (.int .i64 at5)]) (parts := [(0, (.tmp 69))]) Try.underlying23 ti34 rfl rfl rfl (.cons (Opd.t rfl) .nil) (by kernel_rfl) hb74 rfl ?_
          intro w75 hx76 hB77
          have hf79 : ¬ Mine [[], blk v3, []] M0 b73 := newB_free hS hM hb74
          replace h4 := h4.ext hx76
          replace hS := hS.ext hx76
          have h78 : SRd (RP (RI .i64) (RP RS (RP (RI .i64) (RI .i64)))) (Mine [[], blk v3, []] M0) w75 (.slice (some ⟨b73, 0, none⟩) 1 1) ([(4, [], 0, at5)] : List (Int × Str × Int × Int)) := SRd.fresh (cells := [(.int .i64 4), (S ([])), (.int .i64 0), (.int .i64 at5)]) hB77 hf79 rfl (ARd.cons (c := [(.int .i64 4), (S ([])), (.int .i64 0), (.int .i64 at5)]) ⟨_, _, rfl, rfl, ⟨_, _, rfl, rfl, ⟨_, _, rfl, rfl, rfl⟩⟩⟩ ARd.nil)
          obtain ⟨k80, hm⟩ := chk_some hm
          refine WL_append (A := (RP (RI .i64) (RP RS (RP (RI .i64) (RI .i64))))) Try.underlying23 ti34 rfl (by decide) rfl (Opd.t rfl) (Opd.t rfl) hS hM (i := 1) rfl h4 h78 k80 ?_
          intro v81 w82 hC83 (hS84 : St w0 [[], blk v81, []] w82) (mv85 : Mv (Mine [[], blk v3, []] M0) w75 (Mine [[], blk v81, []] M0) w82) h86
          replace hS := hS84
          refine WL_op (Run_assign (Opd.t rfl)) rfl rfl rfl <| WL_op (Run_assign Opd.c) rfl rfl rfl <| WL_op (Run_assign Opd.c) rfl rfl rfl <| ?_
          refine WL_nil ?_
          refine At_then ?_
          refine WC_ret ?_
          refine At_jmp_ret <| ?_
          refine At_r3 rfl (ResIs.t rfl) (ResIs.t rfl) (ResIs.t rfl) ?_
          cases hm
          exact ⟨hS.toExt, _, rfl, h86.done hS hM (i := 1) rfl⟩

theorem scrutinylaw12_shown_ok (w0 : World) {r : Bool} (hm : scrutinylaw12_shown = some r) :
    CallsR Try.prog 10 [] w0 (fun v w' => Ext w0 w' ∧ v = (.bool r)) := by
  obtain ⟨M0, hM⟩ : ∃ M0 : Nat → Prop, ∀ b, M0 b → b < w0.heap.size := ⟨fun _ => False, fun _ h => h.elim⟩
  have hS : St w0 [] w0 := St.start w0 0
  refine CallsR_enter Try.func10 rfl Try.ntmps10 rfl ?_
  unfold scrutinylaw12_shown at hm
  refine WC_seq ?_
  refine WC_region ?_
  refine WL_op (Run_assign Opd.c) rfl rfl rfl <| ?_
  refine WL_nil ?_
  refine At_then ?_
  refine WC_seq ?_
  refine WC_region ?_
  obtain ⟨r1, hr2, hm⟩ := bind_some' hm
  refine WL_call (f := 11) (first := []) (cap := []) (xs := [(.const (.string ⟨#[120, 49, 32, 60, 61, 32, 49, 48, 32, 35, 32, 101, 110, 100]⟩))]) (vs := [(S ([120, 49, 32, 60, 61, 32, 49, 48, 32, 35, 32, 101, 110, 100]))]) (args := [(S ([120, 49, 32, 60, 61, 32, 49, 48, 32, 35, 32, 101, 110, 100]))]) Try.call11 Opd.f (.cons Opd.c .nil) rfl rfl (lex_Tokens_ok w0 (Mine [] M0) (mine_lt hS hM) hr2) ?_
  rintro _ w6 ⟨hx5, v3, rfl, h4⟩
  replace hS := hS.ext hx5
  refine WL_op (Run_move (Opd.t rfl)) rfl rfl rfl <| WL_op (Run_extract (vs := [v3, (.int .i64 r1.2.1), (.int .i64 r1.2.2)]) (Opd.t rfl) rfl) rfl rfl rfl <| WL_op (Run_extract (vs := [v3, (.int .i64 r1.2.1), (.int .i64 r1.2.2)]) (Opd.t rfl) rfl) rfl rfl rfl <| WL_op (Run_extract (vs := [v3, (.int .i64 r1.2.1), (.int .i64 r1.2.2)]) (Opd.t rfl) rfl) rfl rfl rfl <| WL_op (Run_assign (Opd.t rfl)) rfl rfl rfl <| WL_op (Run_assign (Opd.t rfl)) rfl rfl rfl <| WL_op (Run_assign (Opd.t rfl)) rfl rfl rfl <| ?_
  refine WL_nil ?_
  refine At_then ?_
  refine WC_seq ?_
  refine WC_region ?_
  obtain ⟨r7, hr8, hm⟩ := bind_some' hm
  refine WL_call (f := 11) (first := []) (cap := []) (xs := [(.const (.string ⟨#[97, 98, 32, 36]⟩))]) (vs := [(S ([97, 98, 32, 36]))]) (args := [(S ([97, 98, 32, 36]))]) Try.call11 Opd.f (.cons Opd.c .nil) rfl rfl (lex_Tokens_ok w6 (Mine [] M0) (mine_lt hS hM) hr8) ?_
  rintro _ w12 ⟨hx11, v9, rfl, h10⟩
  replace h4 := h4.mv (hx11.mv _)
  replace hS := hS.ext hx11
  refine WL_op (Run_move (Opd.t rfl)) rfl rfl rfl <| WL_op (Run_extract (vs := [v9, (.int .i64 r7.2.1), (.int .i64 r7.2.2)]) (Opd.t rfl) rfl) rfl rfl rfl <| WL_op (Run_extract (vs := [v9, (.int .i64 r7.2.1), (.int .i64 r7.2.2)]) (Opd.t rfl) rfl) rfl rfl rfl <| WL_op (Run_extract (vs := [v9, (.int .i64 r7.2.1), (.int .i64 r7.2.2)]) (Opd.t rfl) rfl) rfl rfl rfl <| WL_op (Run_assign (Opd.t rfl)) rfl rfl rfl <| WL_op (Run_assign (Opd.t rfl)) rfl rfl rfl <| WL_op (Run_assign (Opd.t rfl)) rfl rfl rfl <| ?_
  refine WL_nil ?_
  refine At_then ?_
  refine WC_seq ?_
  refine WC_region ?_
  obtain ⟨r13, hr14, hm⟩ := bind_some' hm
  refine WL_call (f := 11) (first := []) (cap := []) (xs := [(.const (.string ⟨#[49, 48, 55, 51, 55, 52, 49, 56, 50, 53]⟩))]) (vs := [(S ([49, 48, 55, 51, 55, 52, 49, 56, 50, 53]))]) (args := [(S ([49, 48, 55, 51, 55, 52, 49, 56, 50, 53]))]) Try.call11 Opd.f (.cons Opd.c .nil) rfl rfl (lex_Tokens_ok w12 (Mine [] M0) (mine_lt hS hM) hr14) ?_
  rintro _ w18 ⟨hx17, v15, rfl, h16⟩
  replace h4 := h4.mv (hx17.mv _)
  replace hS := hS.ext hx17
  refine WL_op (Run_move (Opd.t rfl)) rfl rfl rfl <| WL_op (Run_extract (vs := [v15, (.int .i64 r13.2.1), (.int .i64 r13.2.2)]) (Opd.t rfl) rfl) rfl rfl rfl <| WL_op (Run_extract (vs := [v15, (.int .i64 r13.2.1), (.int .i64 r13.2.2)]) (Opd.t rfl) rfl) rfl rfl rfl <| WL_op (Run_extract (vs := [v15, (.int .i64 r13.2.1), (.int .i64 r13.2.2)]) (Opd.t rfl) rfl) rfl rfl rfl <| WL_op (Run_assign (Opd.t rfl)) rfl rfl rfl <| WL_op (Run_assign (Opd.t rfl)) rfl rfl rfl <| WL_op (Run_assign (Opd.t rfl)) rfl rfl rfl <| ?_
  refine WL_nil ?_
  refine At_then ?_
  refine WC_seq ?_
  refine WC_seq ?_
  refine WC_region ?_
  refine WL_op (Run_move (Opd.t rfl)) rfl rfl rfl <| WL_op (Run_lenSl Try.underlying23 (Opd.t rfl) h4.len) rfl rfl rfl <| WL_op (Run_neI (Opd.t rfl) Opd.c) rfl rfl rfl <| ?_
  refine WL_nil ?_
  refine At_then ?_
  refine WC_cond (Opd.t rfl) (fun hc19 => ?_) (fun hc19 => ?_)
  ·
    replace hm := bif_t hc19 hm
    refine WC_seq ?_
    refine WC_region ?_
    refine WL_op (Run_assign Opd.c) rfl rfl rfl <| ?_
    refine WL_nil ?_
    refine At_then ?_
    refine WC_ret ?_
    refine At_then_ret <| ?_
    refine At_r1 rfl (ResIs.t rfl) ?_
    cases hm
    exact ⟨hS.toExt, rfl⟩
  ·
    replace hm := bif_f hc19 hm
    refine WC_skip ?_
    refine At_then ?_
    refine WC_seq ?_
    refine WC_region ?_
    obtain ⟨b20, e21, hm⟩ := letv_some hm
    obtain ⟨e22, he23, -, hm⟩ := callG_some hm
    obtain ⟨p24, vs25, hE26, hC27, hR28⟩ := SRd.atG (fun _ => h4) he23
    replace hC27 : b20 = true → CellsAt w18 p24 [(.int .i64 e22.1), (S e22.2.1), (.int .i64 e22.2.2.1), (.int .i64 e22.2.2.2)] := fun hg => openT34 (hR28 hg) ▸ hC27 hg
    obtain ⟨b29, e30, hm⟩ := letv_some hm
    refine WL_op (Run_move (Opd.t rfl)) rfl rfl rfl <| WL_op (Run.eqB (Run_eqI (Opd.t rfl) Opd.c) e21) rfl rfl rfl <| WL_op (Run_move (Opd.t rfl)) rfl rfl rfl <| WL_opG rfl rfl rfl rfl guard_pos (Run_move (Opd.t rfl)) rfl rfl <| WL_opG rfl rfl rfl rfl guard_pos (Run_idxAddr Try.underlying23 ti34 (Opd.g rfl id) Opd.c hE26) rfl rfl <| WL_opG rfl rfl rfl rfl guard_pos (Run_loadA (vs := [(.int .i64 e22.1), (S e22.2.1), (.int .i64 e22.2.2.1), (.int .i64 e22.2.2.2)]) Try.underlying34 rfl ti34 (Opd.g rfl id) (fun hg => ((hC27 hg).sub 0 rfl)) rfl) rfl rfl <| WL_opG rfl rfl rfl rfl guard_pos (Run_build (parts := [(0, (.const (.int .i64 1))), (1, (.const (.string ⟨#[120, 49]⟩)))]) (v := (.agg #[(.int .i64 1), (S ([120, 49])), (.int .i64 0), (.int .i64 0)])) (.cons Opd.c (.cons Opd.c .nil)) (fun _ => by kernel_rfl)) rfl rfl <| WL_opG rfl rfl rfl rfl guard_pos (Run.eqB (Run_bin (Opd.g rfl id) (Opd.g rfl id) (run_eqT34 _ _ _ _ _ _ _ _ _)) e30) rfl rfl <| ?_
    obtain ⟨b31, e32, hm⟩ := letv_some hm
    obtain ⟨e33, he34, -, hm⟩ := callG_some hm
    obtain ⟨p35, vs36, hE37, hC38, hR39⟩ := SRd.atG (fun _ => h4) he34
    replace hC38 : b31 = true → CellsAt w18 p35 [(.int .i64 e33.1), (S e33.2.1), (.int .i64 e33.2.2.1), (.int .i64 e33.2.2.2)] := fun hg => openT34 (hR39 hg) ▸ hC38 hg
    obtain ⟨b40, e41, hm⟩ := letv_some hm
    obtain ⟨b42, e43, hm⟩ := letv_some hm
    refine WL_op (Run.eqB (Run_and (Opd.t rfl) (Opd.g rfl id)) e32) rfl rfl rfl <| WL_op (Run_move (Opd.t rfl)) rfl rfl rfl <| WL_opG rfl rfl rfl rfl guard_pos (Run_move (Opd.t rfl)) rfl rfl <| WL_opG rfl rfl rfl rfl guard_pos (Run_idxAddr Try.underlying23 ti34 (Opd.g rfl id) Opd.c hE37) rfl rfl <| WL_opG rfl rfl rfl rfl guard_pos (Run_loadA (vs := [(.int .i64 e33.1), (S e33.2.1), (.int .i64 e33.2.2.1), (.int .i64 e33.2.2.2)]) Try.underlying34 rfl ti34 (Opd.g rfl id) (fun hg => ((hC38 hg).sub 0 rfl)) rfl) rfl rfl <| WL_opG rfl rfl rfl rfl guard_pos (Run_build (parts := [(0, (.const (.int .i64 3))), (1, (.const (.string ⟨#[60, 61]⟩))), (3, (.const (.int .i64 3)))]) (v := (.agg #[(.int .i64 3), (S ([60, 61])), (.int .i64 0), (.int .i64 3)])) (.cons Opd.c (.cons Opd.c (.cons Opd.c .nil))) (fun _ => by kernel_rfl)) rfl rfl <| WL_opG rfl rfl rfl rfl guard_pos (Run.eqB (Run_bin (Opd.g rfl id) (Opd.g rfl id) (run_eqT34 _ _ _ _ _ _ _ _ _)) e41) rfl rfl <| WL_op (Run.eqB (Run_and (Opd.t rfl) (Opd.g rfl id)) e43) rfl rfl rfl <| ?_
    obtain ⟨e44, he45, -, hm⟩ := callG_some hm
    obtain ⟨p46, vs47, hE48, hC49, hR50⟩ := SRd.atG (fun _ => h4) he45
    replace hC49 : b42 = true → CellsAt w18 p46 [(.int .i64 e44.1), (S e44.2.1), (.int .i64 e44.2.2.1), (.int .i64 e44.2.2.2)] := fun hg => openT34 (hR50 hg) ▸ hC49 hg
    obtain ⟨b51, e52, hm⟩ := letv_some hm
    obtain ⟨b53, e54, hm⟩ := letv_some hm
    refine WL_op (Run_move (Opd.t rfl)) rfl rfl rfl <| WL_opG rfl rfl rfl rfl guard_pos (Run_move (Opd.t rfl)) rfl rfl <| WL_opG rfl rfl rfl rfl guard_pos (Run_idxAddr Try.underlying23 ti34 (Opd.g rfl id) Opd.c hE48) rfl rfl <| WL_opG rfl rfl rfl rfl guard_pos (Run_loadA (vs := [(.int .i64 e44.1), (S e44.2.1), (.int .i64 e44.2.2.1), (.int .i64 e44.2.2.2)]) Try.underlying34 rfl ti34 (Opd.g rfl id) (fun hg => ((hC49 hg).sub 0 rfl)) rfl) rfl rfl <| WL_opG rfl rfl rfl rfl guard_pos (Run_build (parts := [(0, (.const (.int .i64 2))), (1, (.const (.string ⟨#[49, 48]⟩))), (2, (.const (.int .i64 10))), (3, (.const (.int .i64 6)))]) (v := (.agg #[(.int .i64 2), (S ([49, 48])), (.int .i64 10), (.int .i64 6)])) (.cons Opd.c (.cons Opd.c (.cons Opd.c (.cons Opd.c .nil)))) (fun _ => by kernel_rfl)) rfl rfl <| WL_opG rfl rfl rfl rfl guard_pos (Run.eqB (Run_bin (Opd.g rfl id) (Opd.g rfl id) (run_eqT34 _ _ _ _ _ _ _ _ _)) e52) rfl rfl <| WL_op (Run.eqB (Run_and (Opd.t rfl) (Opd.g rfl id)) e54) rfl rfl rfl <| WL_op (Run_move (Opd.t rfl)) rfl rfl rfl <| ?_
    obtain ⟨e55, he56, -, hm⟩ := callG_some hm
    obtain ⟨p57, vs58, hE59, hC60, hR61⟩ := SRd.atG (fun _ => h4) he56
    replace hC60 : b53 = true → CellsAt w18 p57 [(.int .i64 e55.1), (S e55.2.1), (.int .i64 e55.2.2.1), (.int .i64 e55.2.2.2)] := fun hg => openT34 (hR61 hg) ▸ hC60 hg
    obtain ⟨b62, e63, hm⟩ := letv_some hm
    obtain ⟨b64, e65, hm⟩ := letv_some hm
    refine WL_opG rfl rfl rfl rfl guard_pos (Run_move (Opd.t rfl)) rfl rfl <| WL_opG rfl rfl rfl rfl guard_pos (Run_idxAddr Try.underlying23 ti34 (Opd.g rfl id) Opd.c hE59) rfl rfl <| WL_opG rfl rfl rfl rfl guard_pos (Run_loadA (vs := [(.int .i64 e55.1), (S e55.2.1), (.int .i64 e55.2.2.1), (.int .i64 e55.2.2.2)]) Try.underlying34 rfl ti34 (Opd.g rfl id) (fun hg => ((hC60 hg).sub 0 rfl)) rfl) rfl rfl <| WL_opG rfl rfl rfl rfl guard_pos (Run_build (parts := [(0, (.const (.int .i64 4))), (3, (.const (.int .i64 14)))]) (v := (.agg #[(.int .i64 4), (S ([])), (.int .i64 0), (.int .i64 14)])) (.cons Opd.c (.cons Opd.c .nil)) (fun _ => by kernel_rfl)) rfl rfl <| WL_opG rfl rfl rfl rfl guard_pos (Run.eqB (Run_bin (Opd.g rfl id) (Opd.g rfl id) (run_eqT34 _ _ _ _ _ _ _ _ _)) e63) rfl rfl <| WL_op (Run.eqB (Run_and (Opd.t rfl) (Opd.g rfl id)) e65) rfl rfl rfl <| WL_op (Run_move (Opd.t rfl)) rfl rfl rfl <| WL_opG rfl rfl rfl rfl guard_pos (Run_move (Opd.t rfl)) rfl rfl <| ?_
    obtain ⟨b66, e67, hm⟩ := letv_some hm
    obtain ⟨b68, e69, hm⟩ := letv_some hm
    obtain ⟨b70, e71, hm⟩ := letv_some hm
    obtain ⟨b72, e73, hm⟩ := letv_some hm
    refine WL_opG rfl rfl rfl rfl guard_pos (Run.eqB (Run_eqI (Opd.g rfl id) Opd.c) e67) rfl rfl <| WL_op (Run.eqB (Run_and (Opd.t rfl) (Opd.g rfl id)) e69) rfl rfl rfl <| WL_op (Run_move (Opd.t rfl)) rfl rfl rfl <| WL_opG rfl rfl rfl rfl guard_pos (Run_move (Opd.t rfl)) rfl rfl <| WL_opG rfl rfl rfl rfl guard_pos (Run.eqB (Run_eqI (Opd.g rfl id) Opd.c) e71) rfl rfl <| WL_op (Run.eqB (Run_and (Opd.t rfl) (Opd.g rfl id)) e73) rfl rfl rfl <| WL_op (Run_move (Opd.t rfl)) rfl rfl rfl <| WL_opG rfl rfl rfl rfl guard_pos (Run_move (Opd.t rfl)) rfl rfl <| ?_
    obtain ⟨b74, e75, hm⟩ := letv_some hm
    obtain ⟨b76, e77, hm⟩ := letv_some hm
    obtain ⟨b78, e79, hm⟩ := letv_some hm
    obtain ⟨b80, e81, hm⟩ := letv_some hm
    refine WL_opG rfl rfl rfl rfl guard_pos (Run.eqB (Run_eqI (Opd.g rfl id) Opd.c) e75) rfl rfl <| WL_op (Run.eqB (Run_and (Opd.t rfl) (Opd.g rfl id)) e77) rfl rfl rfl <| WL_op (Run_move (Opd.t rfl)) rfl rfl rfl <| WL_opG rfl rfl rfl rfl guard_pos (Run_move (Opd.t rfl)) rfl rfl <| WL_opG rfl rfl rfl rfl guard_pos (Run.eqB (Run_eqI (Opd.g rfl id) Opd.c) e79) rfl rfl <| WL_op (Run.eqB (Run_and (Opd.t rfl) (Opd.g rfl id)) e81) rfl rfl rfl <| WL_op (Run_move (Opd.t rfl)) rfl rfl rfl <| ?_
    obtain ⟨r82, hr83, -, hm⟩ := callG_some hm
    refine WL_callG rfl rfl rfl guard_pos (f := 13) (first := []) (cap := []) (xs := []) (vs := []) (args := []) Try.call13 Opd.f .nil rfl rfl (fun hg => lex_Signs_ok w18 (Mine [] M0) (mine_lt hS hM) (hr83 hg)) ?_
    intro v88 w87 hv89 hz90
    have hx86 : Ext w18 w87 := Ext.ofG (fun hg => (hv89 hg).1) hz90
    replace hS := hS.ext hx86
    have h85 : b80 = true → SRd RS (Mine [] M0) w87 v88 r82 := fun hg => by obtain ⟨_, _, rfl, h⟩ := hv89 hg; exact h
    obtain ⟨b91, e92, hm⟩ := letv_some hm
    obtain ⟨b93, e94, hm⟩ := letv_some hm
    refine WL_opG rfl rfl rfl rfl guard_pos (Run_lenSlG Try.underlying29 (Opd.g rfl id) (fun hg => (h85 hg).len)) rfl rfl <| WL_opG rfl rfl rfl rfl guard_pos (Run.eqB (Run_eqI (Opd.g rfl id) Opd.c) e92) rfl rfl <| WL_op (Run.eqB (Run_and (Opd.t rfl) (Opd.g rfl id)) e94) rfl rfl rfl <| WL_op (Run_move (Opd.t rfl)) rfl rfl rfl <| ?_
    obtain ⟨r95, hr96, -, hm⟩ := callG_some hm
    refine WL_callG rfl rfl rfl guard_pos (f := 13) (first := []) (cap := []) (xs := []) (vs := []) (args := []) Try.call13 Opd.f .nil rfl rfl (fun hg => lex_Signs_ok w87 (Mine [] M0) (mine_lt hS hM) (hr96 hg)) ?_
    intro v101 w100 hv102 hz103
    have hx99 : Ext w87 w100 := Ext.ofG (fun hg => (hv102 hg).1) hz103
    replace hS := hS.ext hx99
    have h98 : b93 = true → SRd RS (Mine [] M0) w100 v101 r95 := fun hg => by obtain ⟨_, _, rfl, h⟩ := hv102 hg; exact h
    obtain ⟨e104, he105, -, hm⟩ := callG_some hm
    obtain ⟨p106, vs107, hE108, hC109, hR110⟩ := SRd.atG h98 he105
    replace hC109 : b93 = true → CellsAt w100 p106 [(S e104)] := fun hg => openT9 (hR110 hg) ▸ hC109 hg
    obtain ⟨b111, e112, hm⟩ := letv_some hm
    obtain ⟨b113, e114, hm⟩ := letv_some hm
    refine WL_opG rfl rfl rfl rfl guard_pos (Run_idxAddr Try.underlying29 ti9 (Opd.g rfl id) Opd.c hE108) rfl rfl <| WL_opG rfl rfl rfl rfl guard_pos (Run_load1 (v := (S e104)) Try.underlying9 rfl (Opd.g rfl id) (fun hg => ((hC109 hg).sub 0 rfl))) rfl rfl <| WL_opG rfl rfl rfl rfl guard_pos (Run.eqB (Run_eqS (Opd.g rfl id) Opd.c) e112) rfl rfl <| WL_op (Run.eqB (Run_and (Opd.t rfl) (Opd.g rfl id)) e114) rfl rfl rfl <| WL_op (Run_assign (Opd.t rfl)) rfl rfl rfl <| ?_
    refine WL_nil ?_
    refine At_then ?_
    refine WC_ret ?_
    refine At_r1 rfl (ResIs.t rfl) ?_
    cases hm
    exact ⟨hS.toExt, rfl⟩

end Go.Proofs.Ytiambejbilkgmaa
