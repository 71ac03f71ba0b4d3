/- Printed by a program: the walks. -/
import Derived.Test.YtiambejbilkgmaaWalk4
namespace Go.Proofs.Ytiambejbilkgmaa
open Go.Proofs

theorem scrutinyref12_kind_ok (w0 : World) {c0 : Int} {r : Int} (hm : scrutinyref12_kind c0 = some r) :
    CallsR Try.prog 21 [(.int .u8 c0)] w0 (fun v w' => Ext w0 w' ∧ v = (.int .i64 r)) := by
  obtain ⟨M0, hM⟩ : ∃ M0 : Nat → Prop, ∀ b, M0 b → b < w0.heap.size := ⟨fun _ => False, fun _ h => h.elim⟩
  have hS : St w0 [] w0 := St.start w0 0
  refine CallsR_enter Try.func21 rfl Try.ntmps21 rfl ?_
  unfold scrutinyref12_kind at hm
  refine WC_seq ?_
  refine WC_region ?_
  refine WL_op (Run_assign Opd.c) rfl rfl rfl <| ?_
  refine WL_nil ?_
  refine At_then ?_
  refine WC_seq ?_
  refine WC_seq ?_
  refine WC_region ?_
  obtain ⟨b1, e2, hm⟩ := letv_some hm
  obtain ⟨b3, e4, hm⟩ := letv_some hm
  obtain ⟨b5, e6, hm⟩ := letv_some hm
  refine WL_op (Run_move (Opd.t rfl)) rfl rfl rfl <| WL_op (Run.eqB (Run_eqI (Opd.t rfl) Opd.c) e2) rfl rfl rfl <| WL_op (Run_move (Opd.t rfl)) rfl rfl rfl <| WL_opG rfl rfl rfl rfl guard_neg (Run_move (Opd.t rfl)) rfl rfl <| WL_opG rfl rfl rfl rfl guard_neg (Run.eqB (Run_eqI (Opd.g rfl id) Opd.c) e4) rfl rfl <| WL_op (Run.eqB (Run_or (Opd.t rfl) (Opd.g rfl id)) e6) rfl rfl rfl <| WL_op (Run_move (Opd.t rfl)) rfl rfl rfl <| WL_opG rfl rfl rfl rfl guard_neg (Run_move (Opd.t rfl)) rfl rfl <| ?_
  obtain ⟨b7, e8, hm⟩ := letv_some hm
  obtain ⟨b9, e10, hm⟩ := letv_some hm
  obtain ⟨b11, e12, hm⟩ := letv_some hm
  obtain ⟨b13, e14, hm⟩ := letv_some hm
  refine WL_opG rfl rfl rfl rfl guard_neg (Run.eqB (Run_eqI (Opd.g rfl id) Opd.c) e8) rfl rfl <| WL_op (Run.eqB (Run_or (Opd.t rfl) (Opd.g rfl id)) e10) rfl rfl rfl <| WL_op (Run_move (Opd.t rfl)) rfl rfl rfl <| WL_opG rfl rfl rfl rfl guard_neg (Run_move (Opd.t rfl)) rfl rfl <| WL_opG rfl rfl rfl rfl guard_neg (Run.eqB (Run_eqI (Opd.g rfl id) Opd.c) e12) rfl rfl <| WL_op (Run.eqB (Run_or (Opd.t rfl) (Opd.g rfl id)) e14) rfl rfl rfl <| ?_
  refine WL_nil ?_
  refine At_then ?_
  refine WC_cond (Opd.t rfl) (fun hc15 => ?_) (fun hc15 => ?_)
  ·
    replace hm := bif_t hc15 hm
    refine WC_seq ?_
    refine WC_region ?_
    refine WL_op (Run_assign Opd.c) rfl rfl rfl <| ?_
    refine WL_nil ?_
    refine At_then ?_
    refine WC_ret ?_
    refine At_then_ret <| ?_
    refine At_r1 rfl (ResIs.t rfl) ?_
    cases hm
    exact ⟨hS.toExt, rfl⟩
  ·
    replace hm := bif_f hc15 hm
    refine WC_skip ?_
    refine At_then ?_
    refine WC_seq ?_
    refine WC_seq ?_
    refine WC_region ?_
    obtain ⟨b16, e17, hm⟩ := letv_some hm
    obtain ⟨b18, e19, hm⟩ := letv_some hm
    obtain ⟨b20, e21, hm⟩ := letv_some hm
    refine WL_op (Run_move (Opd.t rfl)) rfl rfl rfl <| WL_op (Run.eqB (Run_geI (Opd.t rfl) Opd.c) e17) rfl rfl rfl <| WL_op (Run_move (Opd.t rfl)) rfl rfl rfl <| WL_opG rfl rfl rfl rfl guard_pos (Run_move (Opd.t rfl)) rfl rfl <| WL_opG rfl rfl rfl rfl guard_pos (Run.eqB (Run_leI (Opd.g rfl id) Opd.c) e19) rfl rfl <| WL_op (Run.eqB (Run_and (Opd.t rfl) (Opd.g rfl id)) e21) rfl rfl rfl <| WL_op (Run_move (Opd.t rfl)) rfl rfl rfl <| WL_opG rfl rfl rfl rfl guard_neg (Run_move (Opd.t rfl)) rfl rfl <| ?_
    obtain ⟨b22, e23, hm⟩ := letv_some hm
    obtain ⟨b24, e25, hm⟩ := letv_some hm
    obtain ⟨b26, e27, hm⟩ := letv_some hm
    obtain ⟨b28, e29, hm⟩ := letv_some hm
    refine WL_opG rfl rfl rfl rfl guard_neg (Run.eqB (Run_geI (Opd.g rfl id) Opd.c) e23) rfl rfl <| WL_opG rfl rfl rfl rfl guard_neg (Run_move (Opd.g rfl id)) rfl rfl <| WL_opG rfl rfl rfl rfl guard_pos' (Run_move (Opd.t rfl)) rfl rfl <| WL_opG rfl rfl rfl rfl guard_pos' (Run.eqB (Run_leI (Opd.g rfl id) Opd.c) e25) rfl rfl <| WL_opG rfl rfl rfl rfl guard_neg (Run.eqB (Run_and (Opd.g rfl id) (Opd.g rfl id)) e27) rfl rfl <| WL_op (Run.eqB (Run_or (Opd.t rfl) (Opd.g rfl id)) e29) rfl rfl rfl <| WL_op (Run_move (Opd.t rfl)) rfl rfl rfl <| WL_opG rfl rfl rfl rfl guard_neg (Run_move (Opd.t rfl)) rfl rfl <| ?_
    obtain ⟨b30, e31, hm⟩ := letv_some hm
    obtain ⟨b32, e33, hm⟩ := letv_some hm
    refine WL_opG rfl rfl rfl rfl guard_neg (Run.eqB (Run_eqI (Opd.g rfl id) Opd.c) e31) rfl rfl <| WL_op (Run.eqB (Run_or (Opd.t rfl) (Opd.g rfl id)) e33) rfl rfl rfl <| ?_
    refine WL_nil ?_
    refine At_then ?_
    refine WC_cond (Opd.t rfl) (fun hc34 => ?_) (fun hc34 => ?_)
    ·
      replace hm := bif_t hc34 hm
      refine WC_seq ?_
      refine WC_region ?_
      refine WL_op (Run_assign Opd.c) rfl rfl rfl <| ?_
      refine WL_nil ?_
      refine At_then ?_
      refine WC_ret ?_
      refine At_then_ret <| ?_
      refine At_r1 rfl (ResIs.t rfl) ?_
      cases hm
      exact ⟨hS.toExt, rfl⟩
    ·
      replace hm := bif_f hc34 hm
      refine WC_skip ?_
      refine At_then ?_
      refine WC_seq ?_
      refine WC_seq ?_
      refine WC_region ?_
      obtain ⟨b35, e36, hm⟩ := letv_some hm
      obtain ⟨b37, e38, hm⟩ := letv_some hm
      obtain ⟨b39, e40, hm⟩ := letv_some hm
      refine WL_op (Run_move (Opd.t rfl)) rfl rfl rfl <| WL_op (Run.eqB (Run_geI (Opd.t rfl) Opd.c) e36) rfl rfl rfl <| WL_op (Run_move (Opd.t rfl)) rfl rfl rfl <| WL_opG rfl rfl rfl rfl guard_pos (Run_move (Opd.t rfl)) rfl rfl <| WL_opG rfl rfl rfl rfl guard_pos (Run.eqB (Run_leI (Opd.g rfl id) Opd.c) e38) rfl rfl <| WL_op (Run.eqB (Run_and (Opd.t rfl) (Opd.g rfl id)) e40) rfl rfl rfl <| ?_
      refine WL_nil ?_
      refine At_then ?_
      refine WC_cond (Opd.t rfl) (fun hc41 => ?_) (fun hc41 => ?_)
      ·
        replace hm := bif_t hc41 hm
        refine WC_seq ?_
        refine WC_region ?_
        refine WL_op (Run_assign Opd.c) rfl rfl rfl <| ?_
        refine WL_nil ?_
        refine At_then ?_
        refine WC_ret ?_
        refine At_then_ret <| ?_
        refine At_r1 rfl (ResIs.t rfl) ?_
        cases hm
        exact ⟨hS.toExt, rfl⟩
      ·
        replace hm := bif_f hc41 hm
        refine WC_skip ?_
        refine At_then ?_
        refine WC_seq ?_
        refine WC_region ?_
        refine WL_op (Run_assign Opd.c) rfl rfl rfl <| ?_
        refine WL_nil ?_
        refine At_then ?_
        refine WC_ret ?_
        refine At_r1 rfl (ResIs.t rfl) ?_
        cases hm
        exact ⟨hS.toExt, rfl⟩

theorem scrutinyref12_Signs_ok (w0 : World) (M0 : Nat → Prop) (hM : ∀ b, M0 b → b < w0.heap.size) {r : (List Str)} (hm : scrutinyref12_Signs = some r) :
    CallsR Try.prog 14 [] w0 (fun v w' => Ext w0 w' ∧ ∃ v8, v = v8 ∧ SRd RS M0 w' v8 r) := by
  have _hM := hM
  have hS : St w0 [] w0 := St.start w0 0
  refine CallsR_enter Try.func14 rfl Try.ntmps14 rfl ?_
  unfold scrutinyref12_Signs at hm
  refine WC_seq ?_
  refine WC_region ?_
  refine WL_op (Run_assign Opd.c) rfl rfl rfl <| ?_
  refine WL_nil ?_
  refine At_then ?_
  refine WC_seq ?_
  refine WC_region ?_
  obtain ⟨b1, hb2⟩ : ∃ b, w0.heap.size = b := ⟨_, rfl⟩
  refine WL_buildSlice (zs := [(S ([]))]) (cells := [(S ([60, 45, 62])), (S ([45, 62])), (S ([61, 61])), (S ([33, 61])), (S ([60, 61])), (S ([62, 61])), (S ([60])), (S ([62])), (S ([61])), (S ([43])), (S ([45])), (S ([42])), (S ([40])), (S ([41])), (S ([123])), (S ([125])), (S ([59])), (S ([44])), (S ([58])), (S ([38])), (S ([124])), (S ([33]))]) (parts := [(0, (.const (.string ⟨#[60, 45, 62]⟩))), (1, (.const (.string ⟨#[45, 62]⟩))), (2, (.const (.string ⟨#[61, 61]⟩))), (3, (.const (.string ⟨#[33, 61]⟩))), (4, (.const (.string ⟨#[60, 61]⟩))), (5, (.const (.string ⟨#[62, 61]⟩))), (6, (.const (.string ⟨#[60]⟩))), (7, (.const (.string ⟨#[62]⟩))), (8, (.const (.string ⟨#[61]⟩))), (9, (.const (.string ⟨#[43]⟩))), (10, (.const (.string ⟨#[45]⟩))), (11, (.const (.string ⟨#[42]⟩))), (12, (.const (.string ⟨#[40]⟩))), (13, (.const (.string ⟨#[41]⟩))), (14, (.const (.string ⟨#[123]⟩))), (15, (.const (.string ⟨#[125]⟩))), (16, (.const (.string ⟨#[59]⟩))), (17, (.const (.string ⟨#[44]⟩))), (18, (.const (.string ⟨#[58]⟩))), (19, (.const (.string ⟨#[38]⟩))), (20, (.const (.string ⟨#[124]⟩))), (21, (.const (.string ⟨#[33]⟩)))]) Try.underlying29 ti9 rfl rfl rfl (.cons Opd.c (.cons Opd.c (.cons Opd.c (.cons Opd.c (.cons Opd.c (.cons Opd.c (.cons Opd.c (.cons Opd.c (.cons Opd.c (.cons Opd.c (.cons Opd.c (.cons Opd.c (.cons Opd.c (.cons Opd.c (.cons Opd.c (.cons Opd.c (.cons Opd.c (.cons Opd.c (.cons Opd.c (.cons Opd.c (.cons Opd.c (.cons Opd.c .nil)))))))))))))))))))))) (by kernel_rfl) hb2 rfl ?_
  intro w3 hx4 hB5
  have hf7 : ¬ Mine [] M0 b1 := newB_free hS hM hb2
  replace hS := hS.ext hx4
  have h6 : SRd RS (Mine [] M0) w3 (.slice (some ⟨b1, 0, none⟩) 22 22) ([[60, 45, 62], [45, 62], [61, 61], [33, 61], [60, 61], [62, 61], [60], [62], [61], [43], [45], [42], [40], [41], [123], [125], [59], [44], [58], [38], [124], [33]] : List Str) := SRd.fresh (cells := [(S ([60, 45, 62])), (S ([45, 62])), (S ([61, 61])), (S ([33, 61])), (S ([60, 61])), (S ([62, 61])), (S ([60])), (S ([62])), (S ([61])), (S ([43])), (S ([45])), (S ([42])), (S ([40])), (S ([41])), (S ([123])), (S ([125])), (S ([59])), (S ([44])), (S ([58])), (S ([38])), (S ([124])), (S ([33]))]) hB5 hf7 rfl (ARd.cons (c := [(S ([60, 45, 62]))]) rfl (ARd.cons (c := [(S ([45, 62]))]) rfl (ARd.cons (c := [(S ([61, 61]))]) rfl (ARd.cons (c := [(S ([33, 61]))]) rfl (ARd.cons (c := [(S ([60, 61]))]) rfl (ARd.cons (c := [(S ([62, 61]))]) rfl (ARd.cons (c := [(S ([60]))]) rfl (ARd.cons (c := [(S ([62]))]) rfl (ARd.cons (c := [(S ([61]))]) rfl (ARd.cons (c := [(S ([43]))]) rfl (ARd.cons (c := [(S ([45]))]) rfl (ARd.cons (c := [(S ([42]))]) rfl (ARd.cons (c := [(S ([40]))]) rfl (ARd.cons (c := [(S ([41]))]) rfl (ARd.cons (c := [(S ([123]))]) rfl (ARd.cons (c := [(S ([125]))]) rfl (ARd.cons (c := [(S ([59]))]) rfl (ARd.cons (c := [(S ([44]))]) rfl (ARd.cons (c := [(S ([58]))]) rfl (ARd.cons (c := [(S ([38]))]) rfl (ARd.cons (c := [(S ([124]))]) rfl (ARd.cons (c := [(S ([33]))]) rfl ARd.nil))))))))))))))))))))))
  refine WL_op (Run_assign (Opd.t rfl)) rfl rfl rfl <| ?_
  refine WL_nil ?_
  refine At_then ?_
  refine WC_ret ?_
  refine At_r1 rfl (ResIs.t rfl) ?_
  cases hm
  exact ⟨hS.toExt, _, rfl, h6.mv (Mv.done _)⟩

theorem scrutinyref12_Tokens_ok (w0 : World) (M0 : Nat → Prop) (hM : ∀ b, M0 b → b < w0.heap.size) {text0 : Str} {r : ((List (Int × Str × Int × Int)) × Int × Int)} (hm : scrutinyref12_Tokens text0 = some r) :
    CallsR Try.prog 12 [(S text0)] w0 (fun v w' => Ext w0 w' ∧ ∃ v197, v = (.tuple #[v197, (.int .i64 r.2.1), (.int .i64 r.2.2)]) ∧ SRd (RP (RI .i64) (RP RS (RP (RI .i64) (RI .i64)))) M0 w' v197 r.1) := by
  have _hM := hM
  have hS : St w0 [[], []] w0 := St.start w0 2
  refine CallsR_enter Try.func12 rfl Try.ntmps12 rfl ?_
  unfold scrutinyref12_Tokens at hm
  refine WC_seq ?_
  refine WC_region ?_
  refine WL_op (Run_assign Opd.c) rfl rfl rfl <| WL_op (Run_assign Opd.c) rfl rfl rfl <| WL_op (Run_assign Opd.c) rfl rfl rfl <| ?_
  refine WL_nil ?_
  refine At_then ?_
  refine WC_seq ?_
  refine WC_seq ?_
  refine WC_region ?_
  refine WL_op (Run_move (Opd.t rfl)) rfl rfl rfl <| WL_op (Run_lenS Try.underlying9 (Opd.t rfl)) rfl rfl rfl <| WL_op (Run_gtI (Opd.t rfl) Opd.c) rfl rfl rfl <| ?_
  refine WL_nil ?_
  refine At_then ?_
  refine WC_cond (Opd.t rfl) (fun hc1 => ?_) (fun hc1 => ?_)
  ·
    replace hm := bif_t hc1 hm
    refine WC_seq ?_
    refine WC_region ?_
    refine WL_op (Run_assign Opd.c) rfl rfl rfl <| WL_op (Run_assign Opd.c) rfl rfl rfl <| WL_op (Run_assign Opd.c) rfl rfl rfl <| ?_
    refine WL_nil ?_
    refine At_then ?_
    refine WC_ret ?_
    refine At_then_ret <| ?_
    refine At_r3 rfl (ResIs.t rfl) (ResIs.t rfl) (ResIs.t rfl) ?_
    cases hm
    exact ⟨hS.toExt, _, rfl, SRd.nil⟩
  ·
    replace hm := bif_f hc1 hm
    refine WC_skip ?_
    refine At_then ?_
    refine WC_seq ?_
    refine WC_region ?_
    refine WL_op (Run_assign Opd.c) rfl rfl rfl <| ?_
    refine WL_nil ?_
    refine At_then ?_
    refine WC_seq ?_
    refine WC_region ?_
    refine WL_op (Run_assign Opd.c) rfl rfl rfl <| ?_
    refine WL_nil ?_
    refine At_then ?_
    refine WC_seq ?_
    refine WC_block ?_
    refine WC_loop (σ := (List (Int × Str × Int × Int)) × Int) (γ := Value) (F := (scrutinyref12_Tokens_L1 text0)) (N := FUEL) (s0 := ([], 0)) (r := r) (fun ⟨out2, i5⟩ v3 w6 => St w0 [[], blk v3] w6 ∧ OSl (RP (RI .i64) (RP RS (RP (RI .i64) (RI .i64)))) 34 (Mine [[], blk v3] M0) w6 v3 out2) (fun ⟨out2, i5⟩ v3 => [(0, true, (S text0)), (5, true, v3), (6, true, (.int .i64 i5))]) hm (.slice none 0 0) ⟨hS, OSl.nil⟩ rfl ?_
    rintro again7 ⟨out2, i5⟩ v3 w6 hm ⟨hS, h4⟩
    unfold scrutinyref12_Tokens_L1 at hm
    dsimp only at hm
    refine WC_seq ?_
    refine WC_seq ?_
    refine WC_region ?_
    refine WL_op (Run_move (Opd.t rfl)) rfl rfl rfl <| WL_op (Run_move (Opd.t rfl)) rfl rfl rfl <| WL_op (Run_lenS Try.underlying9 (Opd.t rfl)) rfl rfl rfl <| WL_op (Run_ltI (Opd.t rfl) (Opd.t rfl)) rfl rfl rfl <| ?_
    refine WL_nil ?_
    refine At_then ?_
    refine WC_cond (Opd.t rfl) (fun hc8 => ?_) (fun hc8 => ?_)
    ·
      replace hm := bif_t hc8 hm
      refine WC_skip ?_
      refine At_then ?_
      refine WC_block ?_
      refine WC_seq ?_
      refine WC_region ?_
      obtain ⟨k9, hm⟩ := chk_some hm
      refine WL_op (Run_move (Opd.t rfl)) rfl rfl rfl <| WL_op (Run_move (Opd.t rfl)) rfl rfl rfl <| WL_op (Run_idxS Try.underlying9 (Opd.t rfl) (Opd.t rfl) (fun _ => k9)) rfl rfl rfl <| ?_
      obtain ⟨r10, hr11, hm⟩ := bind_some' hm
      refine WL_call (f := 21) (first := []) (cap := []) (xs := [(.tmp 22)]) (vs := [(.int .u8 (byteAt text0 i5))]) (args := [(.int .u8 (byteAt text0 i5))]) Try.call21 Opd.f (.cons (Opd.t rfl) .nil) rfl rfl (scrutinyref12_kind_ok w6 hr11) ?_
      rintro _ w13 ⟨hx12, rfl⟩
      replace h4 := h4.ext hx12
      replace hS := hS.ext hx12
      refine WL_op (Run_assign (Opd.t rfl)) rfl rfl rfl <| ?_
      refine WL_nil ?_
      refine At_then ?_
      refine WC_seq ?_
      refine WC_seq ?_
      refine WC_region ?_
      refine WL_op (Run_move (Opd.t rfl)) rfl rfl rfl <| WL_op (Run_eqI (Opd.t rfl) Opd.c) rfl rfl rfl <| ?_
      refine WL_nil ?_
      refine At_then ?_
      refine WC_cond (Opd.t rfl) (fun hc14 => ?_) (fun hc14 => ?_)
      ·
        replace hm := bif_t hc14 hm
        refine WC_seq ?_
        refine WC_region ?_
        refine WL_op (Run_move (Opd.t rfl)) rfl rfl rfl <| WL_op (Run_add (Opd.t rfl) Opd.c) rfl rfl rfl <| WL_op (Run_assign (Opd.t rfl)) rfl rfl rfl <| ?_
        refine WL_nil ?_
        refine At_then ?_
        refine WC_exit ?_
        refine At_then_exit <| At_blk_here <| ?_
        exact At_again (out2, (IntKind.i64.wrap (i5 + 1))) v3 hm ⟨hS, h4⟩ rfl
      ·
        replace hm := bif_f hc14 hm
        refine WC_skip ?_
        refine At_then ?_
        refine WC_seq ?_
        refine WC_seq ?_
        refine WC_region ?_
        obtain ⟨k15, hm⟩ := chk_some hm
        refine WL_op (Run_move (Opd.t rfl)) rfl rfl rfl <| WL_op (Run_move (Opd.t rfl)) rfl rfl rfl <| WL_op (Run_idxS Try.underlying9 (Opd.t rfl) (Opd.t rfl) (fun _ => k15)) rfl rfl rfl <| WL_op (Run_eqI (Opd.t rfl) Opd.c) rfl rfl rfl <| ?_
        refine WL_nil ?_
        refine At_then ?_
        refine WC_cond (Opd.t rfl) (fun hc16 => ?_) (fun hc16 => ?_)
        ·
          replace hm := bif_t hc16 hm
          refine WC_seq ?_
          refine WC_block ?_
          refine WC_loop (σ := Int) (γ := Unit) (F := (scrutinyref12_Tokens_L2 text0 out2 again7)) (N := FUEL) (s0 := i5) (r := r) (fun i17 (_ : Unit) w18 => St w0 [[], blk v3] w18 ∧ OSl (RP (RI .i64) (RP RS (RP (RI .i64) (RI .i64)))) 34 (Mine [[], blk v3] M0) w18 v3 out2) (fun i17 (_ : Unit) => [(0, true, (S text0)), (5, true, v3), (6, true, (.int .i64 i17))]) hm () ⟨hS, h4⟩ rfl ?_
          rintro again19 i17 _ w18 hm ⟨hS, h4⟩
          unfold scrutinyref12_Tokens_L2 at hm
          refine WC_seq ?_
          refine WC_seq ?_
          refine WC_region ?_
          obtain ⟨b20, e21, hm⟩ := letv_some hm
          obtain ⟨k22, hm⟩ := chkG_some hm
          refine WL_op (Run_move (Opd.t rfl)) rfl rfl rfl <| WL_op (Run_move (Opd.t rfl)) rfl rfl rfl <| WL_op (Run_lenS Try.underlying9 (Opd.t rfl)) rfl rfl rfl <| WL_op (Run.eqB (Run_ltI (Opd.t rfl) (Opd.t rfl)) e21) rfl rfl rfl <| WL_op (Run_move (Opd.t rfl)) rfl rfl rfl <| WL_opG rfl rfl rfl rfl guard_pos (Run_move (Opd.t rfl)) rfl rfl <| WL_opG rfl rfl rfl rfl guard_pos (Run_move (Opd.t rfl)) rfl rfl <| WL_opG rfl rfl rfl rfl guard_pos (Run_idxS Try.underlying9 (Opd.g rfl id) (Opd.g rfl id) k22) rfl rfl <| ?_
          obtain ⟨b23, e24, hm⟩ := letv_some hm
          obtain ⟨b25, e26, hm⟩ := letv_some hm
          refine WL_opG rfl rfl rfl rfl guard_pos (Run.eqB (Run_neI (Opd.g rfl id) Opd.c) e24) rfl rfl <| WL_op (Run.eqB (Run_and (Opd.t rfl) (Opd.g rfl id)) e26) rfl rfl rfl <| ?_
          refine WL_nil ?_
          refine At_then ?_
          refine WC_cond (Opd.t rfl) (fun hc27 => ?_) (fun hc27 => ?_)
          ·
            replace hm := bif_t hc27 hm
            refine WC_skip ?_
            refine At_then ?_
            refine WC_block ?_
            refine WC_region ?_
            refine WL_op (Run_move (Opd.t rfl)) rfl rfl rfl <| WL_op (Run_add (Opd.t rfl) Opd.c) rfl rfl rfl <| WL_op (Run_assign (Opd.t rfl)) rfl rfl rfl <| ?_
            refine WL_nil ?_
            refine At_blk_normal ?_
            exact At_again (IntKind.i64.wrap (i17 + 1)) () hm ⟨hS, h4⟩ rfl
          ·
            replace hm := bif_f hc27 hm
            refine WC_exit ?_
            refine At_then_exit <| At_then_exit <| At_blk_here <| ?_
            refine At_then ?_
            refine WC_exit ?_
            refine At_then_exit <| At_blk_here <| ?_
            exact At_again (out2, i17) v3 hm ⟨hS, h4⟩ rfl
        ·
          replace hm := bif_f hc16 hm
          refine WC_skip ?_
          refine At_then ?_
          refine WC_seq ?_
          refine WC_region ?_
          refine WL_op (Run_move (Opd.t rfl)) rfl rfl rfl <| WL_op (Run_assign (Opd.t rfl)) rfl rfl rfl <| ?_
          refine WL_nil ?_
          refine At_then ?_
          refine WC_seq ?_
          refine WC_seq ?_
          refine WC_region ?_
          refine WL_op (Run_move (Opd.t rfl)) rfl rfl rfl <| WL_op (Run_eqI (Opd.t rfl) Opd.c) rfl rfl rfl <| ?_
          refine WL_nil ?_
          refine At_then ?_
          refine WC_cond (Opd.t rfl) (fun hc28 => ?_) (fun hc28 => ?_)
          ·
            replace hm := bif_t hc28 hm
            refine WC_seq ?_
            refine WC_block ?_
            refine WC_loop (σ := Int) (γ := Unit) (F := (scrutinyref12_Tokens_L3 text0 out2 i5 again7)) (N := FUEL) (s0 := i5) (r := r) (fun i29 (_ : Unit) w30 => St w0 [[], blk v3] w30 ∧ OSl (RP (RI .i64) (RP RS (RP (RI .i64) (RI .i64)))) 34 (Mine [[], blk v3] M0) w30 v3 out2) (fun i29 (_ : Unit) => [(0, true, (S text0)), (5, true, v3), (6, true, (.int .i64 i29)), (8, true, (.int .i64 i5))]) hm () ⟨hS, h4⟩ rfl ?_
            rintro again31 i29 _ w30 hm ⟨hS, h4⟩
            unfold scrutinyref12_Tokens_L3 at hm
            refine WC_seq ?_
            refine WC_seq ?_
            refine WC_region ?_
            obtain ⟨b32, e33, hm⟩ := letv_some hm
            obtain ⟨k34, hm⟩ := chkG_some hm
            refine WL_op (Run_move (Opd.t rfl)) rfl rfl rfl <| WL_op (Run_move (Opd.t rfl)) rfl rfl rfl <| WL_op (Run_lenS Try.underlying9 (Opd.t rfl)) rfl rfl rfl <| WL_op (Run.eqB (Run_ltI (Opd.t rfl) (Opd.t rfl)) e33) rfl rfl rfl <| WL_op (Run_move (Opd.t rfl)) rfl rfl rfl <| WL_opG rfl rfl rfl rfl guard_pos (Run_move (Opd.t rfl)) rfl rfl <| WL_opG rfl rfl rfl rfl guard_pos (Run_move (Opd.t rfl)) rfl rfl <| WL_opG rfl rfl rfl rfl guard_pos (Run_idxS Try.underlying9 (Opd.g rfl id) (Opd.g rfl id) k34) rfl rfl <| ?_
            obtain ⟨r35, hr36, -, hm⟩ := callG_some hm
            refine WL_callG rfl rfl rfl guard_pos (f := 21) (first := []) (cap := []) (xs := [(.tmp 54)]) (vs := [(.int .u8 (byteAt text0 i29))]) (args := [(.int .u8 (byteAt text0 i29))]) Try.call21 Opd.f (.cons (Opd.g rfl id) .nil) rfl rfl (fun hg => scrutinyref12_kind_ok w30 (hr36 hg)) ?_
            intro v39 w38 hv40 hz41
            have hx37 : Ext w30 w38 := Ext.ofG (fun hg => (hv40 hg).1) hz41
            replace h4 := h4.ext hx37
            replace hS := hS.ext hx37
            refine WL_sub1 (v := (.int .i64 r35)) (fun hg => (hv40 hg).2) ?_
            obtain ⟨b42, e43, hm⟩ := letv_some hm
            obtain ⟨k44, hm⟩ := chkG_some hm
            refine WL_opG rfl rfl rfl rfl guard_pos (Run.eqB (Run_eqI (Opd.g rfl id) Opd.c) e43) rfl rfl <| WL_opG rfl rfl rfl rfl guard_pos (Run_move (Opd.g rfl id)) rfl rfl <| WL_opG rfl rfl rfl rfl guard_neg' (Run_move (Opd.t rfl)) rfl rfl <| WL_opG rfl rfl rfl rfl guard_neg' (Run_move (Opd.t rfl)) rfl rfl <| WL_opG rfl rfl rfl rfl guard_neg' (Run_idxS Try.underlying9 (Opd.g rfl id) (Opd.g rfl id) k44) rfl rfl <| ?_
            obtain ⟨r45, hr46, -, hm⟩ := callG_some hm
            refine WL_callG rfl rfl rfl guard_neg' (f := 21) (first := []) (cap := []) (xs := [(.tmp 60)]) (vs := [(.int .u8 (byteAt text0 i29))]) (args := [(.int .u8 (byteAt text0 i29))]) Try.call21 Opd.f (.cons (Opd.g rfl id) .nil) rfl rfl (fun hg => scrutinyref12_kind_ok w38 (hr46 hg)) ?_
            intro v49 w48 hv50 hz51
            have hx47 : Ext w38 w48 := Ext.ofG (fun hg => (hv50 hg).1) hz51
            replace h4 := h4.ext hx47
            replace hS := hS.ext hx47
            refine WL_sub1 (v := (.int .i64 r45)) (fun hg => (hv50 hg).2) ?_
            obtain ⟨b52, e53, hm⟩ := letv_some hm
            obtain ⟨b54, e55, hm⟩ := letv_some hm
            obtain ⟨b56, e57, hm⟩ := letv_some hm
            refine WL_opG rfl rfl rfl rfl guard_neg' (Run.eqB (Run_eqI (Opd.g rfl id) Opd.c) e53) rfl rfl <| WL_opG rfl rfl rfl rfl guard_pos (Run.eqB (Run_or (Opd.g rfl id) (Opd.g rfl id)) e55) rfl rfl <| WL_op (Run.eqB (Run_and (Opd.t rfl) (Opd.g rfl id)) e57) rfl rfl rfl <| ?_
            refine WL_nil ?_
            refine At_then ?_
            refine WC_cond (Opd.t rfl) (fun hc58 => ?_) (fun hc58 => ?_)
            ·
              replace hm := bif_t hc58 hm
              refine WC_skip ?_
              refine At_then ?_
              refine WC_block ?_
              refine WC_region ?_
              refine WL_op (Run_move (Opd.t rfl)) rfl rfl rfl <| WL_op (Run_add (Opd.t rfl) Opd.c) rfl rfl rfl <| WL_op (Run_assign (Opd.t rfl)) rfl rfl rfl <| ?_
              refine WL_nil ?_
              refine At_blk_normal ?_
              exact At_again (IntKind.i64.wrap (i29 + 1)) () hm ⟨hS, h4⟩ rfl
            ·
              replace hm := bif_f hc58 hm
              refine WC_exit ?_
              refine At_then_exit <| At_then_exit <| At_blk_here <| ?_
              refine At_then ?_
              refine WC_seq ?_
              refine WC_seq ?_
              refine WC_region ?_
              refine WL_op (Run_move (Opd.t rfl)) rfl rfl rfl <| WL_op (Run_move (Opd.t rfl)) rfl rfl rfl <| WL_op (Run_sub (Opd.t rfl) (Opd.t rfl)) rfl rfl rfl <| WL_op (Run_gtI (Opd.t rfl) Opd.c) rfl rfl rfl <| ?_
              refine WL_nil ?_
              refine At_then ?_
              refine WC_cond (Opd.t rfl) (fun hc59 => ?_) (fun hc59 => ?_)
              ·
                replace hm := bif_t hc59 hm
                refine WC_seq ?_
                refine WC_region ?_
                refine WL_op (Run_move (Opd.t rfl)) rfl rfl rfl <| WL_op (Run_assign Opd.c) rfl rfl rfl <| WL_op (Run_assign Opd.c) rfl rfl rfl <| WL_op (Run_assign (Opd.t rfl)) rfl rfl rfl <| ?_
                refine WL_nil ?_
                refine At_then ?_
                refine WC_ret ?_
                refine At_then_ret <| At_then_ret <| At_blk_ret <| At_then_ret <| At_blk_ret <| At_then_ret <| ?_
                refine At_r3 rfl (ResIs.t rfl) (ResIs.t rfl) (ResIs.t rfl) ?_
                cases hm
                exact ⟨hS.toExt, _, rfl, SRd.nil⟩
              ·
                replace hm := bif_f hc59 hm
                refine WC_skip ?_
                refine At_then ?_
                refine WC_seq ?_
                refine WC_region ?_
                obtain ⟨k60, hm⟩ := chk_some hm
                refine WL_op (Run_move (Opd.t rfl)) rfl rfl rfl <| WL_op (Run_move (Opd.t rfl)) rfl rfl rfl <| WL_op (Run_move (Opd.t rfl)) rfl rfl rfl <| WL_op (Run_move (Opd.t rfl)) rfl rfl rfl <| WL_op (Run_cutS Try.underlying9 (Opd.t rfl) ⟨_, (Opd.t rfl)⟩ ⟨_, (Opd.t rfl)⟩ (fun _ => k60)) rfl rfl rfl <| WL_op (Run_move (Opd.t rfl)) rfl rfl rfl <| WL_op (Run_build (parts := [(0, (.const (.int .i64 1))), (1, (.tmp 76)), (3, (.tmp 77))]) (v := (.agg #[(.int .i64 1), (S (cut text0 i5 i29)), (.int .i64 0), (.int .i64 i5)])) (.cons Opd.c (.cons (Opd.t rfl) (.cons (Opd.t rfl) .nil))) (fun _ => by kernel_rfl)) rfl rfl rfl <| ?_
                obtain ⟨b61, hb62⟩ : ∃ b, w48.heap.size = b := ⟨_, rfl⟩
                refine WL_buildSlice (zs := [(.int .i64 0), (S ([])), (.int .i64 0), (.int .i64 0)]) (cells := [(.int .i64 1), (S (cut text0 i5 i29)), (.int .i64 0), (.int .i64 i5)]) (parts := [(0, (.tmp 78))]) Try.underlying23 ti34 rfl rfl rfl (.cons (Opd.t rfl) .nil) (by kernel_rfl) hb62 rfl ?_
                intro w63 hx64 hB65
                have hf67 : ¬ Mine [[], blk v3] M0 b61 := newB_free hS hM hb62
                replace h4 := h4.ext hx64
                replace hS := hS.ext hx64
                have h66 : SRd (RP (RI .i64) (RP RS (RP (RI .i64) (RI .i64)))) (Mine [[], blk v3] M0) w63 (.slice (some ⟨b61, 0, none⟩) 1 1) ([(1, (cut text0 i5 i29), 0, i5)] : List (Int × Str × Int × Int)) := SRd.fresh (cells := [(.int .i64 1), (S (cut text0 i5 i29)), (.int .i64 0), (.int .i64 i5)]) hB65 hf67 rfl (ARd.cons (c := [(.int .i64 1), (S (cut text0 i5 i29)), (.int .i64 0), (.int .i64 i5)]) ⟨_, _, rfl, rfl, ⟨_, _, rfl, rfl, ⟨_, _, rfl, rfl, rfl⟩⟩⟩ ARd.nil)
                obtain ⟨k68, hm⟩ := chk_some hm
                refine WL_append (A := (RP (RI .i64) (RP RS (RP (RI .i64) (RI .i64))))) Try.underlying23 ti34 rfl (by decide) rfl (Opd.t rfl) (Opd.t rfl) hS hM (i := 1) rfl h4 h66 k68 ?_
                intro v69 w70 hC71 (hS72 : St w0 [[], blk v69] w70) (mv73 : Mv (Mine [[], blk v3] M0) w63 (Mine [[], blk v69] M0) w70) h74
                replace hS := hS72
                refine WL_op (Run_assign (Opd.t rfl)) rfl rfl rfl <| ?_
                refine WL_nil ?_
                refine At_then ?_
                refine WC_exit ?_
                refine At_then_exit <| At_blk_here <| ?_
                exact At_again ((out2 ++ ([(1, (cut text0 i5 i29), 0, i5)] : List (Int × Str × Int × Int))), i29) v69 hm ⟨hS, h74⟩ rfl
          ·
            replace hm := bif_f hc28 hm
            refine WC_skip ?_
            refine At_then ?_
            refine WC_seq ?_
            refine WC_seq ?_
            refine WC_region ?_
            refine WL_op (Run_move (Opd.t rfl)) rfl rfl rfl <| WL_op (Run_eqI (Opd.t rfl) Opd.c) rfl rfl rfl <| ?_
            refine WL_nil ?_
            refine At_then ?_
            refine WC_cond (Opd.t rfl) (fun hc75 => ?_) (fun hc75 => ?_)
            ·
              replace hm := bif_t hc75 hm
              refine WC_seq ?_
              refine WC_region ?_
              refine WL_op (Run_assign Opd.c) rfl rfl rfl <| ?_
              refine WL_nil ?_
              refine At_then ?_
              refine WC_seq ?_
              refine WC_block ?_
              refine WC_loop (σ := Int × Int) (γ := Unit) (F := (scrutinyref12_Tokens_L4 text0 out2 i5 again7)) (N := FUEL) (s0 := (i5, 0)) (r := r) (fun ⟨i76, n77⟩ (_ : Unit) w78 => St w0 [[], blk v3] w78 ∧ OSl (RP (RI .i64) (RP RS (RP (RI .i64) (RI .i64)))) 34 (Mine [[], blk v3] M0) w78 v3 out2) (fun ⟨i76, n77⟩ (_ : Unit) => [(0, true, (S text0)), (5, true, v3), (6, true, (.int .i64 i76)), (8, true, (.int .i64 i5)), (9, true, (.int .i64 n77))]) hm () ⟨hS, h4⟩ rfl ?_
              rintro again79 ⟨i76, n77⟩ _ w78 hm ⟨hS, h4⟩
              unfold scrutinyref12_Tokens_L4 at hm
              dsimp only at hm
              refine WC_seq ?_
              refine WC_seq ?_
              refine WC_region ?_
              obtain ⟨b80, e81, hm⟩ := letv_some hm
              obtain ⟨k82, hm⟩ := chkG_some hm
              refine WL_op (Run_move (Opd.t rfl)) rfl rfl rfl <| WL_op (Run_move (Opd.t rfl)) rfl rfl rfl <| WL_op (Run_lenS Try.underlying9 (Opd.t rfl)) rfl rfl rfl <| WL_op (Run.eqB (Run_ltI (Opd.t rfl) (Opd.t rfl)) e81) rfl rfl rfl <| WL_op (Run_move (Opd.t rfl)) rfl rfl rfl <| WL_opG rfl rfl rfl rfl guard_pos (Run_move (Opd.t rfl)) rfl rfl <| WL_opG rfl rfl rfl rfl guard_pos (Run_move (Opd.t rfl)) rfl rfl <| WL_opG rfl rfl rfl rfl guard_pos (Run_idxS Try.underlying9 (Opd.g rfl id) (Opd.g rfl id) k82) rfl rfl <| ?_
              obtain ⟨r83, hr84, -, hm⟩ := callG_some hm
              refine WL_callG rfl rfl rfl guard_pos (f := 21) (first := []) (cap := []) (xs := [(.tmp 90)]) (vs := [(.int .u8 (byteAt text0 i76))]) (args := [(.int .u8 (byteAt text0 i76))]) Try.call21 Opd.f (.cons (Opd.g rfl id) .nil) rfl rfl (fun hg => scrutinyref12_kind_ok w78 (hr84 hg)) ?_
              intro v87 w86 hv88 hz89
              have hx85 : Ext w78 w86 := Ext.ofG (fun hg => (hv88 hg).1) hz89
              replace h4 := h4.ext hx85
              replace hS := hS.ext hx85
              refine WL_sub1 (v := (.int .i64 r83)) (fun hg => (hv88 hg).2) ?_
              obtain ⟨b90, e91, hm⟩ := letv_some hm
              obtain ⟨b92, e93, hm⟩ := letv_some hm
              refine WL_opG rfl rfl rfl rfl guard_pos (Run.eqB (Run_eqI (Opd.g rfl id) Opd.c) e91) rfl rfl <| WL_op (Run.eqB (Run_and (Opd.t rfl) (Opd.g rfl id)) e93) rfl rfl rfl <| ?_
              refine WL_nil ?_
              refine At_then ?_
              refine WC_cond (Opd.t rfl) (fun hc94 => ?_) (fun hc94 => ?_)
              ·
                replace hm := bif_t hc94 hm
                refine WC_skip ?_
                refine At_then ?_
                refine WC_block ?_
                refine WC_seq ?_
                refine WC_seq ?_
                refine WC_region ?_
                refine WL_op (Run_move (Opd.t rfl)) rfl rfl rfl <| WL_op (Run_leI (Opd.t rfl) Opd.c) rfl rfl rfl <| ?_
                refine WL_nil ?_
                refine At_then ?_
                refine WC_cond (Opd.t rfl) (fun hc95 => ?_) (fun hc95 => ?_)
                ·
                  replace hm := bif_t hc95 hm
                  refine WC_region ?_
                  obtain ⟨k96, hm⟩ := chk_some hm
                  refine WL_op (Run_move (Opd.t rfl)) rfl rfl rfl <| WL_op (Run_mul Opd.c (Opd.t rfl)) rfl rfl rfl <| WL_op (Run_move (Opd.t rfl)) rfl rfl rfl <| WL_op (Run_move (Opd.t rfl)) rfl rfl rfl <| WL_op (Run_idxS Try.underlying9 (Opd.t rfl) (Opd.t rfl) (fun _ => k96)) rfl rfl rfl <| WL_op (Run_conv Try.underlying5 Try.underlying3 (Opd.t rfl)) rfl rfl rfl <| WL_op (Run_add (Opd.t rfl) (Opd.t rfl)) rfl rfl rfl <| WL_op (Run_sub (Opd.t rfl) Opd.c) rfl rfl rfl <| ?_
                  refine WL_op (Run_assign (Opd.t rfl)) rfl rfl rfl <| ?_
                  refine WL_nil ?_
                  refine At_then ?_
                  refine WC_region ?_
                  refine WL_op (Run_move (Opd.t rfl)) rfl rfl rfl <| WL_op (Run_add (Opd.t rfl) Opd.c) rfl rfl rfl <| WL_op (Run_assign (Opd.t rfl)) rfl rfl rfl <| ?_
                  refine WL_nil ?_
                  refine At_blk_normal ?_
                  exact At_again ((IntKind.i64.wrap (i76 + 1)), (IntKind.i64.wrap ((IntKind.i64.wrap ((IntKind.i64.wrap (10 * n77)) + (IntKind.i64.wrap (byteAt text0 i76)))) - 48))) () hm ⟨hS, h4⟩ rfl
                ·
                  replace hm := bif_f hc95 hm
                  refine WC_skip ?_
                  refine At_then ?_
                  refine WC_region ?_
                  refine WL_op (Run_move (Opd.t rfl)) rfl rfl rfl <| WL_op (Run_add (Opd.t rfl) Opd.c) rfl rfl rfl <| WL_op (Run_assign (Opd.t rfl)) rfl rfl rfl <| ?_
                  refine WL_nil ?_
                  refine At_blk_normal ?_
                  exact At_again ((IntKind.i64.wrap (i76 + 1)), n77) () hm ⟨hS, h4⟩ rfl
              ·
                replace hm := bif_f hc94 hm
                refine WC_exit ?_
                refine At_then_exit <| At_then_exit <| At_blk_here <| ?_
                refine At_then ?_
                refine WC_seq ?_
                refine WC_seq ?_
                refine WC_region ?_
                refine WL_op (Run_move (Opd.t rfl)) rfl rfl rfl <| WL_op (Run_gtI (Opd.t rfl) Opd.c) rfl rfl rfl <| ?_
                refine WL_nil ?_
                refine At_then ?_
                refine WC_cond (Opd.t rfl) (fun hc97 => ?_) (fun hc97 => ?_)
                ·
                  replace hm := bif_t hc97 hm
                  refine WC_seq ?_
                  refine WC_region ?_
                  refine WL_op (Run_move (Opd.t rfl)) rfl rfl rfl <| WL_op (Run_assign Opd.c) rfl rfl rfl <| WL_op (Run_assign Opd.c) rfl rfl rfl <| WL_op (Run_assign (Opd.t rfl)) rfl rfl rfl <| ?_
                  refine WL_nil ?_
                  refine At_then ?_
                  refine WC_ret ?_
                  refine At_then_ret <| At_then_ret <| At_blk_ret <| At_then_ret <| At_blk_ret <| At_then_ret <| ?_
                  refine At_r3 rfl (ResIs.t rfl) (ResIs.t rfl) (ResIs.t rfl) ?_
                  cases hm
                  exact ⟨hS.toExt, _, rfl, SRd.nil⟩
                ·
                  replace hm := bif_f hc97 hm
                  refine WC_skip ?_
                  refine At_then ?_
                  refine WC_seq ?_
                  refine WC_region ?_
                  obtain ⟨k98, hm⟩ := chk_some hm
                  refine WL_op (Run_move (Opd.t rfl)) rfl rfl rfl <| WL_op (Run_move (Opd.t rfl)) rfl rfl rfl <| WL_op (Run_move (Opd.t rfl)) rfl rfl rfl <| WL_op (Run_move (Opd.t rfl)) rfl rfl rfl <| WL_op (Run_cutS Try.underlying9 (Opd.t rfl) ⟨_, (Opd.t rfl)⟩ ⟨_, (Opd.t rfl)⟩ (fun _ => k98)) rfl rfl rfl <| WL_op (Run_move (Opd.t rfl)) rfl rfl rfl <| WL_op (Run_move (Opd.t rfl)) rfl rfl rfl <| WL_op (Run_build (parts := [(0, (.const (.int .i64 2))), (1, (.tmp 113)), (2, (.tmp 114)), (3, (.tmp 115))]) (v := (.agg #[(.int .i64 2), (S (cut text0 i5 i76)), (.int .i64 n77), (.int .i64 i5)])) (.cons Opd.c (.cons (Opd.t rfl) (.cons (Opd.t rfl) (.cons (Opd.t rfl) .nil)))) (fun _ => by kernel_rfl)) rfl rfl rfl <| ?_
                  obtain ⟨b99, hb100⟩ : ∃ b, w86.heap.size = b := ⟨_, rfl⟩
                  refine WL_buildSlice (zs := [(.int .i64 0), (S ([])), (.int .i64 0), (.int .i64 0)]) (cells := [(.int .i64 2), (S (cut text0 i5 i76)), (.int .i64 n77), (.int .i64 i5)]) (parts := [(0, (.tmp 116))]) Try.underlying23 ti34 rfl rfl rfl (.cons (Opd.t rfl) .nil) (by kernel_rfl) hb100 rfl ?_
                  intro w101 hx102 hB103
                  have hf105 : ¬ Mine [[], blk v3] M0 b99 := newB_free hS hM hb100
                  replace h4 := h4.ext hx102
                  replace hS := hS.ext hx102
                  have h104 : SRd (RP (RI .i64) (RP RS (RP (RI .i64) (RI .i64)))) (Mine [[], blk v3] M0) w101 (.slice (some ⟨b99, 0, none⟩) 1 1) ([(2, (cut text0 i5 i76), n77, i5)] : List (Int × Str × Int × Int)) := SRd.fresh (cells := [(.int .i64 2), (S (cut text0 i5 i76)), (.int .i64 n77), (.int .i64 i5)]) hB103 hf105 rfl (ARd.cons (c := [(.int .i64 2), (S (cut text0 i5 i76)), (.int .i64 n77), (.int .i64 i5)]) ⟨_, _, rfl, rfl, ⟨_, _, rfl, rfl, ⟨_, _, rfl, rfl, rfl⟩⟩⟩ ARd.nil)
                  obtain ⟨k106, hm⟩ := chk_some hm
                  refine WL_append (A := (RP (RI .i64) (RP RS (RP (RI .i64) (RI .i64))))) Try.underlying23 ti34 rfl (by decide) rfl (Opd.t rfl) (Opd.t rfl) hS hM (i := 1) rfl h4 h104 k106 ?_
                  intro v107 w108 hC109 (hS110 : St w0 [[], blk v107] w108) (mv111 : Mv (Mine [[], blk v3] M0) w101 (Mine [[], blk v107] M0) w108) h112
                  replace hS := hS110
                  refine WL_op (Run_assign (Opd.t rfl)) rfl rfl rfl <| ?_
                  refine WL_nil ?_
                  refine At_then ?_
                  refine WC_exit ?_
                  refine At_then_exit <| At_blk_here <| ?_
                  exact At_again ((out2 ++ ([(2, (cut text0 i5 i76), n77, i5)] : List (Int × Str × Int × Int))), i76) v107 hm ⟨hS, h112⟩ rfl
            ·
              replace hm := bif_f hc75 hm
              refine WC_skip ?_
              refine At_then ?_
              refine WC_seq ?_
              refine WC_region ?_
              obtain ⟨r113, hr114, hm⟩ := bind_some' hm
              refine WL_call (f := 14) (first := []) (cap := []) (xs := []) (vs := []) (args := []) Try.call14 Opd.f .nil rfl rfl (scrutinyref12_Signs_ok w13 (Mine [[], blk v3] M0) (mine_lt hS hM) hr114) ?_
              rintro v115 w118 ⟨hx117, _, rfl, h116⟩
              replace h4 := h4.ext hx117
              replace hS := hS.ext hx117
              refine WL_op (Run_assign (Opd.t rfl)) rfl rfl rfl <| ?_
              refine WL_nil ?_
              refine At_then ?_
              refine WC_seq ?_
              refine WC_region ?_
              refine WL_op (Run_assign Opd.c) rfl rfl rfl <| ?_
              refine WL_nil ?_
              refine At_then ?_
              refine WC_seq ?_
              refine WC_seq ?_
              refine WC_region ?_
              refine WL_op (Run_assign Opd.c) rfl rfl rfl <| ?_
              refine WL_nil ?_
              refine At_then ?_
              refine WC_block ?_
              refine WC_loop (σ := Str × Int) (γ := Unit) (F := (scrutinyref12_Tokens_L5 text0 out2 i5 again7 r113)) (N := FUEL) (s0 := ([], 0)) (r := r) (fun ⟨s119, j120⟩ (_ : Unit) w121 => St w0 [[], blk v3] w121 ∧ OSl (RP (RI .i64) (RP RS (RP (RI .i64) (RI .i64)))) 34 (Mine [[], blk v3] M0) w121 v3 out2 ∧ SRd RS (Mine [[], blk v3] M0) w121 v115 r113) (fun ⟨s119, j120⟩ (_ : Unit) => [(0, true, (S text0)), (5, true, v3), (8, true, (.int .i64 i5)), (10, true, v115), (11, true, (S s119)), (12, true, (.int .i64 j120))]) hm () ⟨hS, h4, h116⟩ rfl ?_
              rintro again122 ⟨s119, j120⟩ _ w121 hm ⟨hS, h4, h116⟩
              unfold scrutinyref12_Tokens_L5 at hm
              dsimp only at hm
              refine WC_seq ?_
              refine WC_seq ?_
              refine WC_region ?_
              obtain ⟨b123, e124, hm⟩ := letv_some hm
              obtain ⟨b125, e126, hm⟩ := letv_some hm
              obtain ⟨b127, e128, hm⟩ := letv_some hm
              refine WL_op (Run_move (Opd.t rfl)) rfl rfl rfl <| WL_op (Run_move (Opd.t rfl)) rfl rfl rfl <| WL_op (Run_lenSl Try.underlying29 (Opd.t rfl) h116.len) rfl rfl rfl <| WL_op (Run.eqB (Run_ltI (Opd.t rfl) (Opd.t rfl)) e124) rfl rfl rfl <| WL_op (Run_move (Opd.t rfl)) rfl rfl rfl <| WL_opG rfl rfl rfl rfl guard_pos (Run_move (Opd.t rfl)) rfl rfl <| WL_opG rfl rfl rfl rfl guard_pos (Run.eqB (Run_eqS (Opd.g rfl id) Opd.c) e126) rfl rfl <| WL_op (Run.eqB (Run_and (Opd.t rfl) (Opd.g rfl id)) e128) rfl rfl rfl <| ?_
              refine WL_nil ?_
              refine At_then ?_
              refine WC_cond (Opd.t rfl) (fun hc129 => ?_) (fun hc129 => ?_)
              ·
                replace hm := bif_t hc129 hm
                refine WC_skip ?_
                refine At_then ?_
                refine WC_seq ?_
                refine WC_block ?_
                refine WC_seq ?_
                refine WC_region_draw (by kernel_rfl) (by kernel_rfl) ?_
                obtain ⟨e130, he131, hm⟩ := bind_some' hm
                obtain ⟨p132, vs133, hE134, hC135, hR136⟩ := SRd.atG (fun _ => h116) (fun _ => he131)
                replace hC135 : true = true → CellsAt w121 p132 [(S e130)] := fun hg => openT9 (hR136 hg) ▸ hC135 hg
                replace hC135 := hC135 rfl
                refine WQ_op (fun _ hx => (Run_move (Opd.t rfl))) rfl rfl rfl <| WQ_op (fun _ hx => (Run_move (Opd.t rfl))) rfl rfl rfl <| WQ_op (fun _ hx => (Run_idxAddr Try.underlying29 ti9 (Opd.t rfl) (Opd.t rfl) hE134)) rfl rfl rfl <| WQ_op (fun _ hx => (Run_load1 (v := (S e130)) Try.underlying9 rfl (Opd.t rfl) (fun hg => (((fun _ => hC135) hg).sub 0 rfl).ext hx))) rfl rfl rfl <| WQ_op (fun _ hx => (Run_lenS Try.underlying9 (Opd.t rfl))) rfl rfl rfl <| WQ_op (fun _ hx => (Run_move (Opd.t rfl))) rfl rfl rfl <| WQ_op (fun _ hx => (Run_lenS Try.underlying9 (Opd.t rfl))) rfl rfl rfl <| WQ_op (fun _ hx => (Run_move (Opd.t rfl))) rfl rfl rfl <| ?_
                obtain ⟨b137, e138, hm⟩ := letv_some hm
                refine WQ_op (fun _ hx => (Run_sub (Opd.t rfl) (Opd.t rfl))) rfl rfl rfl <| WQ_op (fun _ hx => (Run.eqB (Run_leI (Opd.t rfl) (Opd.t rfl)) e138)) rfl rfl rfl <| WQ_op (fun _ hx => (Run_move (Opd.t rfl))) rfl rfl rfl <| WQ_opG rfl rfl rfl rfl guard_pos (fun _ hx => (Run_move (Opd.t rfl))) rfl rfl <| WQ_opG rfl rfl rfl rfl guard_pos (fun _ hx => (Run_move (Opd.t rfl))) rfl rfl <| WQ_opG rfl rfl rfl rfl guard_pos (fun _ hx => (Run_move (Opd.t rfl))) rfl rfl <| WQ_opG rfl rfl rfl rfl guard_pos (fun _ hx => (Run_move (Opd.t rfl))) rfl rfl <| WQ_opG rfl rfl rfl rfl guard_pos (fun _ hx => (Run_move (Opd.t rfl))) rfl rfl <| ?_
                obtain ⟨e139, he140, -, hm⟩ := callG_some hm
                obtain ⟨p141, vs142, hE143, hC144, hR145⟩ := SRd.atG (fun _ => h116) he140
                replace hC144 : b137 = true → CellsAt w121 p141 [(S e139)] := fun hg => openT9 (hR145 hg) ▸ hC144 hg
                obtain ⟨k146, hm⟩ := chkG_some hm
                obtain ⟨e147, he148, -, hm⟩ := callG_some hm
                obtain ⟨p149, vs150, hE151, hC152, hR153⟩ := SRd.atG (fun _ => h116) he148
                replace hC152 : b137 = true → CellsAt w121 p149 [(S e147)] := fun hg => openT9 (hR153 hg) ▸ hC152 hg
                refine WQ_opG rfl rfl rfl rfl guard_pos (fun _ hx => (Run_idxAddr Try.underlying29 ti9 (Opd.g rfl id) (Opd.g rfl id) hE143)) rfl rfl <| WQ_opG rfl rfl rfl rfl guard_pos (fun _ hx => (Run_load1 (v := (S e139)) Try.underlying9 rfl (Opd.g rfl id) (fun hg => ((hC144 hg).sub 0 rfl).ext hx))) rfl rfl <| WQ_opG rfl rfl rfl rfl guard_pos (fun _ hx => (Run_lenS Try.underlying9 (Opd.g rfl id))) rfl rfl <| WQ_opG rfl rfl rfl rfl guard_pos (fun _ hx => (Run_add (Opd.g rfl id) (Opd.g rfl id))) rfl rfl <| WQ_opG rfl rfl rfl rfl guard_pos (fun _ hx => (Run_cutS Try.underlying9 (Opd.g rfl id) ⟨_, (Opd.g rfl id)⟩ ⟨_, (Opd.g rfl id)⟩ k146)) rfl rfl <| WQ_opG rfl rfl rfl rfl guard_pos (fun _ hx => (Run_move (Opd.t rfl))) rfl rfl <| WQ_opG rfl rfl rfl rfl guard_pos (fun _ hx => (Run_move (Opd.t rfl))) rfl rfl <| WQ_opG rfl rfl rfl rfl guard_pos (fun _ hx => (Run_idxAddr Try.underlying29 ti9 (Opd.g rfl id) (Opd.g rfl id) hE151)) rfl rfl <| ?_
                obtain ⟨b154, e155, hm⟩ := letv_some hm
                obtain ⟨b156, e157, hm⟩ := letv_some hm
                refine WQ_opG rfl rfl rfl rfl guard_pos (fun _ hx => (Run_load1 (v := (S e147)) Try.underlying9 rfl (Opd.g rfl id) (fun hg => ((hC152 hg).sub 0 rfl).ext hx))) rfl rfl <| WQ_opG rfl rfl rfl rfl guard_pos (fun _ hx => (Run.eqB (Run_eqS (Opd.g rfl id) (Opd.g rfl id)) e155)) rfl rfl <| WQ_op (fun _ hx => (Run.eqB (Run_and (Opd.t rfl) (Opd.g rfl id)) e157)) rfl rfl rfl <| ?_
                refine WQ_nil ?_
                intro w158 hx159
                replace h4 := h4.ext hx159
                replace h116 := h116.mv (hx159.mv _)
                replace hS := hS.ext hx159
                refine At_then ?_
                refine WC_cond (Opd.t rfl) (fun hc160 => ?_) (fun hc160 => ?_)
                ·
                  replace hm := bif_t hc160 hm
                  refine WC_region ?_
                  obtain ⟨e161, he162, hm⟩ := bind_some' hm
                  obtain ⟨p163, vs164, hE165, hC166, hR167⟩ := SRd.atG (fun _ => h116) (fun _ => he162)
                  replace hC166 : true = true → CellsAt w158 p163 [(S e161)] := fun hg => openT9 (hR167 hg) ▸ hC166 hg
                  replace hC166 := hC166 rfl
                  refine WL_op (Run_move (Opd.t rfl)) rfl rfl rfl <| WL_op (Run_move (Opd.t rfl)) rfl rfl rfl <| WL_op (Run_idxAddr Try.underlying29 ti9 (Opd.t rfl) (Opd.t rfl) hE165) rfl rfl rfl <| WL_op (Run_load1 (v := (S e161)) Try.underlying9 rfl (Opd.t rfl) (fun hg => (((fun _ => hC166) hg).sub 0 rfl))) rfl rfl rfl <| WL_op (Run_assign (Opd.t rfl)) rfl rfl rfl <| ?_
                  refine WL_nil ?_
                  refine At_blk_normal ?_
                  refine At_then ?_
                  refine WC_region ?_
                  refine WL_op (Run_move (Opd.t rfl)) rfl rfl rfl <| WL_op (Run_add (Opd.t rfl) Opd.c) rfl rfl rfl <| WL_op (Run_assign (Opd.t rfl)) rfl rfl rfl <| ?_
                  refine WL_nil ?_
                  exact At_again (e161, (IntKind.i64.wrap (j120 + 1))) () hm ⟨hS, h4, h116⟩ rfl
                ·
                  replace hm := bif_f hc160 hm
                  refine WC_skip ?_
                  refine At_blk_normal ?_
                  refine At_then ?_
                  refine WC_region ?_
                  refine WL_op (Run_move (Opd.t rfl)) rfl rfl rfl <| WL_op (Run_add (Opd.t rfl) Opd.c) rfl rfl rfl <| WL_op (Run_assign (Opd.t rfl)) rfl rfl rfl <| ?_
                  refine WL_nil ?_
                  exact At_again (s119, (IntKind.i64.wrap (j120 + 1))) () hm ⟨hS, h4, h116⟩ rfl
              ·
                replace hm := bif_f hc129 hm
                refine WC_exit ?_
                refine At_then_exit <| At_then_exit <| At_blk_here <| ?_
                refine At_then ?_
                refine WC_seq ?_
                refine WC_seq ?_
                refine WC_region ?_
                refine WL_op (Run_move (Opd.t rfl)) rfl rfl rfl <| WL_op (Run_eqS (Opd.t rfl) Opd.c) rfl rfl rfl <| ?_
                refine WL_nil ?_
                refine At_then ?_
                refine WC_cond (Opd.t rfl) (fun hc168 => ?_) (fun hc168 => ?_)
                ·
                  replace hm := bif_t hc168 hm
                  refine WC_seq ?_
                  refine WC_region ?_
                  refine WL_op (Run_move (Opd.t rfl)) rfl rfl rfl <| WL_op (Run_assign Opd.c) rfl rfl rfl <| WL_op (Run_assign Opd.c) rfl rfl rfl <| WL_op (Run_assign (Opd.t rfl)) rfl rfl rfl <| ?_
                  refine WL_nil ?_
                  refine At_then ?_
                  refine WC_ret ?_
                  refine At_then_ret <| At_blk_ret <| At_then_ret <| At_blk_ret <| At_then_ret <| ?_
                  refine At_r3 rfl (ResIs.t rfl) (ResIs.t rfl) (ResIs.t rfl) ?_
                  cases hm
                  exact ⟨hS.toExt, _, rfl, SRd.nil⟩
                ·
                  replace hm := bif_f hc168 hm
                  refine WC_skip ?_
                  refine At_then ?_
                  refine WC_seq ?_
                  refine WC_region ?_
                  refine WL_op (Run_move (Opd.t rfl)) rfl rfl rfl <| WL_op (Run_move (Opd.t rfl)) rfl rfl rfl <| WL_op (Run_move (Opd.t rfl)) rfl rfl rfl <| WL_op (Run_build (parts := [(0, (.const (.int .i64 3))), (1, (.tmp 165)), (3, (.tmp 166))]) (v := (.agg #[(.int .i64 3), (S s119), (.int .i64 0), (.int .i64 i5)])) (.cons Opd.c (.cons (Opd.t rfl) (.cons (Opd.t rfl) .nil))) (fun _ => by kernel_rfl)) rfl rfl rfl <| ?_
                  obtain ⟨b169, hb170⟩ : ∃ b, w121.heap.size = b := ⟨_, rfl⟩
                  refine WL_buildSlice (zs := [(.int .i64 0), (S ([])), (.int .i64 0), (.int .i64 0)]) (cells := [(.int .i64 3), (S s119), (.int .i64 0), (.int .i64 i5)]) (parts := [(0, (.tmp 167))]) Try.underlying23 ti34 rfl rfl rfl (.cons (Opd.t rfl) .nil) (by kernel_rfl) hb170 rfl ?_
                  intro w171 hx172 hB173
                  have hf175 : ¬ Mine [[], blk v3] M0 b169 := newB_free hS hM hb170
                  replace h4 := h4.ext hx172
                  replace hS := hS.ext hx172
                  have h174 : SRd (RP (RI .i64) (RP RS (RP (RI .i64) (RI .i64)))) (Mine [[], blk v3] M0) w171 (.slice (some ⟨b169, 0, none⟩) 1 1) ([(3, s119, 0, i5)] : List (Int × Str × Int × Int)) := SRd.fresh (cells := [(.int .i64 3), (S s119), (.int .i64 0), (.int .i64 i5)]) hB173 hf175 rfl (ARd.cons (c := [(.int .i64 3), (S s119), (.int .i64 0), (.int .i64 i5)]) ⟨_, _, rfl, rfl, ⟨_, _, rfl, rfl, ⟨_, _, rfl, rfl, rfl⟩⟩⟩ ARd.nil)
                  obtain ⟨k176, hm⟩ := chk_some hm
                  refine WL_append (A := (RP (RI .i64) (RP RS (RP (RI .i64) (RI .i64))))) Try.underlying23 ti34 rfl (by decide) rfl (Opd.t rfl) (Opd.t rfl) hS hM (i := 1) rfl h4 h174 k176 ?_
                  intro v177 w178 hC179 (hS180 : St w0 [[], blk v177] w178) (mv181 : Mv (Mine [[], blk v3] M0) w171 (Mine [[], blk v177] M0) w178) h182
                  replace hS := hS180
                  refine WL_op (Run_assign (Opd.t rfl)) rfl rfl rfl <| ?_
                  refine WL_nil ?_
                  refine At_then ?_
                  refine WC_region ?_
                  refine WL_op (Run_move (Opd.t rfl)) rfl rfl rfl <| WL_op (Run_move (Opd.t rfl)) rfl rfl rfl <| WL_op (Run_lenS Try.underlying9 (Opd.t rfl)) rfl rfl rfl <| WL_op (Run_add (Opd.t rfl) (Opd.t rfl)) rfl rfl rfl <| WL_op (Run_assign (Opd.t rfl)) rfl rfl rfl <| ?_
                  refine WL_nil ?_
                  refine At_blk_normal ?_
                  exact At_again ((out2 ++ ([(3, s119, 0, i5)] : List (Int × Str × Int × Int))), (IntKind.i64.wrap (i5 + (List.length s119 : Int)))) v177 hm ⟨hS, h182⟩ rfl
    ·
      replace hm := bif_f hc8 hm
      refine WC_exit ?_
      refine At_then_exit <| At_then_exit <| At_blk_here <| ?_
      refine At_then ?_
      refine WC_seq ?_
      refine WC_region ?_
      refine WL_op (Run_move (Opd.t rfl)) rfl rfl rfl <| WL_op (Run_move (Opd.t rfl)) rfl rfl rfl <| WL_op (Run_lenS Try.underlying9 (Opd.t rfl)) rfl rfl rfl <| WL_op (Run_build (parts := [(0, (.const (.int .i64 4))), (3, (.tmp 176))]) (v := (.agg #[(.int .i64 4), (S ([])), (.int .i64 0), (.int .i64 (List.length text0 : Int))])) (.cons Opd.c (.cons (Opd.t rfl) .nil)) (fun _ => by kernel_rfl)) rfl rfl rfl <| ?_
      obtain ⟨b183, hb184⟩ : ∃ b, w6.heap.size = b := ⟨_, rfl⟩
      refine WL_buildSlice (zs := [(.int .i64 0), (S ([])), (.int .i64 0), (.int .i64 0)]) (cells := [(.int .i64 4), (S ([])), (.int .i64 0), (.int .i64 (List.length text0 : Int))]) (parts := [(0, (.tmp 177))]) Try.underlying23 ti34 rfl rfl rfl (.cons (Opd.t rfl) .nil) (by kernel_rfl) hb184 rfl ?_
      intro w185 hx186 hB187
      have hf189 : ¬ Mine [[], blk v3] M0 b183 := newB_free hS hM hb184
      replace h4 := h4.ext hx186
      replace hS := hS.ext hx186
      have h188 : SRd (RP (RI .i64) (RP RS (RP (RI .i64) (RI .i64)))) (Mine [[], blk v3] M0) w185 (.slice (some ⟨b183, 0, none⟩) 1 1) ([(4, [], 0, (List.length text0 : Int))] : List (Int × Str × Int × Int)) := SRd.fresh (cells := [(.int .i64 4), (S ([])), (.int .i64 0), (.int .i64 (List.length text0 : Int))]) hB187 hf189 rfl (ARd.cons (c := [(.int .i64 4), (S ([])), (.int .i64 0), (.int .i64 (List.length text0 : Int))]) ⟨_, _, rfl, rfl, ⟨_, _, rfl, rfl, ⟨_, _, rfl, rfl, rfl⟩⟩⟩ ARd.nil)
      obtain ⟨k190, hm⟩ := chk_some hm
      refine WL_append (A := (RP (RI .i64) (RP RS (RP (RI .i64) (RI .i64))))) Try.underlying23 ti34 rfl (by decide) rfl (Opd.t rfl) (Opd.t rfl) hS hM (i := 1) rfl h4 h188 k190 ?_
      intro v191 w192 hC193 (hS194 : St w0 [[], blk v191] w192) (mv195 : Mv (Mine [[], blk v3] M0) w185 (Mine [[], blk v191] M0) w192) h196
      replace hS := hS194
      refine WL_op (Run_assign (Opd.t rfl)) rfl rfl rfl <| WL_op (Run_assign Opd.c) rfl rfl rfl <| WL_op (Run_assign Opd.c) rfl rfl rfl <| ?_
      refine WL_nil ?_
      refine At_then ?_
      refine WC_ret ?_
      refine At_r3 rfl (ResIs.t rfl) (ResIs.t rfl) (ResIs.t rfl) ?_
      cases hm
      exact ⟨hS.toExt, _, rfl, h196.done hS hM (i := 1) rfl⟩

theorem scrutinyref12_Same_ok (w0 : World) (M0 : Nat → Prop) (hM : ∀ b, M0 b → b < w0.heap.size) {a0 : (List (Int × Str × Int × Int))} {b1 : (List (Int × Str × Int × Int))} {v1 : Value} {v3 : Value} (h2 : SRd (RP (RI .i64) (RP RS (RP (RI .i64) (RI .i64)))) M0 w0 v1 a0) (h4 : SRd (RP (RI .i64) (RP RS (RP (RI .i64) (RI .i64)))) M0 w0 v3 b1) {r : Bool} (hm : scrutinyref12_Same a0 b1 = some r) :
    CallsR Try.prog 15 [v1, v3] w0 (fun v w' => Ext w0 w' ∧ v = (.bool r)) := by
  have _hM := hM
  have hS : St w0 [] w0 := St.start w0 0
  replace h2 : SRd (RP (RI .i64) (RP RS (RP (RI .i64) (RI .i64)))) (Mine [] M0) w0 v1 a0 := h2.mv (Mv.start 0)
  replace h4 : SRd (RP (RI .i64) (RP RS (RP (RI .i64) (RI .i64)))) (Mine [] M0) w0 v3 b1 := h4.mv (Mv.start 0)
  refine CallsR_enter Try.func15 rfl Try.ntmps15 rfl ?_
  unfold scrutinyref12_Same at hm
  refine WC_seq ?_
  refine WC_region ?_
  refine WL_op (Run_assign Opd.c) rfl rfl rfl <| ?_
  refine WL_nil ?_
  refine At_then ?_
  refine WC_seq ?_
  refine WC_seq ?_
  refine WC_region ?_
  refine WL_op (Run_move (Opd.t rfl)) rfl rfl rfl <| WL_op (Run_lenSl Try.underlying23 (Opd.t rfl) h2.len) rfl rfl rfl <| WL_op (Run_move (Opd.t rfl)) rfl rfl rfl <| WL_op (Run_lenSl Try.underlying23 (Opd.t rfl) h4.len) rfl rfl rfl <| WL_op (Run_neI (Opd.t rfl) (Opd.t rfl)) rfl rfl rfl <| ?_
  refine WL_nil ?_
  refine At_then ?_
  refine WC_cond (Opd.t rfl) (fun hc5 => ?_) (fun hc5 => ?_)
  ·
    replace hm := bif_t hc5 hm
    refine WC_seq ?_
    refine WC_region ?_
    refine WL_op (Run_assign Opd.c) rfl rfl rfl <| ?_
    refine WL_nil ?_
    refine At_then ?_
    refine WC_ret ?_
    refine At_then_ret <| ?_
    refine At_r1 rfl (ResIs.t rfl) ?_
    cases hm
    exact ⟨hS.toExt, rfl⟩
  ·
    replace hm := bif_f hc5 hm
    refine WC_skip ?_
    refine At_then ?_
    refine WC_seq ?_
    refine WC_seq ?_
    refine WC_region ?_
    refine WL_op (Run_assign Opd.c) rfl rfl rfl <| ?_
    refine WL_nil ?_
    refine At_then ?_
    refine WC_block ?_
    refine WC_loop (σ := Int) (γ := Unit) (F := (scrutinyref12_Same_L1 a0 b1)) (N := FUEL) (s0 := 0) (r := r) (fun i6 (_ : Unit) w7 => St w0 [] w7 ∧ SRd (RP (RI .i64) (RP RS (RP (RI .i64) (RI .i64)))) (Mine [] M0) w7 v1 a0 ∧ SRd (RP (RI .i64) (RP RS (RP (RI .i64) (RI .i64)))) (Mine [] M0) w7 v3 b1) (fun i6 (_ : Unit) => [(0, true, v1), (1, true, v3), (5, true, (.int .i64 i6))]) hm () ⟨hS, h2, h4⟩ rfl ?_
    rintro again8 i6 _ w7 hm ⟨hS, h2, h4⟩
    unfold scrutinyref12_Same_L1 at hm
    refine WC_seq ?_
    refine WC_seq ?_
    refine WC_region ?_
    refine WL_op (Run_move (Opd.t rfl)) rfl rfl rfl <| WL_op (Run_move (Opd.t rfl)) rfl rfl rfl <| WL_op (Run_lenSl Try.underlying23 (Opd.t rfl) h2.len) rfl rfl rfl <| WL_op (Run_ltI (Opd.t rfl) (Opd.t rfl)) rfl rfl rfl <| ?_
    refine WL_nil ?_
    refine At_then ?_
    refine WC_cond (Opd.t rfl) (fun hc9 => ?_) (fun hc9 => ?_)
    ·
      replace hm := bif_t hc9 hm
      refine WC_skip ?_
      refine At_then ?_
      refine WC_seq ?_
      refine WC_block ?_
      refine WC_seq ?_
      refine WC_region_draw (by kernel_rfl) (by kernel_rfl) ?_
      obtain ⟨e10, he11, hm⟩ := bind_some' hm
      obtain ⟨p12, vs13, hE14, hC15, hR16⟩ := SRd.atG (fun _ => h2) (fun _ => he11)
      replace hC15 : true = true → CellsAt w7 p12 [(.int .i64 e10.1), (S e10.2.1), (.int .i64 e10.2.2.1), (.int .i64 e10.2.2.2)] := fun hg => openT34 (hR16 hg) ▸ hC15 hg
      replace hC15 := hC15 rfl
      obtain ⟨e17, he18, hm⟩ := bind_some' hm
      obtain ⟨p19, vs20, hE21, hC22, hR23⟩ := SRd.atG (fun _ => h4) (fun _ => he18)
      replace hC22 : true = true → CellsAt w7 p19 [(.int .i64 e17.1), (S e17.2.1), (.int .i64 e17.2.2.1), (.int .i64 e17.2.2.2)] := fun hg => openT34 (hR23 hg) ▸ hC22 hg
      replace hC22 := hC22 rfl
      refine WQ_op (fun _ hx => (Run_move (Opd.t rfl))) rfl rfl rfl <| WQ_op (fun _ hx => (Run_move (Opd.t rfl))) rfl rfl rfl <| WQ_op (fun _ hx => (Run_idxAddr Try.underlying23 ti34 (Opd.t rfl) (Opd.t rfl) hE14)) rfl rfl rfl <| WQ_op (fun _ hx => (Run_loadA (vs := [(.int .i64 e10.1), (S e10.2.1), (.int .i64 e10.2.2.1), (.int .i64 e10.2.2.2)]) Try.underlying34 rfl ti34 (Opd.t rfl) (fun hg => (((fun _ => hC15) hg).sub 0 rfl).ext hx) rfl)) rfl rfl rfl <| WQ_op (fun _ hx => (Run_move (Opd.t rfl))) rfl rfl rfl <| WQ_op (fun _ hx => (Run_move (Opd.t rfl))) rfl rfl rfl <| WQ_op (fun _ hx => (Run_idxAddr Try.underlying23 ti34 (Opd.t rfl) (Opd.t rfl) hE21)) rfl rfl rfl <| WQ_op (fun _ hx => (Run_loadA (vs := [(.int .i64 e17.1), (S e17.2.1), (.int .i64 e17.2.2.1), (.int .i64 e17.2.2.2)]) Try.underlying34 rfl ti34 (Opd.t rfl) (fun hg => (((fun _ => hC22) hg).sub 0 rfl).ext hx) rfl)) rfl rfl rfl <| ?_
      refine WQ_op (fun _ hx => (Run_bin (Opd.t rfl) (Opd.t rfl) (run_neT34 _ _ _ _ _ _ _ _ _))) rfl rfl rfl <| ?_
      refine WQ_nil ?_
      intro w24 hx25
      replace h2 := h2.mv (hx25.mv _)
      replace h4 := h4.mv (hx25.mv _)
      replace hS := hS.ext hx25
      refine At_then ?_
      refine WC_cond (Opd.t rfl) (fun hc26 => ?_) (fun hc26 => ?_)
      ·
        replace hm := bif_t hc26 hm
        refine WC_seq ?_
        refine WC_region ?_
        refine WL_op (Run_assign Opd.c) rfl rfl rfl <| ?_
        refine WL_nil ?_
        refine At_then ?_
        refine WC_ret ?_
        refine At_blk_ret <| At_then_ret <| At_then_ret <| At_blk_ret <| At_then_ret <| ?_
        refine At_r1 rfl (ResIs.t rfl) ?_
        cases hm
        exact ⟨hS.toExt, rfl⟩
      ·
        replace hm := bif_f hc26 hm
        refine WC_skip ?_
        refine At_blk_normal ?_
        refine At_then ?_
        refine WC_region ?_
        refine WL_op (Run_move (Opd.t rfl)) rfl rfl rfl <| WL_op (Run_add (Opd.t rfl) Opd.c) rfl rfl rfl <| WL_op (Run_assign (Opd.t rfl)) rfl rfl rfl <| ?_
        refine WL_nil ?_
        exact At_again (IntKind.i64.wrap (i6 + 1)) () hm ⟨hS, h2, h4⟩ rfl
    ·
      replace hm := bif_f hc9 hm
      refine WC_exit ?_
      refine At_then_exit <| At_then_exit <| At_blk_here <| ?_
      refine At_then ?_
      refine WC_seq ?_
      refine WC_region ?_
      refine WL_op (Run_assign Opd.c) rfl rfl rfl <| ?_
      refine WL_nil ?_
      refine At_then ?_
      refine WC_ret ?_
      refine At_r1 rfl (ResIs.t rfl) ?_
      cases hm
      exact ⟨hS.toExt, rfl⟩

end Go.Proofs.Ytiambejbilkgmaa
