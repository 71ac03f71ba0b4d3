/- Printed by a program: the walks. -/
import Derived.Test.YtiambejbilkgmaaWalk2
namespace Go.Proofs.Ytiambejbilkgmaa
open Go.Proofs

theorem lex_value_ok (w0 : World) {s0 : Str} {r : (Int × Bool)} (hm : lex_value s0 = some r) :
    CallsR Try.prog 25 [(S s0)] w0 (fun v w' => Ext w0 w' ∧ v = (.tuple #[(.int .i64 r.1), (.bool r.2)])) := by
  obtain ⟨M0, hM⟩ : ∃ M0 : Nat → Prop, ∀ b, M0 b → b < w0.heap.size := ⟨fun _ => False, fun _ h => h.elim⟩
  have hS : St w0 [[]] w0 := St.start w0 1
  refine CallsR_enter Try.func25 rfl Try.ntmps25 rfl ?_
  unfold lex_value at hm
  refine WC_seq ?_
  refine WC_region ?_
  refine WL_op (Run_assign Opd.c) rfl rfl rfl <| WL_op (Run_assign Opd.c) rfl rfl rfl <| ?_
  refine WL_nil ?_
  refine At_then ?_
  refine WC_seq ?_
  refine WC_region ?_
  refine WL_op (Run_assign Opd.c) rfl rfl rfl <| ?_
  refine WL_nil ?_
  refine At_then ?_
  refine WC_seq ?_
  refine WC_seq ?_
  refine WC_region ?_
  refine WL_op (Run_move (Opd.t rfl)) rfl rfl rfl <| ?_
  obtain ⟨b1, hb2⟩ : ∃ b, w0.heap.size = b := ⟨_, rfl⟩
  refine WL_rangeS Try.underlying9 (Opd.t rfl) hb2 rfl ?_
  intro w3 hx4 hB5
  have mv6 : Mv (Mine [[]] M0) w0 (Mine [[b1]] M0) w3 := Mv.newB hS hM 0 hx4 hb2 hB5.lt
  replace hS : St w0 [[b1]] w3 := hS.newB 0 hx4 hb2 hB5.lt
  refine WL_nil ?_
  refine At_then ?_
  refine WC_block ?_
  refine WC_loop (σ := Int × Nat) (γ := Unit) (F := (lex_value_L1 s0)) (N := FUEL) (s0 := (0, 0)) (r := r) (fun ⟨n8, p9⟩ (_ : Unit) w11 => St w0 [[b1]] w11 ∧ IterAt w11 b1 s0 p9) (fun ⟨n8, p9⟩ (_ : Unit) => [(4, true, (.int .i64 n8)), (8, true, (.pointer (some ⟨b1, 0, none⟩)))]) hm () ⟨hS, hB5⟩ rfl ?_
  rintro again12 ⟨n8, p9⟩ _ w11 hm ⟨hS, hB10⟩
  unfold lex_value_L1 at hm
  dsimp only at hm
  refine WC_seq ?_
  refine WC_region ?_
  refine WL_nextS (Opd.t rfl) hB10 rfl (fun hn13 => ?_) (fun hn13 => ?_)
  ·
    replace hm := bif_t hn13 hm
    intro w14 hC15 hB16
    have mv17 : Mv (Mine [[b1]] M0) w11 (Mine [[b1]] M0) w14 := Mv.wrote hS hM 0 hC15
    replace hS : St w0 [[b1]] w14 := hS.wrote 0 hC15
    refine WL_op (Run_extract (vs := [(.bool true), (.int .i64 (p9 : Int)), (.int .i32 (runeAt s0 p9))]) (Opd.t rfl) rfl) rfl rfl rfl <| ?_
    refine WL_nil ?_
    refine At_then ?_
    refine WC_seq ?_
    refine WC_cond (Opd.t rfl) (fun _ => ?_) (fun h => by cases h)
    refine WC_skip ?_
    refine At_then ?_
    refine WC_block ?_
    refine WC_seq ?_
    refine WC_region ?_
    refine WL_op (Run_extract (vs := [(.bool true), (.int .i64 (p9 : Int)), (.int .i32 (runeAt s0 p9))]) (Opd.t rfl) rfl) rfl rfl rfl <| WL_op (Run_assign (Opd.t rfl)) rfl rfl rfl <| ?_
    refine WL_nil ?_
    refine At_then ?_
    refine WC_seq ?_
    refine WC_region ?_
    refine WL_op (Run_move (Opd.t rfl)) rfl rfl rfl <| WL_op (Run_mul Opd.c (Opd.t rfl)) rfl rfl rfl <| WL_op (Run_move (Opd.t rfl)) rfl rfl rfl <| WL_op (Run_sub (Opd.t rfl) Opd.c) rfl rfl rfl <| WL_op (Run_conv Try.underlying21 Try.underlying3 (Opd.t rfl)) rfl rfl rfl <| WL_op (Run_add (Opd.t rfl) (Opd.t rfl)) rfl rfl rfl <| WL_op (Run_assign (Opd.t rfl)) rfl rfl rfl <| ?_
    refine WL_nil ?_
    refine At_then ?_
    refine WC_seq ?_
    refine WC_region ?_
    refine WL_op (Run_move (Opd.t rfl)) rfl rfl rfl <| WL_op (Run_gtI (Opd.t rfl) Opd.c) rfl rfl rfl <| ?_
    refine WL_nil ?_
    refine At_then ?_
    refine WC_cond (Opd.t rfl) (fun hc18 => ?_) (fun hc18 => ?_)
    ·
      replace hm := bif_t hc18 hm
      refine WC_seq ?_
      refine WC_region ?_
      refine WL_op (Run_assign Opd.c) rfl rfl rfl <| WL_op (Run_assign Opd.c) rfl rfl rfl <| ?_
      refine WL_nil ?_
      refine At_then ?_
      refine WC_ret ?_
      refine At_blk_ret <| At_then_ret <| At_blk_ret <| At_then_ret <| ?_
      refine At_r2 rfl (ResIs.t rfl) (ResIs.t rfl) ?_
      cases hm
      exact ⟨hS.toExt, rfl⟩
    ·
      replace hm := bif_f hc18 hm
      refine WC_skip ?_
      refine At_blk_normal ?_
      exact At_again ((IntKind.i64.wrap ((IntKind.i64.wrap (10 * n8)) + (IntKind.i64.wrap (IntKind.i32.wrap ((runeAt s0 p9) - 48))))), (runePos s0 p9)) () hm ⟨hS, hB16⟩ rfl
  ·
    replace hm := bif_f hn13 hm
    refine WL_op (Run_extract (vs := [(.bool false)]) (Opd.t rfl) rfl) rfl rfl rfl <| ?_
    refine WL_nil ?_
    refine At_then ?_
    refine WC_seq ?_
    refine WC_cond (Opd.t rfl) (fun h => by cases h) (fun _ => ?_)
    refine WC_exit ?_
    refine At_then_exit <| At_then_exit <| At_blk_here <| ?_
    refine At_then ?_
    refine WC_seq ?_
    refine WC_region ?_
    refine WL_op (Run_move (Opd.t rfl)) rfl rfl rfl <| WL_op (Run_assign (Opd.t rfl)) rfl rfl rfl <| WL_op (Run_assign Opd.c) rfl rfl rfl <| ?_
    refine WL_nil ?_
    refine At_then ?_
    refine WC_ret ?_
    refine At_r2 rfl (ResIs.t rfl) (ResIs.t rfl) ?_
    cases hm
    exact ⟨hS.toExt, rfl⟩

theorem lex_Signs_ok (w0 : World) (M0 : Nat → Prop) (hM : ∀ b, M0 b → b < w0.heap.size) {r : (List Str)} (hm : lex_Signs = some r) :
    CallsR Try.prog 13 [] w0 (fun v w' => Ext w0 w' ∧ ∃ v8, v = v8 ∧ SRd RS M0 w' v8 r) := by
  have _hM := hM
  have hS : St w0 [] w0 := St.start w0 0
  refine CallsR_enter Try.func13 rfl Try.ntmps13 rfl ?_
  unfold lex_Signs at hm
  refine WC_seq ?_
  refine WC_region ?_
  refine WL_op (Run_assign Opd.c) rfl rfl rfl <| ?_
  refine WL_nil ?_
  refine At_then ?_
  refine WC_seq ?_
  refine WC_region ?_
  obtain ⟨b1, hb2⟩ : ∃ b, w0.heap.size = b := ⟨_, rfl⟩
  refine WL_buildSlice (zs := [(S ([]))]) (cells := [(S ([60, 45, 62])), (S ([45, 62])), (S ([61, 61])), (S ([33, 61])), (S ([60, 61])), (S ([62, 61])), (S ([60])), (S ([62])), (S ([61])), (S ([43])), (S ([45])), (S ([42])), (S ([40])), (S ([41])), (S ([123])), (S ([125])), (S ([59])), (S ([44])), (S ([58])), (S ([38])), (S ([124])), (S ([33]))]) (parts := [(0, (.const (.string ⟨#[60, 45, 62]⟩))), (1, (.const (.string ⟨#[45, 62]⟩))), (2, (.const (.string ⟨#[61, 61]⟩))), (3, (.const (.string ⟨#[33, 61]⟩))), (4, (.const (.string ⟨#[60, 61]⟩))), (5, (.const (.string ⟨#[62, 61]⟩))), (6, (.const (.string ⟨#[60]⟩))), (7, (.const (.string ⟨#[62]⟩))), (8, (.const (.string ⟨#[61]⟩))), (9, (.const (.string ⟨#[43]⟩))), (10, (.const (.string ⟨#[45]⟩))), (11, (.const (.string ⟨#[42]⟩))), (12, (.const (.string ⟨#[40]⟩))), (13, (.const (.string ⟨#[41]⟩))), (14, (.const (.string ⟨#[123]⟩))), (15, (.const (.string ⟨#[125]⟩))), (16, (.const (.string ⟨#[59]⟩))), (17, (.const (.string ⟨#[44]⟩))), (18, (.const (.string ⟨#[58]⟩))), (19, (.const (.string ⟨#[38]⟩))), (20, (.const (.string ⟨#[124]⟩))), (21, (.const (.string ⟨#[33]⟩)))]) Try.underlying29 ti9 rfl rfl rfl (.cons Opd.c (.cons Opd.c (.cons Opd.c (.cons Opd.c (.cons Opd.c (.cons Opd.c (.cons Opd.c (.cons Opd.c (.cons Opd.c (.cons Opd.c (.cons Opd.c (.cons Opd.c (.cons Opd.c (.cons Opd.c (.cons Opd.c (.cons Opd.c (.cons Opd.c (.cons Opd.c (.cons Opd.c (.cons Opd.c (.cons Opd.c (.cons Opd.c .nil)))))))))))))))))))))) (by kernel_rfl) hb2 rfl ?_
  intro w3 hx4 hB5
  have hf7 : ¬ Mine [] M0 b1 := newB_free hS hM hb2
  replace hS := hS.ext hx4
  have h6 : SRd RS (Mine [] M0) w3 (.slice (some ⟨b1, 0, none⟩) 22 22) ([[60, 45, 62], [45, 62], [61, 61], [33, 61], [60, 61], [62, 61], [60], [62], [61], [43], [45], [42], [40], [41], [123], [125], [59], [44], [58], [38], [124], [33]] : List Str) := SRd.fresh (cells := [(S ([60, 45, 62])), (S ([45, 62])), (S ([61, 61])), (S ([33, 61])), (S ([60, 61])), (S ([62, 61])), (S ([60])), (S ([62])), (S ([61])), (S ([43])), (S ([45])), (S ([42])), (S ([40])), (S ([41])), (S ([123])), (S ([125])), (S ([59])), (S ([44])), (S ([58])), (S ([38])), (S ([124])), (S ([33]))]) hB5 hf7 rfl (ARd.cons (c := [(S ([60, 45, 62]))]) rfl (ARd.cons (c := [(S ([45, 62]))]) rfl (ARd.cons (c := [(S ([61, 61]))]) rfl (ARd.cons (c := [(S ([33, 61]))]) rfl (ARd.cons (c := [(S ([60, 61]))]) rfl (ARd.cons (c := [(S ([62, 61]))]) rfl (ARd.cons (c := [(S ([60]))]) rfl (ARd.cons (c := [(S ([62]))]) rfl (ARd.cons (c := [(S ([61]))]) rfl (ARd.cons (c := [(S ([43]))]) rfl (ARd.cons (c := [(S ([45]))]) rfl (ARd.cons (c := [(S ([42]))]) rfl (ARd.cons (c := [(S ([40]))]) rfl (ARd.cons (c := [(S ([41]))]) rfl (ARd.cons (c := [(S ([123]))]) rfl (ARd.cons (c := [(S ([125]))]) rfl (ARd.cons (c := [(S ([59]))]) rfl (ARd.cons (c := [(S ([44]))]) rfl (ARd.cons (c := [(S ([58]))]) rfl (ARd.cons (c := [(S ([38]))]) rfl (ARd.cons (c := [(S ([124]))]) rfl (ARd.cons (c := [(S ([33]))]) rfl ARd.nil))))))))))))))))))))))
  refine WL_op (Run_assign (Opd.t rfl)) rfl rfl rfl <| ?_
  refine WL_nil ?_
  refine At_then ?_
  refine WC_ret ?_
  refine At_r1 rfl (ResIs.t rfl) ?_
  cases hm
  exact ⟨hS.toExt, _, rfl, h6.mv (Mv.done _)⟩

theorem internal_stringslite_HasPrefix_ok (w0 : World) {s0 : Str} {prefix1 : Str} {r : Bool} (hm : internal_stringslite_HasPrefix s0 prefix1 = some r) :
    CallsR Try.prog 28 [(S s0), (S prefix1)] w0 (fun v w' => Ext w0 w' ∧ v = (.bool r)) := by
  obtain ⟨M0, hM⟩ : ∃ M0 : Nat → Prop, ∀ b, M0 b → b < w0.heap.size := ⟨fun _ => False, fun _ h => h.elim⟩
  have hS : St w0 [] w0 := St.start w0 0
  refine CallsR_enter Try.func28 rfl Try.ntmps28 rfl ?_
  unfold internal_stringslite_HasPrefix at hm
  refine WC_seq ?_
  refine WC_region ?_
  refine WL_op (Run_assign Opd.c) rfl rfl rfl <| ?_
  refine WL_nil ?_
  refine At_then ?_
  refine WC_seq ?_
  refine WC_region ?_
  obtain ⟨b1, e2, hm⟩ := letv_some hm
  refine WL_op (Run_move (Opd.t rfl)) rfl rfl rfl <| WL_op (Run_lenS Try.underlying9 (Opd.t rfl)) rfl rfl rfl <| WL_op (Run_move (Opd.t rfl)) rfl rfl rfl <| WL_op (Run_lenS Try.underlying9 (Opd.t rfl)) rfl rfl rfl <| WL_op (Run.eqB (Run_geI (Opd.t rfl) (Opd.t rfl)) e2) rfl rfl rfl <| WL_op (Run_move (Opd.t rfl)) rfl rfl rfl <| WL_opG rfl rfl rfl rfl guard_pos (Run_move (Opd.t rfl)) rfl rfl <| WL_opG rfl rfl rfl rfl guard_pos (Run_move (Opd.t rfl)) rfl rfl <| ?_
  obtain ⟨k3, hm⟩ := chkG_some hm
  obtain ⟨b4, e5, hm⟩ := letv_some hm
  obtain ⟨b6, e7, hm⟩ := letv_some hm
  refine WL_opG rfl rfl rfl rfl guard_pos (Run_lenS Try.underlying9 (Opd.g rfl id)) rfl rfl <| WL_opG rfl rfl rfl rfl guard_pos (Run_cutS Try.underlying9 (Opd.g rfl id) rfl ⟨_, (Opd.g rfl id)⟩ k3) rfl rfl <| WL_opG rfl rfl rfl rfl guard_pos (Run_move (Opd.t rfl)) rfl rfl <| WL_opG rfl rfl rfl rfl guard_pos (Run.eqB (Run_eqS (Opd.g rfl id) (Opd.g rfl id)) e5) rfl rfl <| WL_op (Run.eqB (Run_and (Opd.t rfl) (Opd.g rfl id)) e7) rfl rfl rfl <| WL_op (Run_assign (Opd.t rfl)) rfl rfl rfl <| ?_
  refine WL_nil ?_
  refine At_then ?_
  refine WC_ret ?_
  refine At_r1 rfl (ResIs.t rfl) ?_
  cases hm
  exact ⟨hS.toExt, rfl⟩

theorem strings_HasPrefix_ok (w0 : World) {s0 : Str} {prefix1 : Str} {r : Bool} (hm : strings_HasPrefix s0 prefix1 = some r) :
    CallsR Try.prog 27 [(S s0), (S prefix1)] w0 (fun v w' => Ext w0 w' ∧ v = (.bool r)) := by
  obtain ⟨M0, hM⟩ : ∃ M0 : Nat → Prop, ∀ b, M0 b → b < w0.heap.size := ⟨fun _ => False, fun _ h => h.elim⟩
  have hS : St w0 [] w0 := St.start w0 0
  refine CallsR_enter Try.func27 rfl Try.ntmps27 rfl ?_
  unfold strings_HasPrefix at hm
  refine WC_seq ?_
  refine WC_region ?_
  refine WL_op (Run_assign Opd.c) rfl rfl rfl <| ?_
  refine WL_nil ?_
  refine At_then ?_
  refine WC_seq ?_
  refine WC_region ?_
  refine WL_op (Run_move (Opd.t rfl)) rfl rfl rfl <| WL_op (Run_move (Opd.t rfl)) rfl rfl rfl <| ?_
  obtain ⟨r1, hr2, hm⟩ := bind_some' hm
  refine WL_call (f := 28) (first := []) (cap := []) (xs := [(.tmp 5), (.tmp 6)]) (vs := [(S s0), (S prefix1)]) (args := [(S s0), (S prefix1)]) Try.call28 Opd.f (.cons (Opd.t rfl) (.cons (Opd.t rfl) .nil)) rfl rfl (internal_stringslite_HasPrefix_ok w0 hr2) ?_
  rintro _ w4 ⟨hx3, rfl⟩
  replace hS := hS.ext hx3
  refine WL_op (Run_assign (Opd.t rfl)) rfl rfl rfl <| ?_
  refine WL_nil ?_
  refine At_then ?_
  refine WC_ret ?_
  refine At_r1 rfl (ResIs.t rfl) ?_
  cases hm
  exact ⟨hS.toExt, rfl⟩

end Go.Proofs.Ytiambejbilkgmaa
