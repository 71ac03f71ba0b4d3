/- Printed by a program: the walks. -/
import Derived.Test.YtmeombbmhpcacaaDoorTypes
namespace Go.Proofs.YtmeombbmhpcacaaDoor
open Go.Proofs

set_option maxRecDepth 100000 in
set_option maxHeartbeats 4000000 in
theorem scrutinyref12_kind_ok {Φ : Ctx} {w : World} {c : Int} {r : Int} (hs : Sat (Φ) w) (hm : scrutinyref12_kind c = some r) :
    CallsR Tryd.prog 40 [(.int .u8 c)] w (fun v w' => v = (.int .i64 r) ∧ Sat (Φ) w') := by
  refine CallsX_enter Tryd.func40 rfl Tryd.ntmps40 rfl ?_
  unfold scrutinyref12_kind at hm
  refine WC_seq ?_
  refine WC_region ?_
  refine WL_op (Run_assign Opd.c) rfl rfl rfl rfl <| ?_
  refine WL_nil ?_
  refine At_then ?_
  refine WC_seq ?_
  refine WC_seq ?_
  refine WC_region ?_
  refine WL_op (Run_move (Opd.t rfl)) rfl rfl rfl rfl <| ?_
  obtain ⟨b3, e4, hm⟩ := letv_some hm
  refine WL_op (Run.eqB (Run_eqI (Opd.t rfl) Opd.c) e4) rfl rfl rfl rfl <| WL_op (Run_move (Opd.t rfl)) rfl rfl rfl rfl <| WL_opG rfl rfl rfl rfl guard_neg (Run_move (Opd.t rfl)) rfl rfl rfl <| ?_
  obtain ⟨b5, e6, hm⟩ := letv_some hm
  refine WL_opG rfl rfl rfl rfl guard_neg (Run.eqB (Run_eqI (Opd.g rfl id) Opd.c) e6) rfl rfl rfl <| ?_
  obtain ⟨b7, e8, hm⟩ := letv_some hm
  refine WL_op (Run.eqB (Run_or (Opd.t rfl) (Opd.g rfl id)) e8) rfl rfl rfl rfl <| WL_op (Run_move (Opd.t rfl)) rfl rfl rfl rfl <| WL_opG rfl rfl rfl rfl guard_neg (Run_move (Opd.t rfl)) rfl rfl rfl <| ?_
  obtain ⟨b9, e10, hm⟩ := letv_some hm
  refine WL_opG rfl rfl rfl rfl guard_neg (Run.eqB (Run_eqI (Opd.g rfl id) Opd.c) e10) rfl rfl rfl <| ?_
  obtain ⟨b11, e12, hm⟩ := letv_some hm
  refine WL_op (Run.eqB (Run_or (Opd.t rfl) (Opd.g rfl id)) e12) rfl rfl rfl rfl <| WL_op (Run_move (Opd.t rfl)) rfl rfl rfl rfl <| WL_opG rfl rfl rfl rfl guard_neg (Run_move (Opd.t rfl)) rfl rfl rfl <| ?_
  obtain ⟨b13, e14, hm⟩ := letv_some hm
  refine WL_opG rfl rfl rfl rfl guard_neg (Run.eqB (Run_eqI (Opd.g rfl id) Opd.c) e14) rfl rfl rfl <| ?_
  obtain ⟨b15, e16, hm⟩ := letv_some hm
  refine WL_op (Run.eqB (Run_or (Opd.t rfl) (Opd.g rfl id)) e16) rfl rfl rfl rfl <| ?_
  refine WL_nil ?_
  refine At_then ?_
  refine WC_cond (Opd.t rfl) (fun hc17 => ?_) (fun hc17 => ?_)
  ·
    replace hm := bif_t hc17 hm
    refine WC_seq ?_
    refine WC_region ?_
    refine WL_op (Run_assign Opd.c) rfl rfl rfl rfl <| ?_
    refine WL_nil ?_
    refine At_then ?_
    refine WC_ret ?_
    refine At_then_ret <| ?_
    refine At_r1 rfl (ResIs.t rfl) ?_
    cases hm
    exact ⟨rfl, (hs.re 0 [] rfl)⟩
  ·
    replace hm := bif_f hc17 hm
    refine WC_skip ?_
    refine At_then ?_
    refine WC_seq ?_
    refine WC_seq ?_
    refine WC_region ?_
    refine WL_op (Run_move (Opd.t rfl)) rfl rfl rfl rfl <| ?_
    obtain ⟨b18, e19, hm⟩ := letv_some hm
    refine WL_op (Run.eqB (Run_geI (Opd.t rfl) Opd.c) e19) rfl rfl rfl rfl <| WL_op (Run_move (Opd.t rfl)) rfl rfl rfl rfl <| WL_opG rfl rfl rfl rfl guard_pos (Run_move (Opd.t rfl)) rfl rfl rfl <| ?_
    obtain ⟨b20, e21, hm⟩ := letv_some hm
    refine WL_opG rfl rfl rfl rfl guard_pos (Run.eqB (Run_leI (Opd.g rfl id) Opd.c) e21) rfl rfl rfl <| ?_
    obtain ⟨b22, e23, hm⟩ := letv_some hm
    refine WL_op (Run.eqB (Run_and (Opd.t rfl) (Opd.g rfl id)) e23) rfl rfl rfl rfl <| WL_op (Run_move (Opd.t rfl)) rfl rfl rfl rfl <| WL_opG rfl rfl rfl rfl guard_neg (Run_move (Opd.t rfl)) rfl rfl rfl <| ?_
    obtain ⟨b24, e25, hm⟩ := letv_some hm
    refine WL_opG rfl rfl rfl rfl guard_neg (Run.eqB (Run_geI (Opd.g rfl id) Opd.c) e25) rfl rfl rfl <| WL_opG rfl rfl rfl rfl guard_neg (Run_move (Opd.g rfl id)) rfl rfl rfl <| WL_opG rfl rfl rfl rfl guard_pos' (Run_move (Opd.t rfl)) rfl rfl rfl <| ?_
    obtain ⟨b26, e27, hm⟩ := letv_some hm
    refine WL_opG rfl rfl rfl rfl guard_pos' (Run.eqB (Run_leI (Opd.g rfl id) Opd.c) e27) rfl rfl rfl <| ?_
    obtain ⟨b28, e29, hm⟩ := letv_some hm
    refine WL_opG rfl rfl rfl rfl guard_neg (Run.eqB (Run_and (Opd.g rfl id) (Opd.g rfl id)) e29) rfl rfl rfl <| ?_
    obtain ⟨b30, e31, hm⟩ := letv_some hm
    refine WL_op (Run.eqB (Run_or (Opd.t rfl) (Opd.g rfl id)) e31) rfl rfl rfl rfl <| WL_op (Run_move (Opd.t rfl)) rfl rfl rfl rfl <| WL_opG rfl rfl rfl rfl guard_neg (Run_move (Opd.t rfl)) rfl rfl rfl <| ?_
    obtain ⟨b32, e33, hm⟩ := letv_some hm
    refine WL_opG rfl rfl rfl rfl guard_neg (Run.eqB (Run_eqI (Opd.g rfl id) Opd.c) e33) rfl rfl rfl <| ?_
    obtain ⟨b34, e35, hm⟩ := letv_some hm
    refine WL_op (Run.eqB (Run_or (Opd.t rfl) (Opd.g rfl id)) e35) rfl rfl rfl rfl <| ?_
    refine WL_nil ?_
    refine At_then ?_
    refine WC_cond (Opd.t rfl) (fun hc36 => ?_) (fun hc36 => ?_)
    ·
      replace hm := bif_t hc36 hm
      refine WC_seq ?_
      refine WC_region ?_
      refine WL_op (Run_assign Opd.c) rfl rfl rfl rfl <| ?_
      refine WL_nil ?_
      refine At_then ?_
      refine WC_ret ?_
      refine At_then_ret <| ?_
      refine At_r1 rfl (ResIs.t rfl) ?_
      cases hm
      exact ⟨rfl, (hs.re 0 [] rfl)⟩
    ·
      replace hm := bif_f hc36 hm
      refine WC_skip ?_
      refine At_then ?_
      refine WC_seq ?_
      refine WC_seq ?_
      refine WC_region ?_
      refine WL_op (Run_move (Opd.t rfl)) rfl rfl rfl rfl <| ?_
      obtain ⟨b37, e38, hm⟩ := letv_some hm
      refine WL_op (Run.eqB (Run_geI (Opd.t rfl) Opd.c) e38) rfl rfl rfl rfl <| WL_op (Run_move (Opd.t rfl)) rfl rfl rfl rfl <| WL_opG rfl rfl rfl rfl guard_pos (Run_move (Opd.t rfl)) rfl rfl rfl <| ?_
      obtain ⟨b39, e40, hm⟩ := letv_some hm
      refine WL_opG rfl rfl rfl rfl guard_pos (Run.eqB (Run_leI (Opd.g rfl id) Opd.c) e40) rfl rfl rfl <| ?_
      obtain ⟨b41, e42, hm⟩ := letv_some hm
      refine WL_op (Run.eqB (Run_and (Opd.t rfl) (Opd.g rfl id)) e42) rfl rfl rfl rfl <| ?_
      refine WL_nil ?_
      refine At_then ?_
      refine WC_cond (Opd.t rfl) (fun hc43 => ?_) (fun hc43 => ?_)
      ·
        replace hm := bif_t hc43 hm
        refine WC_seq ?_
        refine WC_region ?_
        refine WL_op (Run_assign Opd.c) rfl rfl rfl rfl <| ?_
        refine WL_nil ?_
        refine At_then ?_
        refine WC_ret ?_
        refine At_then_ret <| ?_
        refine At_r1 rfl (ResIs.t rfl) ?_
        cases hm
        exact ⟨rfl, (hs.re 0 [] rfl)⟩
      ·
        replace hm := bif_f hc43 hm
        refine WC_skip ?_
        refine At_then ?_
        refine WC_seq ?_
        refine WC_region ?_
        refine WL_op (Run_assign Opd.c) rfl rfl rfl rfl <| ?_
        refine WL_nil ?_
        refine At_then ?_
        refine WC_ret ?_
        refine At_r1 rfl (ResIs.t rfl) ?_
        cases hm
        exact ⟨rfl, (hs.re 0 [] rfl)⟩

set_option maxRecDepth 100000 in
set_option maxHeartbeats 4000000 in
theorem scrutinyref12_Signs_ok {Φ : Ctx} {w : World} {r : (List Str)} (hs : Sat (Φ) w) (hm : scrutinyref12_Signs = some r) :
    CallsR Tryd.prog 41 [] w (fun v w' => ∃ v3 : SLV, ∃ R4 : List Nat, v = (sl v3) ∧ Sat (osl RS 9 (sl v3) r R4 :: Φ) w') := by
  refine CallsX_enter Tryd.func41 rfl Tryd.ntmps41 rfl ?_
  unfold scrutinyref12_Signs at hm
  refine WC_seq ?_
  refine WC_region ?_
  refine WL_op (Run_assign Opd.c) rfl rfl rfl rfl <| ?_
  refine WL_nil ?_
  refine At_then ?_
  refine WC_seq ?_
  refine WC_region ?_
  refine WS_lit (A := RS) (xs := [[60, 45, 62], [45, 62], [61, 61], [33, 61], [60, 61], [62, 61], [60], [62], [61], [43], [45], [42], [40], [41], [123], [125], [59], [44], [58], [38], [124], [33]]) (zs := [(S [])]) (cells := [(S [60, 45, 62]), (S [45, 62]), (S [61, 61]), (S [33, 61]), (S [60, 61]), (S [62, 61]), (S [60]), (S [62]), (S [61]), (S [43]), (S [45]), (S [42]), (S [40]), (S [41]), (S [123]), (S [125]), (S [59]), (S [44]), (S [58]), (S [38]), (S [124]), (S [33])]) (parts := [(0, (.const (.string ⟨#[60, 45, 62]⟩))), (1, (.const (.string ⟨#[45, 62]⟩))), (2, (.const (.string ⟨#[61, 61]⟩))), (3, (.const (.string ⟨#[33, 61]⟩))), (4, (.const (.string ⟨#[60, 61]⟩))), (5, (.const (.string ⟨#[62, 61]⟩))), (6, (.const (.string ⟨#[60]⟩))), (7, (.const (.string ⟨#[62]⟩))), (8, (.const (.string ⟨#[61]⟩))), (9, (.const (.string ⟨#[43]⟩))), (10, (.const (.string ⟨#[45]⟩))), (11, (.const (.string ⟨#[42]⟩))), (12, (.const (.string ⟨#[40]⟩))), (13, (.const (.string ⟨#[41]⟩))), (14, (.const (.string ⟨#[123]⟩))), (15, (.const (.string ⟨#[125]⟩))), (16, (.const (.string ⟨#[59]⟩))), (17, (.const (.string ⟨#[44]⟩))), (18, (.const (.string ⟨#[58]⟩))), (19, (.const (.string ⟨#[38]⟩))), (20, (.const (.string ⟨#[124]⟩))), (21, (.const (.string ⟨#[33]⟩)))]) hs Tryd.underlying40 ti9 rfl rfl rfl (.cons Opd.c (.cons Opd.c (.cons Opd.c (.cons Opd.c (.cons Opd.c (.cons Opd.c (.cons Opd.c (.cons Opd.c (.cons Opd.c (.cons Opd.c (.cons Opd.c (.cons Opd.c (.cons Opd.c (.cons Opd.c (.cons Opd.c (.cons Opd.c (.cons Opd.c (.cons Opd.c (.cons Opd.c (.cons Opd.c (.cons Opd.c (.cons Opd.c .nil)))))))))))))))))))))) (by kernel_rfl) rfl (ARd.cons (A := RS) (c := [(S [60, 45, 62])]) (x := [60, 45, 62]) rfl (ARd.cons (A := RS) (c := [(S [45, 62])]) (x := [45, 62]) rfl (ARd.cons (A := RS) (c := [(S [61, 61])]) (x := [61, 61]) rfl (ARd.cons (A := RS) (c := [(S [33, 61])]) (x := [33, 61]) rfl (ARd.cons (A := RS) (c := [(S [60, 61])]) (x := [60, 61]) rfl (ARd.cons (A := RS) (c := [(S [62, 61])]) (x := [62, 61]) rfl (ARd.cons (A := RS) (c := [(S [60])]) (x := [60]) rfl (ARd.cons (A := RS) (c := [(S [62])]) (x := [62]) rfl (ARd.cons (A := RS) (c := [(S [61])]) (x := [61]) rfl (ARd.cons (A := RS) (c := [(S [43])]) (x := [43]) rfl (ARd.cons (A := RS) (c := [(S [45])]) (x := [45]) rfl (ARd.cons (A := RS) (c := [(S [42])]) (x := [42]) rfl (ARd.cons (A := RS) (c := [(S [40])]) (x := [40]) rfl (ARd.cons (A := RS) (c := [(S [41])]) (x := [41]) rfl (ARd.cons (A := RS) (c := [(S [123])]) (x := [123]) rfl (ARd.cons (A := RS) (c := [(S [125])]) (x := [125]) rfl (ARd.cons (A := RS) (c := [(S [59])]) (x := [59]) rfl (ARd.cons (A := RS) (c := [(S [44])]) (x := [44]) rfl (ARd.cons (A := RS) (c := [(S [58])]) (x := [58]) rfl (ARd.cons (A := RS) (c := [(S [38])]) (x := [38]) rfl (ARd.cons (A := RS) (c := [(S [124])]) (x := [124]) rfl (ARd.cons (A := RS) (c := [(S [33])]) (x := [33]) rfl ARd.nil)))))))))))))))))))))) rfl ?_
  intro b5 w6 hs
  replace hs := Sat.n1 (Γ := Φ) hs rfl
  refine WL_op (Run_assign (Opd.t rfl)) rfl rfl rfl rfl <| ?_
  refine WL_nil ?_
  refine At_then ?_
  refine WC_ret ?_
  refine At_r1 rfl (ResIs.t rfl) ?_
  cases hm
  exact ⟨(some ⟨b5, 0, none⟩, 22, 22), [b5], rfl, (hs.re 1 [0] rfl)⟩

set_option maxRecDepth 100000 in
set_option maxHeartbeats 4000000 in
theorem scrutinyref12_Tokens_ok {Φ : Ctx} {w : World} {text : Str} {r : ((List (Int × Str × Int × Int)) × Int × Int)} (hs : Sat (Φ) w) (hm : scrutinyref12_Tokens text = some r) :
    CallsR Tryd.prog 26 [(S text)] w (fun v w' => ∃ v3 : SLV, ∃ R4 : List Nat, v = (.tuple #[(sl v3), (.int .i64 r.2.1), (.int .i64 r.2.2)]) ∧ Sat (osl (RP (RI .i64) (RP RS (RP (RI .i64) (RI .i64)))) 60 (sl v3) r.1 R4 :: Φ) w') := by
  refine CallsX_enter Tryd.func26 rfl Tryd.ntmps26 rfl ?_
  unfold scrutinyref12_Tokens at hm
  refine WC_seq ?_
  refine WC_region ?_
  refine WL_op (Run_assign Opd.c) rfl rfl rfl rfl <| WL_op (Run_assign Opd.c) rfl rfl rfl rfl <| WL_op (Run_assign Opd.c) rfl rfl rfl rfl <| ?_
  refine WL_nil ?_
  refine At_then ?_
  refine WC_seq ?_
  refine WC_seq ?_
  refine WC_region ?_
  refine WL_op (Run_move (Opd.t rfl)) rfl rfl rfl rfl <| WL_op (Run_lenS Tryd.underlying9 (Opd.t rfl)) rfl rfl rfl rfl <| WL_op (Run_gtI (Opd.t rfl) Opd.c) rfl rfl rfl rfl <| ?_
  refine WL_nil ?_
  refine At_then ?_
  refine WC_cond (Opd.t rfl) (fun hc7 => ?_) (fun hc7 => ?_)
  ·
    replace hm := bif_t hc7 hm
    refine WC_seq ?_
    refine WC_region ?_
    refine WL_op (Run_assign Opd.c) rfl rfl rfl rfl <| WL_op (Run_assign Opd.c) rfl rfl rfl rfl <| WL_op (Run_assign Opd.c) rfl rfl rfl rfl <| ?_
    refine WL_nil ?_
    refine At_then ?_
    refine WC_ret ?_
    refine At_then_ret <| ?_
    refine At_r3 rfl (ResIs.t rfl) (ResIs.t rfl) (ResIs.t rfl) ?_
    replace hs := hs.addNil (RP (RI .i64) (RP RS (RP (RI .i64) (RI .i64)))) 60
    cases hm
    exact ⟨(none, 0, 0), [], rfl, (hs.re 1 [0] rfl)⟩
  ·
    replace hm := bif_f hc7 hm
    refine WC_skip ?_
    refine At_then ?_
    refine WC_seq ?_
    refine WC_region ?_
    refine WL_op (Run_assign Opd.c) rfl rfl rfl rfl <| ?_
    refine WL_nil ?_
    refine At_then ?_
    refine WC_seq ?_
    refine WC_region ?_
    refine WL_op (Run_assign Opd.c) rfl rfl rfl rfl <| ?_
    refine WL_nil ?_
    refine At_then ?_
    refine WC_seq ?_
    refine WC_block ?_
    replace hs := hs.addNil (RP (RI .i64) (RP RS (RP (RI .i64) (RI .i64)))) 60
    refine WC_loop (σ := (List (Int × Str × Int × Int)) × Int) (γ := SLV × List Nat) (F := (scrutinyref12_Tokens_L1 text)) (N := FUEL) (s0 := ([], 0)) (r := r) (fun ⟨out9, i12⟩ ⟨v10, R11⟩ w8 => Sat (osl (RP (RI .i64) (RP RS (RP (RI .i64) (RI .i64)))) 60 (sl v10) out9 R11 :: Φ) w8) (fun ⟨out9, i12⟩ ⟨v10, R11⟩ => [(0, true, (S text)), (5, true, (sl v10)), (6, true, (.int .i64 i12))]) hm ((none, 0, 0), []) (hs.re 1 [0] rfl) rfl ?_
    rintro again13 ⟨out9, i12⟩ ⟨v10, R11⟩ w8 hm hs
    unfold scrutinyref12_Tokens_L1 at hm
    dsimp only at hm
    refine WC_seq ?_
    refine WC_seq ?_
    refine WC_region ?_
    refine WL_op (Run_move (Opd.t rfl)) rfl rfl rfl rfl <| WL_op (Run_move (Opd.t rfl)) rfl rfl rfl rfl <| WL_op (Run_lenS Tryd.underlying9 (Opd.t rfl)) rfl rfl rfl rfl <| WL_op (Run_ltI (Opd.t rfl) (Opd.t rfl)) rfl rfl rfl rfl <| ?_
    refine WL_nil ?_
    refine At_then ?_
    refine WC_cond (Opd.t rfl) (fun hc14 => ?_) (fun hc14 => ?_)
    ·
      replace hm := bif_t hc14 hm
      refine WC_skip ?_
      refine At_then ?_
      refine WC_block ?_
      refine WC_seq ?_
      refine WC_region ?_
      refine WL_op (Run_move (Opd.t rfl)) rfl rfl rfl rfl <| WL_op (Run_move (Opd.t rfl)) rfl rfl rfl rfl <| ?_
      obtain ⟨k15, hm⟩ := chk_some hm
      refine WL_op (Run_idxS Tryd.underlying9 (Opd.t rfl) (Opd.t rfl) (fun _ => k15)) rfl rfl rfl rfl <| ?_
      obtain ⟨r16, hr17, hm⟩ := bind_some' hm
      refine WL_call (f := 40) (first := []) (cap := []) (xs := [(.tmp 22)]) (vs := [(.int .u8 (byteAt text i12))]) (args := [(.int .u8 (byteAt text i12))]) Tryd.call40 Opd.f (.cons (Opd.t rfl) .nil) rfl rfl (scrutinyref12_kind_ok (hs.re 1 [0] rfl) hr17) ?_
      rintro _ w18 ⟨rfl, hs⟩
      replace hs := Sat.n1 (Γ := Φ) hs rfl
      refine WL_op (Run_assign (Opd.t rfl)) rfl rfl rfl rfl <| ?_
      refine WL_nil ?_
      refine At_then ?_
      refine WC_seq ?_
      refine WC_seq ?_
      refine WC_region ?_
      refine WL_op (Run_move (Opd.t rfl)) rfl rfl rfl rfl <| WL_op (Run_eqI (Opd.t rfl) Opd.c) rfl rfl rfl rfl <| ?_
      refine WL_nil ?_
      refine At_then ?_
      refine WC_cond (Opd.t rfl) (fun hc19 => ?_) (fun hc19 => ?_)
      ·
        replace hm := bif_t hc19 hm
        refine WC_seq ?_
        refine WC_region ?_
        refine WL_op (Run_move (Opd.t rfl)) rfl rfl rfl rfl <| WL_op (Run_add (Opd.t rfl) Opd.c) rfl rfl rfl rfl <| WL_op (Run_assign (Opd.t rfl)) rfl rfl rfl rfl <| ?_
        refine WL_nil ?_
        refine At_then ?_
        refine WC_exit ?_
        refine At_then_exit <| At_blk_here <| ?_
        exact At_again (out9, (IntKind.i64.wrap (i12 + 1))) (v10, R11) hm (hs.re 1 [0] rfl) rfl
      ·
        replace hm := bif_f hc19 hm
        refine WC_skip ?_
        refine At_then ?_
        refine WC_seq ?_
        refine WC_seq ?_
        refine WC_region ?_
        refine WL_op (Run_move (Opd.t rfl)) rfl rfl rfl rfl <| WL_op (Run_move (Opd.t rfl)) rfl rfl rfl rfl <| ?_
        obtain ⟨k20, hm⟩ := chk_some hm
        refine WL_op (Run_idxS Tryd.underlying9 (Opd.t rfl) (Opd.t rfl) (fun _ => k20)) rfl rfl rfl rfl <| WL_op (Run_eqI (Opd.t rfl) Opd.c) rfl rfl rfl rfl <| ?_
        refine WL_nil ?_
        refine At_then ?_
        refine WC_cond (Opd.t rfl) (fun hc21 => ?_) (fun hc21 => ?_)
        ·
          replace hm := bif_t hc21 hm
          refine WC_seq ?_
          refine WC_block ?_
          refine WC_loop (σ := Int) (γ := Unit) (F := (scrutinyref12_Tokens_L2 text out9 again13)) (N := FUEL) (s0 := i12) (r := r) (fun i23 (_ : Unit) w22 => Sat (osl (RP (RI .i64) (RP RS (RP (RI .i64) (RI .i64)))) 60 (sl v10) out9 R11 :: Φ) w22) (fun i23 (_ : Unit) => [(0, true, (S text)), (5, true, (sl v10)), (6, true, (.int .i64 i23))]) hm () (hs.re 1 [0] rfl) rfl ?_
          rintro again24 i23 _ w22 hm hs
          unfold scrutinyref12_Tokens_L2 at hm
          refine WC_seq ?_
          refine WC_seq ?_
          refine WC_region ?_
          refine WL_op (Run_move (Opd.t rfl)) rfl rfl rfl rfl <| WL_op (Run_move (Opd.t rfl)) rfl rfl rfl rfl <| WL_op (Run_lenS Tryd.underlying9 (Opd.t rfl)) rfl rfl rfl rfl <| ?_
          obtain ⟨b25, e26, hm⟩ := letv_some hm
          refine WL_op (Run.eqB (Run_ltI (Opd.t rfl) (Opd.t rfl)) e26) rfl rfl rfl rfl <| WL_op (Run_move (Opd.t rfl)) rfl rfl rfl rfl <| WL_opG rfl rfl rfl rfl guard_pos (Run_move (Opd.t rfl)) rfl rfl rfl <| WL_opG rfl rfl rfl rfl guard_pos (Run_move (Opd.t rfl)) rfl rfl rfl <| ?_
          obtain ⟨k27, hm⟩ := chkG_some hm
          refine WL_opG rfl rfl rfl rfl guard_pos (Run_idxS Tryd.underlying9 (Opd.g rfl id) (Opd.g rfl id) k27) rfl rfl rfl <| ?_
          obtain ⟨b28, e29, hm⟩ := letv_some hm
          refine WL_opG rfl rfl rfl rfl guard_pos (Run.eqB (Run_neI (Opd.g rfl id) Opd.c) e29) rfl rfl rfl <| ?_
          obtain ⟨b30, e31, hm⟩ := letv_some hm
          refine WL_op (Run.eqB (Run_and (Opd.t rfl) (Opd.g rfl id)) e31) rfl rfl rfl rfl <| ?_
          refine WL_nil ?_
          refine At_then ?_
          refine WC_cond (Opd.t rfl) (fun hc32 => ?_) (fun hc32 => ?_)
          ·
            replace hm := bif_t hc32 hm
            refine WC_skip ?_
            refine At_then ?_
            refine WC_block ?_
            refine WC_region ?_
            refine WL_op (Run_move (Opd.t rfl)) rfl rfl rfl rfl <| WL_op (Run_add (Opd.t rfl) Opd.c) rfl rfl rfl rfl <| WL_op (Run_assign (Opd.t rfl)) rfl rfl rfl rfl <| ?_
            refine WL_nil ?_
            refine At_blk_normal ?_
            exact At_again (IntKind.i64.wrap (i23 + 1)) () hm (hs.re 1 [0] rfl) rfl
          ·
            replace hm := bif_f hc32 hm
            refine WC_exit ?_
            refine At_then_exit <| At_then_exit <| At_blk_here <| ?_
            refine At_then ?_
            refine WC_exit ?_
            refine At_then_exit <| At_blk_here <| ?_
            exact At_again (out9, i23) (v10, R11) hm (hs.re 1 [0] rfl) rfl
        ·
          replace hm := bif_f hc21 hm
          refine WC_skip ?_
          refine At_then ?_
          refine WC_seq ?_
          refine WC_region ?_
          refine WL_op (Run_move (Opd.t rfl)) rfl rfl rfl rfl <| WL_op (Run_assign (Opd.t rfl)) rfl rfl rfl rfl <| ?_
          refine WL_nil ?_
          refine At_then ?_
          refine WC_seq ?_
          refine WC_seq ?_
          refine WC_region ?_
          refine WL_op (Run_move (Opd.t rfl)) rfl rfl rfl rfl <| WL_op (Run_eqI (Opd.t rfl) Opd.c) rfl rfl rfl rfl <| ?_
          refine WL_nil ?_
          refine At_then ?_
          refine WC_cond (Opd.t rfl) (fun hc33 => ?_) (fun hc33 => ?_)
          ·
            replace hm := bif_t hc33 hm
            refine WC_seq ?_
            refine WC_block ?_
            refine WC_loop (σ := Int) (γ := Unit) (F := (scrutinyref12_Tokens_L3 text out9 i12 again13)) (N := FUEL) (s0 := i12) (r := r) (fun i35 (_ : Unit) w34 => Sat (osl (RP (RI .i64) (RP RS (RP (RI .i64) (RI .i64)))) 60 (sl v10) out9 R11 :: Φ) w34) (fun i35 (_ : Unit) => [(0, true, (S text)), (5, true, (sl v10)), (6, true, (.int .i64 i35)), (8, true, (.int .i64 i12))]) hm () (hs.re 1 [0] rfl) rfl ?_
            rintro again36 i35 _ w34 hm hs
            unfold scrutinyref12_Tokens_L3 at hm
            refine WC_seq ?_
            refine WC_seq ?_
            refine WC_region ?_
            refine WL_op (Run_move (Opd.t rfl)) rfl rfl rfl rfl <| WL_op (Run_move (Opd.t rfl)) rfl rfl rfl rfl <| WL_op (Run_lenS Tryd.underlying9 (Opd.t rfl)) rfl rfl rfl rfl <| ?_
            obtain ⟨b37, e38, hm⟩ := letv_some hm
            refine WL_op (Run.eqB (Run_ltI (Opd.t rfl) (Opd.t rfl)) e38) rfl rfl rfl rfl <| WL_op (Run_move (Opd.t rfl)) rfl rfl rfl rfl <| WL_opG rfl rfl rfl rfl guard_pos (Run_move (Opd.t rfl)) rfl rfl rfl <| WL_opG rfl rfl rfl rfl guard_pos (Run_move (Opd.t rfl)) rfl rfl rfl <| ?_
            obtain ⟨k39, hm⟩ := chkG_some hm
            refine WL_opG rfl rfl rfl rfl guard_pos (Run_idxS Tryd.underlying9 (Opd.g rfl id) (Opd.g rfl id) k39) rfl rfl rfl <| ?_
            obtain ⟨r40, hr41, -, hm⟩ := callG_some hm
            refine WL_callG rfl rfl rfl guard_pos (f := 40) (first := []) (cap := []) (xs := [(.tmp 54)]) (vs := [(.int .u8 (byteAt text i35))]) (args := [(.int .u8 (byteAt text i35))]) Tryd.call40 Opd.f (.cons (Opd.g rfl id) .nil) rfl rfl (fun hg => scrutinyref12_kind_ok (hs.re 1 [0] rfl) (hr41 hg)) ?_
            intro v43 w42 hv44 hz45
            replace hs := Sat.ofG (fun hg => (hv44 hg).2.re 1 [0] rfl) hz45 hs
            refine WL_sub1 (v := (.int .i64 r40)) (fun hg => (hv44 hg).1) ?_
            replace hs := Sat.n1 (Γ := Φ) hs rfl
            obtain ⟨b46, e47, hm⟩ := letv_some hm
            refine WL_opG rfl rfl rfl rfl guard_pos (Run.eqB (Run_eqI (Opd.g rfl id) Opd.c) e47) rfl rfl rfl <| WL_opG rfl rfl rfl rfl guard_pos (Run_move (Opd.g rfl id)) rfl rfl rfl <| WL_opG rfl rfl rfl rfl guard_neg' (Run_move (Opd.t rfl)) rfl rfl rfl <| WL_opG rfl rfl rfl rfl guard_neg' (Run_move (Opd.t rfl)) rfl rfl rfl <| ?_
            obtain ⟨k48, hm⟩ := chkG_some hm
            refine WL_opG rfl rfl rfl rfl guard_neg' (Run_idxS Tryd.underlying9 (Opd.g rfl id) (Opd.g rfl id) k48) rfl rfl rfl <| ?_
            obtain ⟨r49, hr50, -, hm⟩ := callG_some hm
            refine WL_callG rfl rfl rfl guard_neg' (f := 40) (first := []) (cap := []) (xs := [(.tmp 60)]) (vs := [(.int .u8 (byteAt text i35))]) (args := [(.int .u8 (byteAt text i35))]) Tryd.call40 Opd.f (.cons (Opd.g rfl id) .nil) rfl rfl (fun hg => scrutinyref12_kind_ok (hs.re 1 [0] rfl) (hr50 hg)) ?_
            intro v52 w51 hv53 hz54
            replace hs := Sat.ofG (fun hg => (hv53 hg).2.re 1 [0] rfl) hz54 hs
            refine WL_sub1 (v := (.int .i64 r49)) (fun hg => (hv53 hg).1) ?_
            replace hs := Sat.n1 (Γ := Φ) hs rfl
            obtain ⟨b55, e56, hm⟩ := letv_some hm
            refine WL_opG rfl rfl rfl rfl guard_neg' (Run.eqB (Run_eqI (Opd.g rfl id) Opd.c) e56) rfl rfl rfl <| ?_
            obtain ⟨b57, e58, hm⟩ := letv_some hm
            refine WL_opG rfl rfl rfl rfl guard_pos (Run.eqB (Run_or (Opd.g rfl id) (Opd.g rfl id)) e58) rfl rfl rfl <| ?_
            obtain ⟨b59, e60, hm⟩ := letv_some hm
            refine WL_op (Run.eqB (Run_and (Opd.t rfl) (Opd.g rfl id)) e60) rfl rfl rfl rfl <| ?_
            refine WL_nil ?_
            refine At_then ?_
            refine WC_cond (Opd.t rfl) (fun hc61 => ?_) (fun hc61 => ?_)
            ·
              replace hm := bif_t hc61 hm
              refine WC_skip ?_
              refine At_then ?_
              refine WC_block ?_
              refine WC_region ?_
              refine WL_op (Run_move (Opd.t rfl)) rfl rfl rfl rfl <| WL_op (Run_add (Opd.t rfl) Opd.c) rfl rfl rfl rfl <| WL_op (Run_assign (Opd.t rfl)) rfl rfl rfl rfl <| ?_
              refine WL_nil ?_
              refine At_blk_normal ?_
              exact At_again (IntKind.i64.wrap (i35 + 1)) () hm (hs.re 1 [0] rfl) rfl
            ·
              replace hm := bif_f hc61 hm
              refine WC_exit ?_
              refine At_then_exit <| At_then_exit <| At_blk_here <| ?_
              refine At_then ?_
              refine WC_seq ?_
              refine WC_seq ?_
              refine WC_region ?_
              refine WL_op (Run_move (Opd.t rfl)) rfl rfl rfl rfl <| WL_op (Run_move (Opd.t rfl)) rfl rfl rfl rfl <| WL_op (Run_sub (Opd.t rfl) (Opd.t rfl)) rfl rfl rfl rfl <| WL_op (Run_gtI (Opd.t rfl) Opd.c) rfl rfl rfl rfl <| ?_
              refine WL_nil ?_
              refine At_then ?_
              refine WC_cond (Opd.t rfl) (fun hc62 => ?_) (fun hc62 => ?_)
              ·
                replace hm := bif_t hc62 hm
                refine WC_seq ?_
                refine WC_region ?_
                refine WL_op (Run_move (Opd.t rfl)) rfl rfl rfl rfl <| WL_op (Run_assign Opd.c) rfl rfl rfl rfl <| WL_op (Run_assign Opd.c) rfl rfl rfl rfl <| WL_op (Run_assign (Opd.t rfl)) rfl rfl rfl rfl <| ?_
                refine WL_nil ?_
                refine At_then ?_
                refine WC_ret ?_
                refine At_then_ret <| At_then_ret <| At_blk_ret <| At_then_ret <| At_blk_ret <| At_then_ret <| ?_
                refine At_r3 rfl (ResIs.t rfl) (ResIs.t rfl) (ResIs.t rfl) ?_
                replace hs := hs.addNil (RP (RI .i64) (RP RS (RP (RI .i64) (RI .i64)))) 60
                cases hm
                exact ⟨(none, 0, 0), [], rfl, (hs.re 2 [0] rfl)⟩
              ·
                replace hm := bif_f hc62 hm
                refine WC_skip ?_
                refine At_then ?_
                refine WC_seq ?_
                refine WC_region ?_
                refine WL_op (Run_move (Opd.t rfl)) rfl rfl rfl rfl <| WL_op (Run_move (Opd.t rfl)) rfl rfl rfl rfl <| WL_op (Run_move (Opd.t rfl)) rfl rfl rfl rfl <| WL_op (Run_move (Opd.t rfl)) rfl rfl rfl rfl <| ?_
                obtain ⟨k63, hm⟩ := chk_some hm
                refine WL_op (Run_cutS (lo := (some (.tmp 74))) (hi := (some (.tmp 75))) Tryd.underlying9 (Opd.t rfl) ⟨_, (Opd.t rfl)⟩ ⟨_, (Opd.t rfl)⟩ (fun _ => k63)) rfl rfl rfl rfl <| WL_op (Run_move (Opd.t rfl)) rfl rfl rfl rfl <| WL_op (Run_build (parts := [(0, (.const (.int .i64 1))), (1, (.tmp 76)), (3, (.tmp 77))]) (v := (.agg #[(.int .i64 1), (S (cut text i12 i35)), (.int .i64 0), (.int .i64 i12)])) (.cons Opd.c (.cons (Opd.t rfl) (.cons (Opd.t rfl) .nil))) (fun _ => by kernel_rfl)) rfl rfl rfl rfl <| ?_
                refine WS_lit (A := (RP (RI .i64) (RP RS (RP (RI .i64) (RI .i64))))) (xs := [(1, (cut text i12 i35), 0, i12)]) (zs := [(.int .i64 0), (S []), (.int .i64 0), (.int .i64 0)]) (cells := [(.int .i64 1), (S (cut text i12 i35)), (.int .i64 0), (.int .i64 i12)]) (parts := [(0, (.tmp 78))]) hs Tryd.underlying44 ti60 rfl rfl rfl (.cons (Opd.t rfl) .nil) (by kernel_rfl) rfl (ARd.cons (A := (RP (RI .i64) (RP RS (RP (RI .i64) (RI .i64))))) (c := [(.int .i64 1), (S (cut text i12 i35)), (.int .i64 0), (.int .i64 i12)]) (x := (1, (cut text i12 i35), 0, i12)) ⟨_, _, rfl, rfl, ⟨_, _, rfl, rfl, ⟨_, _, rfl, rfl, rfl⟩⟩⟩ ARd.nil) rfl ?_
                intro b64 w65 hs
                replace hs := Sat.n2 (Γ := Φ) hs rfl
                replace hs := hs.freeze (i := 0) rfl
                obtain ⟨k66, hm⟩ := chk_some hm
                refine WS_append (A := (RP (RI .i64) (RP RS (RP (RI .i64) (RI .i64))))) hs 1 rfl Tryd.underlying44 ti60 rfl rfl (Opd.t rfl) (Opd.t rfl) (hs.sl (i := 0) rfl) k66 rfl ?_
                intro v67 R68 w69 hs
                replace hs := Sat.n2 (Γ := Φ) hs rfl
                refine WL_op (Run_assign (Opd.t rfl)) rfl rfl rfl rfl <| ?_
                refine WL_nil ?_
                refine At_then ?_
                refine WC_exit ?_
                refine At_then_exit <| At_blk_here <| ?_
                exact At_again ((out9 ++ ([(1, (cut text i12 i35), 0, i12)] : List (Int × Str × Int × Int))), i35) (v67, R68) hm (hs.re 2 [1] rfl) rfl
          ·
            replace hm := bif_f hc33 hm
            refine WC_skip ?_
            refine At_then ?_
            refine WC_seq ?_
            refine WC_seq ?_
            refine WC_region ?_
            refine WL_op (Run_move (Opd.t rfl)) rfl rfl rfl rfl <| WL_op (Run_eqI (Opd.t rfl) Opd.c) rfl rfl rfl rfl <| ?_
            refine WL_nil ?_
            refine At_then ?_
            refine WC_cond (Opd.t rfl) (fun hc70 => ?_) (fun hc70 => ?_)
            ·
              replace hm := bif_t hc70 hm
              refine WC_seq ?_
              refine WC_region ?_
              refine WL_op (Run_assign Opd.c) rfl rfl rfl rfl <| ?_
              refine WL_nil ?_
              refine At_then ?_
              refine WC_seq ?_
              refine WC_block ?_
              refine WC_loop (σ := Int × Int) (γ := Unit) (F := (scrutinyref12_Tokens_L4 text out9 i12 again13)) (N := FUEL) (s0 := (i12, 0)) (r := r) (fun ⟨i72, n73⟩ (_ : Unit) w71 => Sat (osl (RP (RI .i64) (RP RS (RP (RI .i64) (RI .i64)))) 60 (sl v10) out9 R11 :: Φ) w71) (fun ⟨i72, n73⟩ (_ : Unit) => [(0, true, (S text)), (5, true, (sl v10)), (6, true, (.int .i64 i72)), (8, true, (.int .i64 i12)), (9, true, (.int .i64 n73))]) hm () (hs.re 1 [0] rfl) rfl ?_
              rintro again74 ⟨i72, n73⟩ _ w71 hm hs
              unfold scrutinyref12_Tokens_L4 at hm
              dsimp only at hm
              refine WC_seq ?_
              refine WC_seq ?_
              refine WC_region ?_
              refine WL_op (Run_move (Opd.t rfl)) rfl rfl rfl rfl <| WL_op (Run_move (Opd.t rfl)) rfl rfl rfl rfl <| WL_op (Run_lenS Tryd.underlying9 (Opd.t rfl)) rfl rfl rfl rfl <| ?_
              obtain ⟨b75, e76, hm⟩ := letv_some hm
              refine WL_op (Run.eqB (Run_ltI (Opd.t rfl) (Opd.t rfl)) e76) rfl rfl rfl rfl <| WL_op (Run_move (Opd.t rfl)) rfl rfl rfl rfl <| WL_opG rfl rfl rfl rfl guard_pos (Run_move (Opd.t rfl)) rfl rfl rfl <| WL_opG rfl rfl rfl rfl guard_pos (Run_move (Opd.t rfl)) rfl rfl rfl <| ?_
              obtain ⟨k77, hm⟩ := chkG_some hm
              refine WL_opG rfl rfl rfl rfl guard_pos (Run_idxS Tryd.underlying9 (Opd.g rfl id) (Opd.g rfl id) k77) rfl rfl rfl <| ?_
              obtain ⟨r78, hr79, -, hm⟩ := callG_some hm
              refine WL_callG rfl rfl rfl guard_pos (f := 40) (first := []) (cap := []) (xs := [(.tmp 90)]) (vs := [(.int .u8 (byteAt text i72))]) (args := [(.int .u8 (byteAt text i72))]) Tryd.call40 Opd.f (.cons (Opd.g rfl id) .nil) rfl rfl (fun hg => scrutinyref12_kind_ok (hs.re 1 [0] rfl) (hr79 hg)) ?_
              intro v81 w80 hv82 hz83
              replace hs := Sat.ofG (fun hg => (hv82 hg).2.re 1 [0] rfl) hz83 hs
              refine WL_sub1 (v := (.int .i64 r78)) (fun hg => (hv82 hg).1) ?_
              replace hs := Sat.n1 (Γ := Φ) hs rfl
              obtain ⟨b84, e85, hm⟩ := letv_some hm
              refine WL_opG rfl rfl rfl rfl guard_pos (Run.eqB (Run_eqI (Opd.g rfl id) Opd.c) e85) rfl rfl rfl <| ?_
              obtain ⟨b86, e87, hm⟩ := letv_some hm
              refine WL_op (Run.eqB (Run_and (Opd.t rfl) (Opd.g rfl id)) e87) rfl rfl rfl rfl <| ?_
              refine WL_nil ?_
              refine At_then ?_
              refine WC_cond (Opd.t rfl) (fun hc88 => ?_) (fun hc88 => ?_)
              ·
                replace hm := bif_t hc88 hm
                refine WC_skip ?_
                refine At_then ?_
                refine WC_block ?_
                refine WC_seq ?_
                refine WC_seq ?_
                refine WC_region ?_
                refine WL_op (Run_move (Opd.t rfl)) rfl rfl rfl rfl <| WL_op (Run_leI (Opd.t rfl) Opd.c) rfl rfl rfl rfl <| ?_
                refine WL_nil ?_
                refine At_then ?_
                refine WC_cond (Opd.t rfl) (fun hc89 => ?_) (fun hc89 => ?_)
                ·
                  replace hm := bif_t hc89 hm
                  refine WC_region ?_
                  refine WL_op (Run_move (Opd.t rfl)) rfl rfl rfl rfl <| WL_op (Run_mul Opd.c (Opd.t rfl)) rfl rfl rfl rfl <| WL_op (Run_move (Opd.t rfl)) rfl rfl rfl rfl <| WL_op (Run_move (Opd.t rfl)) rfl rfl rfl rfl <| ?_
                  obtain ⟨k90, hm⟩ := chk_some hm
                  refine WL_op (Run_idxS Tryd.underlying9 (Opd.t rfl) (Opd.t rfl) (fun _ => k90)) rfl rfl rfl rfl <| WL_op (Run_conv Tryd.underlying5 Tryd.underlying3 (Opd.t rfl)) rfl rfl rfl rfl <| WL_op (Run_add (Opd.t rfl) (Opd.t rfl)) rfl rfl rfl rfl <| WL_op (Run_sub (Opd.t rfl) Opd.c) rfl rfl rfl rfl <| WL_op (Run_assign (Opd.t rfl)) rfl rfl rfl rfl <| ?_
                  refine WL_nil ?_
                  refine At_then ?_
                  refine WC_region ?_
                  refine WL_op (Run_move (Opd.t rfl)) rfl rfl rfl rfl <| WL_op (Run_add (Opd.t rfl) Opd.c) rfl rfl rfl rfl <| WL_op (Run_assign (Opd.t rfl)) rfl rfl rfl rfl <| ?_
                  refine WL_nil ?_
                  refine At_blk_normal ?_
                  exact At_again ((IntKind.i64.wrap (i72 + 1)), (IntKind.i64.wrap ((IntKind.i64.wrap ((IntKind.i64.wrap (10 * n73)) + (IntKind.i64.wrap (byteAt text i72)))) - 48))) () hm (hs.re 1 [0] rfl) rfl
                ·
                  replace hm := bif_f hc89 hm
                  refine WC_skip ?_
                  refine At_then ?_
                  refine WC_region ?_
                  refine WL_op (Run_move (Opd.t rfl)) rfl rfl rfl rfl <| WL_op (Run_add (Opd.t rfl) Opd.c) rfl rfl rfl rfl <| WL_op (Run_assign (Opd.t rfl)) rfl rfl rfl rfl <| ?_
                  refine WL_nil ?_
                  refine At_blk_normal ?_
                  exact At_again ((IntKind.i64.wrap (i72 + 1)), n73) () hm (hs.re 1 [0] rfl) rfl
              ·
                replace hm := bif_f hc88 hm
                refine WC_exit ?_
                refine At_then_exit <| At_then_exit <| At_blk_here <| ?_
                refine At_then ?_
                refine WC_seq ?_
                refine WC_seq ?_
                refine WC_region ?_
                refine WL_op (Run_move (Opd.t rfl)) rfl rfl rfl rfl <| WL_op (Run_gtI (Opd.t rfl) Opd.c) rfl rfl rfl rfl <| ?_
                refine WL_nil ?_
                refine At_then ?_
                refine WC_cond (Opd.t rfl) (fun hc91 => ?_) (fun hc91 => ?_)
                ·
                  replace hm := bif_t hc91 hm
                  refine WC_seq ?_
                  refine WC_region ?_
                  refine WL_op (Run_move (Opd.t rfl)) rfl rfl rfl rfl <| WL_op (Run_assign Opd.c) rfl rfl rfl rfl <| WL_op (Run_assign Opd.c) rfl rfl rfl rfl <| WL_op (Run_assign (Opd.t rfl)) rfl rfl rfl rfl <| ?_
                  refine WL_nil ?_
                  refine At_then ?_
                  refine WC_ret ?_
                  refine At_then_ret <| At_then_ret <| At_blk_ret <| At_then_ret <| At_blk_ret <| At_then_ret <| ?_
                  refine At_r3 rfl (ResIs.t rfl) (ResIs.t rfl) (ResIs.t rfl) ?_
                  replace hs := hs.addNil (RP (RI .i64) (RP RS (RP (RI .i64) (RI .i64)))) 60
                  cases hm
                  exact ⟨(none, 0, 0), [], rfl, (hs.re 2 [0] rfl)⟩
                ·
                  replace hm := bif_f hc91 hm
                  refine WC_skip ?_
                  refine At_then ?_
                  refine WC_seq ?_
                  refine WC_region ?_
                  refine WL_op (Run_move (Opd.t rfl)) rfl rfl rfl rfl <| WL_op (Run_move (Opd.t rfl)) rfl rfl rfl rfl <| WL_op (Run_move (Opd.t rfl)) rfl rfl rfl rfl <| WL_op (Run_move (Opd.t rfl)) rfl rfl rfl rfl <| ?_
                  obtain ⟨k92, hm⟩ := chk_some hm
                  refine WL_op (Run_cutS (lo := (some (.tmp 111))) (hi := (some (.tmp 112))) Tryd.underlying9 (Opd.t rfl) ⟨_, (Opd.t rfl)⟩ ⟨_, (Opd.t rfl)⟩ (fun _ => k92)) rfl rfl rfl rfl <| WL_op (Run_move (Opd.t rfl)) rfl rfl rfl rfl <| WL_op (Run_move (Opd.t rfl)) rfl rfl rfl rfl <| WL_op (Run_build (parts := [(0, (.const (.int .i64 2))), (1, (.tmp 113)), (2, (.tmp 114)), (3, (.tmp 115))]) (v := (.agg #[(.int .i64 2), (S (cut text i12 i72)), (.int .i64 n73), (.int .i64 i12)])) (.cons Opd.c (.cons (Opd.t rfl) (.cons (Opd.t rfl) (.cons (Opd.t rfl) .nil)))) (fun _ => by kernel_rfl)) rfl rfl rfl rfl <| ?_
                  refine WS_lit (A := (RP (RI .i64) (RP RS (RP (RI .i64) (RI .i64))))) (xs := [(2, (cut text i12 i72), n73, i12)]) (zs := [(.int .i64 0), (S []), (.int .i64 0), (.int .i64 0)]) (cells := [(.int .i64 2), (S (cut text i12 i72)), (.int .i64 n73), (.int .i64 i12)]) (parts := [(0, (.tmp 116))]) hs Tryd.underlying44 ti60 rfl rfl rfl (.cons (Opd.t rfl) .nil) (by kernel_rfl) rfl (ARd.cons (A := (RP (RI .i64) (RP RS (RP (RI .i64) (RI .i64))))) (c := [(.int .i64 2), (S (cut text i12 i72)), (.int .i64 n73), (.int .i64 i12)]) (x := (2, (cut text i12 i72), n73, i12)) ⟨_, _, rfl, rfl, ⟨_, _, rfl, rfl, ⟨_, _, rfl, rfl, rfl⟩⟩⟩ ARd.nil) rfl ?_
                  intro b93 w94 hs
                  replace hs := Sat.n2 (Γ := Φ) hs rfl
                  replace hs := hs.freeze (i := 0) rfl
                  obtain ⟨k95, hm⟩ := chk_some hm
                  refine WS_append (A := (RP (RI .i64) (RP RS (RP (RI .i64) (RI .i64))))) hs 1 rfl Tryd.underlying44 ti60 rfl rfl (Opd.t rfl) (Opd.t rfl) (hs.sl (i := 0) rfl) k95 rfl ?_
                  intro v96 R97 w98 hs
                  replace hs := Sat.n2 (Γ := Φ) hs rfl
                  refine WL_op (Run_assign (Opd.t rfl)) rfl rfl rfl rfl <| ?_
                  refine WL_nil ?_
                  refine At_then ?_
                  refine WC_exit ?_
                  refine At_then_exit <| At_blk_here <| ?_
                  exact At_again ((out9 ++ ([(2, (cut text i12 i72), n73, i12)] : List (Int × Str × Int × Int))), i72) (v96, R97) hm (hs.re 2 [1] rfl) rfl
            ·
              replace hm := bif_f hc70 hm
              refine WC_skip ?_
              refine At_then ?_
              refine WC_seq ?_
              refine WC_region ?_
              obtain ⟨r99, hr100, hm⟩ := bind_some' hm
              refine WL_call (f := 41) (first := []) (cap := []) (xs := []) (vs := []) (args := []) Tryd.call41 Opd.f .nil rfl rfl (scrutinyref12_Signs_ok (hs.re 1 [0] rfl) hr100) ?_
              rintro _ w103 ⟨v101, R102, rfl, hs⟩
              replace hs := Sat.n2 (Γ := Φ) hs rfl
              refine WL_op (Run_assign (Opd.t rfl)) rfl rfl rfl rfl <| ?_
              refine WL_nil ?_
              refine At_then ?_
              refine WC_seq ?_
              refine WC_region ?_
              refine WL_op (Run_assign Opd.c) rfl rfl rfl rfl <| ?_
              refine WL_nil ?_
              refine At_then ?_
              refine WC_seq ?_
              refine WC_seq ?_
              refine WC_region ?_
              refine WL_op (Run_assign Opd.c) rfl rfl rfl rfl <| ?_
              refine WL_nil ?_
              refine At_then ?_
              refine WC_block ?_
              refine WC_loop (σ := Str × Int) (γ := Unit) (F := (scrutinyref12_Tokens_L5 text out9 i12 again13 r99)) (N := FUEL) (s0 := ([], 0)) (r := r) (fun ⟨s105, j106⟩ (_ : Unit) w104 => Sat (osl (RP (RI .i64) (RP RS (RP (RI .i64) (RI .i64)))) 60 (sl v10) out9 R11 :: osl RS 9 (sl v101) r99 R102 :: Φ) w104) (fun ⟨s105, j106⟩ (_ : Unit) => [(0, true, (S text)), (5, true, (sl v10)), (8, true, (.int .i64 i12)), (10, true, (sl v101)), (11, true, (S s105)), (12, true, (.int .i64 j106))]) hm () (hs.re 2 [1, 0] rfl) rfl ?_
              rintro again107 ⟨s105, j106⟩ _ w104 hm hs
              unfold scrutinyref12_Tokens_L5 at hm
              dsimp only at hm
              refine WC_seq ?_
              refine WC_seq ?_
              refine WC_region ?_
              refine WL_op (Run_move (Opd.t rfl)) rfl rfl rfl rfl <| WL_op (Run_move (Opd.t rfl)) rfl rfl rfl rfl <| WL_op (Run_lenSlG Tryd.underlying40 (Opd.t rfl) (fun _ => (hs.own (i := 1) rfl).len)) rfl rfl rfl rfl <| ?_
              obtain ⟨b108, e109, hm⟩ := letv_some hm
              refine WL_op (Run.eqB (Run_ltI (Opd.t rfl) (Opd.t rfl)) e109) rfl rfl rfl rfl <| WL_op (Run_move (Opd.t rfl)) rfl rfl rfl rfl <| WL_opG rfl rfl rfl rfl guard_pos (Run_move (Opd.t rfl)) rfl rfl rfl <| ?_
              obtain ⟨b110, e111, hm⟩ := letv_some hm
              refine WL_opG rfl rfl rfl rfl guard_pos (Run.eqB (Run_eqS (Opd.g rfl id) Opd.c) e111) rfl rfl rfl <| ?_
              obtain ⟨b112, e113, hm⟩ := letv_some hm
              refine WL_op (Run.eqB (Run_and (Opd.t rfl) (Opd.g rfl id)) e113) rfl rfl rfl rfl <| ?_
              refine WL_nil ?_
              refine At_then ?_
              refine WC_cond (Opd.t rfl) (fun hc114 => ?_) (fun hc114 => ?_)
              ·
                replace hm := bif_t hc114 hm
                refine WC_skip ?_
                refine At_then ?_
                refine WC_seq ?_
                refine WC_block ?_
                refine WC_seq ?_
                refine WC_region_mixed [0, 0, 3, 4, 8, 0, 32, 0, 192, 272, 512, 1024, 1024, 1024, 1024, 1024, 50176, 66560, 132096, 271360, 531456, 1024, 1024, 6292480, 8389632, 17826816, 33555456] (.q 0 0 (.q 1 1 (.q 2 3 (.q 3 7 (.q 4 15 (.q 5 31 (.q 6 63 (.q 7 127 (.q 8 255 (.q 9 511 (.q 10 1023 (.q 11 2047 (.q 12 4095 (.q 13 8191 (.q 14 16383 (.q 15 32767 (.q 16 65535 (.q 17 131071 (.q 18 262143 (.q 19 524287 (.q 20 1048575 (.q 21 2097151 (.q 22 4194303 (.q 23 8388607 (.q 24 16777215 (.q 25 33554431 (.q 26 67108863 .nil))))))))))))))))))))))))))) (by kernel_rfl) (by kernel_rfl) ?_
                intro w115 hx116
                replace hs := hs.ext hx116
                refine WD_pure (fun _ => (Run_move (Opd.t rfl))) rfl rfl rfl rfl <| WD_pure (fun _ => (Run_move (Opd.t rfl))) rfl rfl rfl rfl <| ?_
                obtain ⟨e117, he118, hm⟩ := bind_some' hm
                refine WD_pure (fun _ => (Run_idxAddr (p := (elA (sl v101) j106 1)) Tryd.underlying40 ti9 (Opd.t rfl) (Opd.t rfl) (fun hg => (Own.atA (A := RS) (v := (sl v101)) (hs.own (i := 1) rfl) he118).1))) rfl rfl rfl rfl <| WD_op (fun w => true = true → CellsAt w (elA (sl v101) j106 1) [(S e117)]) (fun hg => (Own.cellsF (A := RS) (v := (sl v101)) (hs.own (i := 1) rfl) he118 (fun _ h => openT9 h)).sub 0 rfl) (fun _ hJ => (Run_load1 (v := (S e117)) Tryd.underlying9 rfl (Opd.t rfl) hJ)) rfl rfl rfl rfl <| WD_pure (fun _ => (Run_lenS Tryd.underlying9 (Opd.t rfl))) rfl rfl rfl rfl <| WD_pure (fun _ => (Run_move (Opd.t rfl))) rfl rfl rfl rfl <| WD_pure (fun _ => (Run_lenS Tryd.underlying9 (Opd.t rfl))) rfl rfl rfl rfl <| WD_pure (fun _ => (Run_move (Opd.t rfl))) rfl rfl rfl rfl <| WD_pure (fun _ => (Run_sub (Opd.t rfl) (Opd.t rfl))) rfl rfl rfl rfl <| ?_
                obtain ⟨b119, e120, hm⟩ := letv_some hm
                refine WD_pure (fun _ => (Run.eqB (Run_leI (Opd.t rfl) (Opd.t rfl)) e120)) rfl rfl rfl rfl <| WD_pure (fun _ => (Run_move (Opd.t rfl))) rfl rfl rfl rfl <| WD_pureG rfl rfl rfl rfl guard_pos (fun _ => (Run_move (Opd.t rfl))) rfl rfl rfl <| WD_pureG rfl rfl rfl rfl guard_pos (fun _ => (Run_move (Opd.t rfl))) rfl rfl rfl <| WD_pureG rfl rfl rfl rfl guard_pos (fun _ => (Run_move (Opd.t rfl))) rfl rfl rfl <| WD_pureG rfl rfl rfl rfl guard_pos (fun _ => (Run_move (Opd.t rfl))) rfl rfl rfl <| WD_pureG rfl rfl rfl rfl guard_pos (fun _ => (Run_move (Opd.t rfl))) rfl rfl rfl <| ?_
                obtain ⟨e121, he122, -, hm⟩ := callG_some hm
                refine WD_pureG rfl rfl rfl rfl guard_pos (fun _ => (Run_idxAddr (p := (elA (sl v101) j106 1)) Tryd.underlying40 ti9 (Opd.g rfl id) (Opd.g rfl id) (fun hg => (Own.atA (A := RS) (v := (sl v101)) (hs.own (i := 1) rfl) (he122 hg)).1))) rfl rfl rfl <| WD_opG (fun w => b119 = true → CellsAt w (elA (sl v101) j106 1) [(S e121)]) (fun hg => (Own.cellsF (A := RS) (v := (sl v101)) (hs.own (i := 1) rfl) (he122 hg) (fun _ h => openT9 h)).sub 0 rfl) rfl rfl rfl rfl guard_pos (fun _ hJ => (Run_load1 (v := (S e121)) Tryd.underlying9 rfl (Opd.g rfl id) hJ)) rfl rfl rfl <| WD_pureG rfl rfl rfl rfl guard_pos (fun _ => (Run_lenS Tryd.underlying9 (Opd.g rfl id))) rfl rfl rfl <| WD_pureG rfl rfl rfl rfl guard_pos (fun _ => (Run_add (Opd.g rfl id) (Opd.g rfl id))) rfl rfl rfl <| ?_
                obtain ⟨k123, hm⟩ := chkG_some hm
                refine WD_pureG rfl rfl rfl rfl guard_pos (fun _ => (Run_cutS (lo := (some (.tmp 142))) (hi := (some (.tmp 149))) Tryd.underlying9 (Opd.g rfl id) ⟨_, (Opd.g rfl id)⟩ ⟨_, (Opd.g rfl id)⟩ k123)) rfl rfl rfl <| WD_pureG rfl rfl rfl rfl guard_pos (fun _ => (Run_move (Opd.t rfl))) rfl rfl rfl <| WD_pureG rfl rfl rfl rfl guard_pos (fun _ => (Run_move (Opd.t rfl))) rfl rfl rfl <| ?_
                obtain ⟨e124, he125, -, hm⟩ := callG_some hm
                refine WD_pureG rfl rfl rfl rfl guard_pos (fun _ => (Run_idxAddr (p := (elA (sl v101) j106 1)) Tryd.underlying40 ti9 (Opd.g rfl id) (Opd.g rfl id) (fun hg => (Own.atA (A := RS) (v := (sl v101)) (hs.own (i := 1) rfl) (he125 hg)).1))) rfl rfl rfl <| WD_opG (fun w => b119 = true → CellsAt w (elA (sl v101) j106 1) [(S e124)]) (fun hg => (Own.cellsF (A := RS) (v := (sl v101)) (hs.own (i := 1) rfl) (he125 hg) (fun _ h => openT9 h)).sub 0 rfl) rfl rfl rfl rfl guard_pos (fun _ hJ => (Run_load1 (v := (S e124)) Tryd.underlying9 rfl (Opd.g rfl id) hJ)) rfl rfl rfl <| ?_
                obtain ⟨b126, e127, hm⟩ := letv_some hm
                refine WD_pureG rfl rfl rfl rfl guard_pos (fun _ => (Run.eqB (Run_eqS (Opd.g rfl id) (Opd.g rfl id)) e127)) rfl rfl rfl <| ?_
                obtain ⟨b128, e129, hm⟩ := letv_some hm
                refine WD_pure (fun _ => (Run.eqB (Run_and (Opd.t rfl) (Opd.g rfl id)) e129)) rfl rfl rfl rfl <| ?_
                refine WD_nil ?_
                refine At_then ?_
                refine WC_cond (Opd.t rfl) (fun hc130 => ?_) (fun hc130 => ?_)
                ·
                  replace hm := bif_t hc130 hm
                  refine WC_region ?_
                  refine WL_op (Run_move (Opd.t rfl)) rfl rfl rfl rfl <| WL_op (Run_move (Opd.t rfl)) rfl rfl rfl rfl <| ?_
                  obtain ⟨e131, he132, hm⟩ := bind_some' hm
                  refine WL_op (Run_idxAddr (p := (elA (sl v101) j106 1)) Tryd.underlying40 ti9 (Opd.t rfl) (Opd.t rfl) (fun hg => (Own.atA (A := RS) (v := (sl v101)) (hs.own (i := 1) rfl) he132).1)) rfl rfl rfl rfl <| WL_op (Run_load1 (v := (S e131)) Tryd.underlying9 rfl (Opd.t rfl) (fun hg => (Own.cellsF (A := RS) (v := (sl v101)) (hs.own (i := 1) rfl) he132 (fun _ h => openT9 h)).sub 0 rfl)) rfl rfl rfl rfl <| WL_op (Run_assign (Opd.t rfl)) rfl rfl rfl rfl <| ?_
                  refine WL_nil ?_
                  refine At_blk_normal ?_
                  refine At_then ?_
                  refine WC_region ?_
                  refine WL_op (Run_move (Opd.t rfl)) rfl rfl rfl rfl <| WL_op (Run_add (Opd.t rfl) Opd.c) rfl rfl rfl rfl <| WL_op (Run_assign (Opd.t rfl)) rfl rfl rfl rfl <| ?_
                  refine WL_nil ?_
                  exact At_again (e131, (IntKind.i64.wrap (j106 + 1))) () hm (hs.re 2 [0, 1] rfl) rfl
                ·
                  replace hm := bif_f hc130 hm
                  refine WC_skip ?_
                  refine At_blk_normal ?_
                  refine At_then ?_
                  refine WC_region ?_
                  refine WL_op (Run_move (Opd.t rfl)) rfl rfl rfl rfl <| WL_op (Run_add (Opd.t rfl) Opd.c) rfl rfl rfl rfl <| WL_op (Run_assign (Opd.t rfl)) rfl rfl rfl rfl <| ?_
                  refine WL_nil ?_
                  exact At_again (s105, (IntKind.i64.wrap (j106 + 1))) () hm (hs.re 2 [0, 1] rfl) rfl
              ·
                replace hm := bif_f hc114 hm
                refine WC_exit ?_
                refine At_then_exit <| At_then_exit <| At_blk_here <| ?_
                refine At_then ?_
                refine WC_seq ?_
                refine WC_seq ?_
                refine WC_region ?_
                refine WL_op (Run_move (Opd.t rfl)) rfl rfl rfl rfl <| WL_op (Run_eqS (Opd.t rfl) Opd.c) rfl rfl rfl rfl <| ?_
                refine WL_nil ?_
                refine At_then ?_
                refine WC_cond (Opd.t rfl) (fun hc133 => ?_) (fun hc133 => ?_)
                ·
                  replace hm := bif_t hc133 hm
                  refine WC_seq ?_
                  refine WC_region ?_
                  refine WL_op (Run_move (Opd.t rfl)) rfl rfl rfl rfl <| WL_op (Run_assign Opd.c) rfl rfl rfl rfl <| WL_op (Run_assign Opd.c) rfl rfl rfl rfl <| WL_op (Run_assign (Opd.t rfl)) rfl rfl rfl rfl <| ?_
                  refine WL_nil ?_
                  refine At_then ?_
                  refine WC_ret ?_
                  refine At_then_ret <| At_blk_ret <| At_then_ret <| At_blk_ret <| At_then_ret <| ?_
                  refine At_r3 rfl (ResIs.t rfl) (ResIs.t rfl) (ResIs.t rfl) ?_
                  replace hs := hs.addNil (RP (RI .i64) (RP RS (RP (RI .i64) (RI .i64)))) 60
                  cases hm
                  exact ⟨(none, 0, 0), [], rfl, (hs.re 3 [0] rfl)⟩
                ·
                  replace hm := bif_f hc133 hm
                  refine WC_skip ?_
                  refine At_then ?_
                  refine WC_seq ?_
                  refine WC_region ?_
                  refine WL_op (Run_move (Opd.t rfl)) rfl rfl rfl rfl <| WL_op (Run_move (Opd.t rfl)) rfl rfl rfl rfl <| WL_op (Run_move (Opd.t rfl)) rfl rfl rfl rfl <| WL_op (Run_build (parts := [(0, (.const (.int .i64 3))), (1, (.tmp 165)), (3, (.tmp 166))]) (v := (.agg #[(.int .i64 3), (S s105), (.int .i64 0), (.int .i64 i12)])) (.cons Opd.c (.cons (Opd.t rfl) (.cons (Opd.t rfl) .nil))) (fun _ => by kernel_rfl)) rfl rfl rfl rfl <| ?_
                  refine WS_lit (A := (RP (RI .i64) (RP RS (RP (RI .i64) (RI .i64))))) (xs := [(3, s105, 0, i12)]) (zs := [(.int .i64 0), (S []), (.int .i64 0), (.int .i64 0)]) (cells := [(.int .i64 3), (S s105), (.int .i64 0), (.int .i64 i12)]) (parts := [(0, (.tmp 167))]) hs Tryd.underlying44 ti60 rfl rfl rfl (.cons (Opd.t rfl) .nil) (by kernel_rfl) rfl (ARd.cons (A := (RP (RI .i64) (RP RS (RP (RI .i64) (RI .i64))))) (c := [(.int .i64 3), (S s105), (.int .i64 0), (.int .i64 i12)]) (x := (3, s105, 0, i12)) ⟨_, _, rfl, rfl, ⟨_, _, rfl, rfl, ⟨_, _, rfl, rfl, rfl⟩⟩⟩ ARd.nil) rfl ?_
                  intro b134 w135 hs
                  replace hs := Sat.n3 (Γ := Φ) hs rfl
                  replace hs := hs.freeze (i := 0) rfl
                  obtain ⟨k136, hm⟩ := chk_some hm
                  refine WS_append (A := (RP (RI .i64) (RP RS (RP (RI .i64) (RI .i64))))) hs 1 rfl Tryd.underlying44 ti60 rfl rfl (Opd.t rfl) (Opd.t rfl) (hs.sl (i := 0) rfl) k136 rfl ?_
                  intro v137 R138 w139 hs
                  replace hs := Sat.n3 (Γ := Φ) hs rfl
                  refine WL_op (Run_assign (Opd.t rfl)) rfl rfl rfl rfl <| ?_
                  refine WL_nil ?_
                  refine At_then ?_
                  refine WC_region ?_
                  refine WL_op (Run_move (Opd.t rfl)) rfl rfl rfl rfl <| WL_op (Run_move (Opd.t rfl)) rfl rfl rfl rfl <| WL_op (Run_lenS Tryd.underlying9 (Opd.t rfl)) rfl rfl rfl rfl <| WL_op (Run_add (Opd.t rfl) (Opd.t rfl)) rfl rfl rfl rfl <| WL_op (Run_assign (Opd.t rfl)) rfl rfl rfl rfl <| ?_
                  refine WL_nil ?_
                  refine At_blk_normal ?_
                  exact At_again ((out9 ++ ([(3, s105, 0, i12)] : List (Int × Str × Int × Int))), (IntKind.i64.wrap (i12 + (List.length s105 : Int)))) (v137, R138) hm (hs.re 3 [1] rfl) rfl
    ·
      replace hm := bif_f hc14 hm
      refine WC_exit ?_
      refine At_then_exit <| At_then_exit <| At_blk_here <| ?_
      refine At_then ?_
      refine WC_seq ?_
      refine WC_region ?_
      refine WL_op (Run_move (Opd.t rfl)) rfl rfl rfl rfl <| WL_op (Run_move (Opd.t rfl)) rfl rfl rfl rfl <| WL_op (Run_lenS Tryd.underlying9 (Opd.t rfl)) rfl rfl rfl rfl <| WL_op (Run_build (parts := [(0, (.const (.int .i64 4))), (3, (.tmp 176))]) (v := (.agg #[(.int .i64 4), (S []), (.int .i64 0), (.int .i64 (List.length text : Int))])) (.cons Opd.c (.cons (Opd.t rfl) .nil)) (fun _ => by kernel_rfl)) rfl rfl rfl rfl <| ?_
      refine WS_lit (A := (RP (RI .i64) (RP RS (RP (RI .i64) (RI .i64))))) (xs := [(4, [], 0, (List.length text : Int))]) (zs := [(.int .i64 0), (S []), (.int .i64 0), (.int .i64 0)]) (cells := [(.int .i64 4), (S []), (.int .i64 0), (.int .i64 (List.length text : Int))]) (parts := [(0, (.tmp 177))]) hs Tryd.underlying44 ti60 rfl rfl rfl (.cons (Opd.t rfl) .nil) (by kernel_rfl) rfl (ARd.cons (A := (RP (RI .i64) (RP RS (RP (RI .i64) (RI .i64))))) (c := [(.int .i64 4), (S []), (.int .i64 0), (.int .i64 (List.length text : Int))]) (x := (4, [], 0, (List.length text : Int))) ⟨_, _, rfl, rfl, ⟨_, _, rfl, rfl, ⟨_, _, rfl, rfl, rfl⟩⟩⟩ ARd.nil) rfl ?_
      intro b140 w141 hs
      replace hs := Sat.n2 (Γ := Φ) hs rfl
      replace hs := hs.freeze (i := 0) rfl
      obtain ⟨k142, hm⟩ := chk_some hm
      refine WS_append (A := (RP (RI .i64) (RP RS (RP (RI .i64) (RI .i64))))) hs 1 rfl Tryd.underlying44 ti60 rfl rfl (Opd.t rfl) (Opd.t rfl) (hs.sl (i := 0) rfl) k142 rfl ?_
      intro v143 R144 w145 hs
      replace hs := Sat.n2 (Γ := Φ) hs rfl
      refine WL_op (Run_assign (Opd.t rfl)) rfl rfl rfl rfl <| WL_op (Run_assign Opd.c) rfl rfl rfl rfl <| WL_op (Run_assign Opd.c) rfl rfl rfl rfl <| ?_
      refine WL_nil ?_
      refine At_then ?_
      refine WC_ret ?_
      refine At_r3 rfl (ResIs.t rfl) (ResIs.t rfl) (ResIs.t rfl) ?_
      cases hm
      exact ⟨v143, R144, rfl, (hs.re 2 [1] rfl)⟩

set_option maxRecDepth 100000 in
set_option maxHeartbeats 4000000 in
theorem scrutinylaw13_names_ok {Φ : Ctx} {w : World} {r : (List Str)} (hs : Sat (Φ) w) (hm : scrutinylaw13_names = some r) :
    CallsR Tryd.prog 22 [] w (fun v w' => ∃ v3 : SLV, ∃ R4 : List Nat, v = (sl v3) ∧ Sat (osl RS 9 (sl v3) r R4 :: Φ) w') := by
  refine CallsX_enter Tryd.func22 rfl Tryd.ntmps22 rfl ?_
  unfold scrutinylaw13_names at hm
  refine WC_seq ?_
  refine WC_region ?_
  refine WL_op (Run_assign Opd.c) rfl rfl rfl rfl <| ?_
  refine WL_nil ?_
  refine At_then ?_
  refine WC_seq ?_
  refine WC_region ?_
  refine WS_lit (A := RS) (xs := [[97], [98], [99]]) (zs := [(S [])]) (cells := [(S [97]), (S [98]), (S [99])]) (parts := [(0, (.const (.string ⟨#[97]⟩))), (1, (.const (.string ⟨#[98]⟩))), (2, (.const (.string ⟨#[99]⟩)))]) hs Tryd.underlying40 ti9 rfl rfl rfl (.cons Opd.c (.cons Opd.c (.cons Opd.c .nil))) (by kernel_rfl) rfl (ARd.cons (A := RS) (c := [(S [97])]) (x := [97]) rfl (ARd.cons (A := RS) (c := [(S [98])]) (x := [98]) rfl (ARd.cons (A := RS) (c := [(S [99])]) (x := [99]) rfl ARd.nil))) rfl ?_
  intro b5 w6 hs
  replace hs := Sat.n1 (Γ := Φ) hs rfl
  refine WL_op (Run_assign (Opd.t rfl)) rfl rfl rfl rfl <| ?_
  refine WL_nil ?_
  refine At_then ?_
  refine WC_ret ?_
  refine At_r1 rfl (ResIs.t rfl) ?_
  cases hm
  exact ⟨(some ⟨b5, 0, none⟩, 3, 3), [b5], rfl, (hs.re 1 [0] rfl)⟩

end Go.Proofs.YtmeombbmhpcacaaDoor
