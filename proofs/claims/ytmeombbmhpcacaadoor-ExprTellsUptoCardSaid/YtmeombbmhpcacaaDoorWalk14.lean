/- Printed by a program: the walks. -/
import Derived.Test.YtmeombbmhpcacaaDoorWalk13
namespace Go.Proofs.YtmeombbmhpcacaaDoor
open Go.Proofs

set_option maxRecDepth 100000 in
set_option maxHeartbeats 4000000 in
theorem scrutinyref13_Show_F_ok {k_scrutinyref13_Show : (Ex × (List Str)) → Option Str} (ih_scrutinyref13_Show : ∀ {Φ : Ctx} {w : World} {e : Ex} {names : (List Str)} {v1 : SLV} {v3 : SLV} {r : Str}, Sat (imm (RSl RExpr) [sl v1] e.l :: imm (RSl RS) [sl v3] names :: Φ) w → k_scrutinyref13_Show (e, names) = some r → CallsR Tryd.prog 23 [(.agg #[(.int .i64 e.op), (.int .i64 e.n), (.int .i64 e.at_), (sl v1)]), (sl v3)] w (fun v w' => v = (S r) ∧ Sat (Φ) w')) {Φ : Ctx} {w : World} {e : Ex} {names : (List Str)} {v1 : SLV} {v3 : SLV} {r : Str} (hs : Sat (imm (RSl RExpr) [sl v1] e.l :: imm (RSl RS) [sl v3] names :: Φ) w) (hm : scrutinyref13_Show_F k_scrutinyref13_Show e names = some r) :
    CallsR Tryd.prog 23 [(.agg #[(.int .i64 e.op), (.int .i64 e.n), (.int .i64 e.at_), (sl v1)]), (sl v3)] w (fun v w' => v = (S r) ∧ Sat (Φ) w') := by
  refine CallsX_enter Tryd.func23 rfl Tryd.ntmps23 rfl ?_
  unfold scrutinyref13_Show_F at hm
  refine WC_seq ?_
  refine WC_region ?_
  refine WS_box (zs := [(.int .i64 e.op), (.int .i64 e.n), (.int .i64 e.at_), (sl v1)]) hs (Opd.t rfl) rfl rfl ?_
  intro b3 w4 hs
  replace hs := Sat.n3 (Γ := Φ) hs rfl
  refine WL_op (Run_assign Opd.c) rfl rfl rfl rfl <| ?_
  refine WL_nil ?_
  refine At_then ?_
  refine WC_seq ?_
  refine WC_region ?_
  refine WS_lit (A := RS) (xs := [[], [], [], [43], [45], [42], [45], [61, 61], [33, 61], [60], [60, 61], [62], [62, 61], [116, 114, 117, 101], [102, 97, 108, 115, 101], [33], [38], [124], [45, 62], [60, 45, 62], [88], [70], [71], [85], [82]]) (zs := [(S [])]) (cells := [(S []), (S []), (S []), (S [43]), (S [45]), (S [42]), (S [45]), (S [61, 61]), (S [33, 61]), (S [60]), (S [60, 61]), (S [62]), (S [62, 61]), (S [116, 114, 117, 101]), (S [102, 97, 108, 115, 101]), (S [33]), (S [38]), (S [124]), (S [45, 62]), (S [60, 45, 62]), (S [88]), (S [70]), (S [71]), (S [85]), (S [82])]) (parts := [(0, (.const (.string ⟨#[]⟩))), (1, (.const (.string ⟨#[]⟩))), (2, (.const (.string ⟨#[]⟩))), (3, (.const (.string ⟨#[43]⟩))), (4, (.const (.string ⟨#[45]⟩))), (5, (.const (.string ⟨#[42]⟩))), (6, (.const (.string ⟨#[45]⟩))), (7, (.const (.string ⟨#[61, 61]⟩))), (8, (.const (.string ⟨#[33, 61]⟩))), (9, (.const (.string ⟨#[60]⟩))), (10, (.const (.string ⟨#[60, 61]⟩))), (11, (.const (.string ⟨#[62]⟩))), (12, (.const (.string ⟨#[62, 61]⟩))), (13, (.const (.string ⟨#[116, 114, 117, 101]⟩))), (14, (.const (.string ⟨#[102, 97, 108, 115, 101]⟩))), (15, (.const (.string ⟨#[33]⟩))), (16, (.const (.string ⟨#[38]⟩))), (17, (.const (.string ⟨#[124]⟩))), (18, (.const (.string ⟨#[45, 62]⟩))), (19, (.const (.string ⟨#[60, 45, 62]⟩))), (20, (.const (.string ⟨#[88]⟩))), (21, (.const (.string ⟨#[70]⟩))), (22, (.const (.string ⟨#[71]⟩))), (23, (.const (.string ⟨#[85]⟩))), (24, (.const (.string ⟨#[82]⟩)))]) hs Tryd.underlying40 ti9 rfl rfl rfl (.cons Opd.c (.cons Opd.c (.cons Opd.c (.cons Opd.c (.cons Opd.c (.cons Opd.c (.cons Opd.c (.cons Opd.c (.cons Opd.c (.cons Opd.c (.cons Opd.c (.cons Opd.c (.cons Opd.c (.cons Opd.c (.cons Opd.c (.cons Opd.c (.cons Opd.c (.cons Opd.c (.cons Opd.c (.cons Opd.c (.cons Opd.c (.cons Opd.c (.cons Opd.c (.cons Opd.c (.cons Opd.c .nil))))))))))))))))))))))))) (by kernel_rfl) rfl (ARd.cons (A := RS) (c := [(S [])]) (x := []) rfl (ARd.cons (A := RS) (c := [(S [])]) (x := []) rfl (ARd.cons (A := RS) (c := [(S [])]) (x := []) rfl (ARd.cons (A := RS) (c := [(S [43])]) (x := [43]) rfl (ARd.cons (A := RS) (c := [(S [45])]) (x := [45]) rfl (ARd.cons (A := RS) (c := [(S [42])]) (x := [42]) rfl (ARd.cons (A := RS) (c := [(S [45])]) (x := [45]) rfl (ARd.cons (A := RS) (c := [(S [61, 61])]) (x := [61, 61]) rfl (ARd.cons (A := RS) (c := [(S [33, 61])]) (x := [33, 61]) rfl (ARd.cons (A := RS) (c := [(S [60])]) (x := [60]) rfl (ARd.cons (A := RS) (c := [(S [60, 61])]) (x := [60, 61]) rfl (ARd.cons (A := RS) (c := [(S [62])]) (x := [62]) rfl (ARd.cons (A := RS) (c := [(S [62, 61])]) (x := [62, 61]) rfl (ARd.cons (A := RS) (c := [(S [116, 114, 117, 101])]) (x := [116, 114, 117, 101]) rfl (ARd.cons (A := RS) (c := [(S [102, 97, 108, 115, 101])]) (x := [102, 97, 108, 115, 101]) rfl (ARd.cons (A := RS) (c := [(S [33])]) (x := [33]) rfl (ARd.cons (A := RS) (c := [(S [38])]) (x := [38]) rfl (ARd.cons (A := RS) (c := [(S [124])]) (x := [124]) rfl (ARd.cons (A := RS) (c := [(S [45, 62])]) (x := [45, 62]) rfl (ARd.cons (A := RS) (c := [(S [60, 45, 62])]) (x := [60, 45, 62]) rfl (ARd.cons (A := RS) (c := [(S [88])]) (x := [88]) rfl (ARd.cons (A := RS) (c := [(S [70])]) (x := [70]) rfl (ARd.cons (A := RS) (c := [(S [71])]) (x := [71]) rfl (ARd.cons (A := RS) (c := [(S [85])]) (x := [85]) rfl (ARd.cons (A := RS) (c := [(S [82])]) (x := [82]) rfl ARd.nil))))))))))))))))))))))))) rfl ?_
  intro b5 w6 hs
  replace hs := Sat.n4 (Γ := Φ) hs rfl
  refine WL_op (Run_assign (Opd.t rfl)) rfl rfl rfl rfl <| ?_
  refine WL_nil ?_
  refine At_then ?_
  refine WC_seq ?_
  refine WC_seq ?_
  refine WC_region ?_
  refine WL_op (Run_fieldAddr fo24_0 (Opd.t rfl)) rfl rfl rfl rfl <| WL_op (Run_load1 (v := (.int .i64 e.op)) Tryd.underlying3 rfl (Opd.t rfl) (fun _ => (hs.box (i := 1) rfl).part 0 rfl)) rfl rfl rfl rfl <| WL_op (Run_eqI (Opd.t rfl) Opd.c) rfl rfl rfl rfl <| ?_
  refine WL_nil ?_
  refine At_then ?_
  refine WC_cond (Opd.t rfl) (fun hc7 => ?_) (fun hc7 => ?_)
  ·
    replace hm := bif_t hc7 hm
    refine WC_seq ?_
    refine WC_region ?_
    refine WL_op (Run_fieldAddr fo24_1 (Opd.t rfl)) rfl rfl rfl rfl <| WL_op (Run_load1 (v := (.int .i64 e.n)) Tryd.underlying3 rfl (Opd.t rfl) (fun _ => (hs.box (i := 1) rfl).part 1 rfl)) rfl rfl rfl rfl <| ?_
    obtain ⟨r8, hr9, hm⟩ := bind_some' hm
    refine WL_call (f := 37) (first := []) (cap := []) (xs := [(.tmp 12)]) (vs := [(.int .i64 e.n)]) (args := [(.int .i64 e.n)]) Tryd.call37 Opd.f (.cons (Opd.t rfl) .nil) rfl rfl (scrutinyref13_digits_ok (hs.re 4 [0, 1, 2, 3] rfl) hr9) ?_
    rintro _ w10 ⟨rfl, hs⟩
    replace hs := Sat.n4 (Γ := Φ) hs rfl
    refine WL_op (Run_assign (Opd.t rfl)) rfl rfl rfl rfl <| ?_
    refine WL_nil ?_
    refine At_then ?_
    refine WC_ret ?_
    refine At_then_ret <| ?_
    refine At_r1 rfl (ResIs.t rfl) ?_
    cases hm
    exact ⟨rfl, (hs.re 4 [] rfl)⟩
  ·
    replace hm := bif_f hc7 hm
    refine WC_skip ?_
    refine At_then ?_
    refine WC_seq ?_
    refine WC_seq ?_
    refine WC_region ?_
    refine WL_op (Run_fieldAddr fo24_0 (Opd.t rfl)) rfl rfl rfl rfl <| WL_op (Run_load1 (v := (.int .i64 e.op)) Tryd.underlying3 rfl (Opd.t rfl) (fun _ => (hs.box (i := 1) rfl).part 0 rfl)) rfl rfl rfl rfl <| WL_op (Run_eqI (Opd.t rfl) Opd.c) rfl rfl rfl rfl <| ?_
    refine WL_nil ?_
    refine At_then ?_
    refine WC_cond (Opd.t rfl) (fun hc11 => ?_) (fun hc11 => ?_)
    ·
      replace hm := bif_t hc11 hm
      refine WC_seq ?_
      refine WC_region ?_
      refine WL_op (Run_move (Opd.t rfl)) rfl rfl rfl rfl <| WL_op (Run_fieldAddr fo24_1 (Opd.t rfl)) rfl rfl rfl rfl <| WL_op (Run_load1 (v := (.int .i64 e.n)) Tryd.underlying3 rfl (Opd.t rfl) (fun _ => (hs.box (i := 1) rfl).part 1 rfl)) rfl rfl rfl rfl <| ?_
      obtain ⟨e12, he13, hm⟩ := bind_some' hm
      refine WL_op (Run_idxAddr (p := (elA (sl v3) e.n 1)) Tryd.underlying40 ti9 (Opd.t rfl) (Opd.t rfl) (fun hg => (SRd.atA (A := RS) (v := (sl v3)) (hs.sl (i := 3) rfl) he13).1)) rfl rfl rfl rfl <| WL_op (Run_load1 (v := (S e12)) Tryd.underlying9 rfl (Opd.t rfl) (fun hg => (SRd.cellsF (A := RS) (v := (sl v3)) (hs.sl (i := 3) rfl) he13 (fun _ h => openT9 h)).sub 0 rfl)) rfl rfl rfl rfl <| WL_op (Run_assign (Opd.t rfl)) rfl rfl rfl rfl <| ?_
      refine WL_nil ?_
      refine At_then ?_
      refine WC_ret ?_
      refine At_then_ret <| ?_
      refine At_r1 rfl (ResIs.t rfl) ?_
      cases hm
      exact ⟨rfl, (hs.re 4 [] rfl)⟩
    ·
      replace hm := bif_f hc11 hm
      refine WC_skip ?_
      refine At_then ?_
      refine WC_seq ?_
      refine WC_seq ?_
      refine WC_region ?_
      refine WL_op (Run_fieldAddr fo24_3 (Opd.t rfl)) rfl rfl rfl rfl <| WL_op (Run_load1 (v := (sl v1)) Tryd.underlying22 rfl (Opd.t rfl) (fun _ => (hs.box (i := 1) rfl).part 3 rfl)) rfl rfl rfl rfl <| WL_op (Run_lenSlG Tryd.underlying22 (Opd.t rfl) (fun hg => (hs.sl (i := 2) rfl).len)) rfl rfl rfl rfl <| WL_op (Run_eqI (Opd.t rfl) Opd.c) rfl rfl rfl rfl <| ?_
      refine WL_nil ?_
      refine At_then ?_
      refine WC_cond (Opd.t rfl) (fun hc14 => ?_) (fun hc14 => ?_)
      ·
        replace hm := bif_t hc14 hm
        refine WC_seq ?_
        refine WC_region ?_
        refine WL_op (Run_move (Opd.t rfl)) rfl rfl rfl rfl <| WL_op (Run_fieldAddr fo24_0 (Opd.t rfl)) rfl rfl rfl rfl <| WL_op (Run_load1 (v := (.int .i64 e.op)) Tryd.underlying3 rfl (Opd.t rfl) (fun _ => (hs.box (i := 1) rfl).part 0 rfl)) rfl rfl rfl rfl <| ?_
        obtain ⟨e15, he16, hm⟩ := bind_some' hm
        refine WL_op (Run_idxAddr (p := (elA (sl (some ⟨b5, 0, none⟩, 25, 25)) e.op 1)) Tryd.underlying40 ti9 (Opd.t rfl) (Opd.t rfl) (fun hg => (Own.atA (A := RS) (v := (sl (some ⟨b5, 0, none⟩, 25, 25))) (hs.own (i := 0) rfl) he16).1)) rfl rfl rfl rfl <| WL_op (Run_load1 (v := (S e15)) Tryd.underlying9 rfl (Opd.t rfl) (fun hg => (Own.cellsF (A := RS) (v := (sl (some ⟨b5, 0, none⟩, 25, 25))) (hs.own (i := 0) rfl) he16 (fun _ h => openT9 h)).sub 0 rfl)) rfl rfl rfl rfl <| WL_op (Run_assign (Opd.t rfl)) rfl rfl rfl rfl <| ?_
        refine WL_nil ?_
        refine At_then ?_
        refine WC_ret ?_
        refine At_then_ret <| ?_
        refine At_r1 rfl (ResIs.t rfl) ?_
        cases hm
        exact ⟨rfl, (hs.re 4 [] rfl)⟩
      ·
        replace hm := bif_f hc14 hm
        refine WC_skip ?_
        refine At_then ?_
        refine WC_seq ?_
        refine WC_region ?_
        refine WL_op (Run_fieldAddr fo24_3 (Opd.t rfl)) rfl rfl rfl rfl <| WL_op (Run_load1 (v := (sl v1)) Tryd.underlying22 rfl (Opd.t rfl) (fun _ => (hs.box (i := 1) rfl).part 3 rfl)) rfl rfl rfl rfl <| ?_
        obtain ⟨e17, he18, hm⟩ := bind_some' hm
        obtain ⟨v19, hC20, hN21, hR22⟩ := cellsM24 (g := true) (fun hg => (hs.sl (i := 2) rfl)) (fun hg => he18)
        replace hs := hs.addL [elem true (elA (sl v1) 0 4) [(.int .i64 e17.op), (.int .i64 e17.n), (.int .i64 e17.at_), (sl v19)], imm (RSl RExpr) [sl v19] e17.l] rfl ⟨fun hg => ⟨hN21 hg, hC20 hg⟩, ⟨_, rfl, hR22 rfl⟩, trivial⟩
        replace hs := Sat.n6 (Γ := Φ) hs rfl
        refine WL_op (Run_idxAddr (p := (elA (sl v1) 0 4)) Tryd.underlying22 ti24 (Opd.t rfl) Opd.c (fun hg => (SRd.atA (A := RExpr) (v := (sl v1)) (hs.sl (i := 4) rfl) he18).1)) rfl rfl rfl rfl <| WL_op (Run_loadA (vs := [(.int .i64 e17.op), (.int .i64 e17.n), (.int .i64 e17.at_), (sl v19)]) Tryd.underlying24 rfl ti24 (Opd.t rfl) (fun hg => ((hs.elem (i := 0) rfl) hg).sub 0 rfl) rfl) rfl rfl rfl rfl <| WL_op (Run_move (Opd.t rfl)) rfl rfl rfl rfl <| ?_
        obtain ⟨r23, hr24, hm⟩ := bind_some' hm
        refine WL_call (f := 23) (first := []) (cap := []) (xs := [(.tmp 34), (.tmp 35)]) (vs := [(.agg #[(.int .i64 e17.op), (.int .i64 e17.n), (.int .i64 e17.at_), (sl v19)]), (sl v3)]) (args := [(.agg #[(.int .i64 e17.op), (.int .i64 e17.n), (.int .i64 e17.at_), (sl v19)]), (sl v3)]) Tryd.call23 Opd.f (.cons (Opd.t rfl) (.cons (Opd.t rfl) .nil)) rfl rfl (ih_scrutinyref13_Show (hs.re 6 [1, 5, 0, 1, 2, 3, 4, 5] rfl) hr24) ?_
        rintro _ w25 ⟨rfl, hs⟩
        replace hs := Sat.n6 (Γ := Φ) hs rfl
        refine WL_op (Run_assign (Opd.t rfl)) rfl rfl rfl rfl <| ?_
        refine WL_nil ?_
        refine At_then ?_
        refine WC_seq ?_
        refine WC_seq ?_
        refine WC_region ?_
        refine WL_op (Run_fieldAddr fo24_3 (Opd.t rfl)) rfl rfl rfl rfl <| WL_op (Run_load1 (v := (sl v1)) Tryd.underlying22 rfl (Opd.t rfl) (fun _ => (hs.box (i := 3) rfl).part 3 rfl)) rfl rfl rfl rfl <| WL_op (Run_lenSlG Tryd.underlying22 (Opd.t rfl) (fun hg => (hs.sl (i := 4) rfl).len)) rfl rfl rfl rfl <| WL_op (Run_eqI (Opd.t rfl) Opd.c) rfl rfl rfl rfl <| ?_
        refine WL_nil ?_
        refine At_then ?_
        refine WC_cond (Opd.t rfl) (fun hc26 => ?_) (fun hc26 => ?_)
        ·
          replace hm := bif_t hc26 hm
          refine WC_seq ?_
          refine WC_region ?_
          refine WL_op (Run_move (Opd.t rfl)) rfl rfl rfl rfl <| WL_op (Run_fieldAddr fo24_0 (Opd.t rfl)) rfl rfl rfl rfl <| WL_op (Run_load1 (v := (.int .i64 e.op)) Tryd.underlying3 rfl (Opd.t rfl) (fun _ => (hs.box (i := 3) rfl).part 0 rfl)) rfl rfl rfl rfl <| ?_
          obtain ⟨e27, he28, hm⟩ := bind_some' hm
          refine WL_op (Run_idxAddr (p := (elA (sl (some ⟨b5, 0, none⟩, 25, 25)) e.op 1)) Tryd.underlying40 ti9 (Opd.t rfl) (Opd.t rfl) (fun hg => (Own.atA (A := RS) (v := (sl (some ⟨b5, 0, none⟩, 25, 25))) (hs.own (i := 2) rfl) he28).1)) rfl rfl rfl rfl <| WL_op (Run_load1 (v := (S e27)) Tryd.underlying9 rfl (Opd.t rfl) (fun hg => (Own.cellsF (A := RS) (v := (sl (some ⟨b5, 0, none⟩, 25, 25))) (hs.own (i := 2) rfl) he28 (fun _ h => openT9 h)).sub 0 rfl)) rfl rfl rfl rfl <| ?_
          obtain ⟨k29, hm⟩ := chk_some hm
          refine WL_op (Run_cat Opd.c (Opd.t rfl) (fun _ => k29)) rfl rfl rfl rfl <| ?_
          obtain ⟨k30, hm⟩ := chk_some hm
          refine WL_op (Run_cat (Opd.t rfl) Opd.c (fun _ => k30)) rfl rfl rfl rfl <| WL_op (Run_move (Opd.t rfl)) rfl rfl rfl rfl <| ?_
          obtain ⟨k31, hm⟩ := chk_some hm
          refine WL_op (Run_cat (Opd.t rfl) (Opd.t rfl) (fun _ => k31)) rfl rfl rfl rfl <| ?_
          obtain ⟨k32, hm⟩ := chk_some hm
          refine WL_op (Run_cat (Opd.t rfl) Opd.c (fun _ => k32)) rfl rfl rfl rfl <| WL_op (Run_assign (Opd.t rfl)) rfl rfl rfl rfl <| ?_
          refine WL_nil ?_
          refine At_then ?_
          refine WC_ret ?_
          refine At_then_ret <| ?_
          refine At_r1 rfl (ResIs.t rfl) ?_
          cases hm
          exact ⟨rfl, (hs.re 6 [] rfl)⟩
        ·
          replace hm := bif_f hc26 hm
          refine WC_skip ?_
          refine At_then ?_
          refine WC_seq ?_
          refine WC_region_mixed [0, 1, 2, 0, 0, 16, 40, 64, 132, 256, 0, 1024, 2048, 4096, 0, 24576, 33280, 65536, 262143] (.q 0 0 (.q 1 1 (.q 2 3 (.q 3 7 (.q 4 15 (.q 5 31 (.q 6 63 (.q 7 127 (.q 8 255 (.q 9 511 (.q 10 1023 (.q 11 2047 (.q 12 4095 (.q 13 8191 (.q 14 16383 (.l 15 32767 (.q 16 65535 (.q 17 131071 (.q 18 262143 .nil))))))))))))))))))) (by kernel_rfl) (by kernel_rfl) ?_
          intro w33 hx34
          replace hs := hs.ext hx34
          refine WD_pure (fun _ => (Run_move (Opd.t rfl))) rfl rfl rfl rfl <| ?_
          obtain ⟨k35, hm⟩ := chk_some hm
          refine WD_pure (fun _ => (Run_cat Opd.c (Opd.t rfl) (fun _ => k35))) rfl rfl rfl rfl <| ?_
          obtain ⟨k36, hm⟩ := chk_some hm
          refine WD_pure (fun _ => (Run_cat (Opd.t rfl) Opd.c (fun _ => k36))) rfl rfl rfl rfl <| WD_pure (fun _ => (Run_move (Opd.t rfl))) rfl rfl rfl rfl <| WD_pure (fun _ => (Run_fieldAddr fo24_0 (Opd.t rfl))) rfl rfl rfl rfl <| WD_op (fun w => CellsAt w ⟨b3, 0, none⟩ [(.int .i64 e.op)]) ((hs.box (i := 3) rfl).part 0 rfl) (fun _ hJ => (Run_load1 (v := (.int .i64 e.op)) Tryd.underlying3 rfl (Opd.t rfl) (fun _ => hJ))) rfl rfl rfl rfl <| ?_
          obtain ⟨e37, he38, hm⟩ := bind_some' hm
          refine WD_pure (fun _ => (Run_idxAddr (p := (elA (sl (some ⟨b5, 0, none⟩, 25, 25)) e.op 1)) Tryd.underlying40 ti9 (Opd.t rfl) (Opd.t rfl) (fun hg => (Own.atA (A := RS) (v := (sl (some ⟨b5, 0, none⟩, 25, 25))) (hs.own (i := 2) rfl) he38).1))) rfl rfl rfl rfl <| WD_op (fun w => true = true → CellsAt w (elA (sl (some ⟨b5, 0, none⟩, 25, 25)) e.op 1) [(S e37)]) (fun hg => (Own.cellsF (A := RS) (v := (sl (some ⟨b5, 0, none⟩, 25, 25))) (hs.own (i := 2) rfl) he38 (fun _ h => openT9 h)).sub 0 rfl) (fun _ hJ => (Run_load1 (v := (S e37)) Tryd.underlying9 rfl (Opd.t rfl) hJ)) rfl rfl rfl rfl <| ?_
          obtain ⟨k39, hm⟩ := chk_some hm
          refine WD_pure (fun _ => (Run_cat (Opd.t rfl) (Opd.t rfl) (fun _ => k39))) rfl rfl rfl rfl <| ?_
          obtain ⟨k40, hm⟩ := chk_some hm
          refine WD_pure (fun _ => (Run_cat (Opd.t rfl) Opd.c (fun _ => k40))) rfl rfl rfl rfl <| WD_pure (fun _ => (Run_fieldAddr fo24_3 (Opd.t rfl))) rfl rfl rfl rfl <| WD_op (fun w => CellsAt w ⟨b3, 3, none⟩ [(sl v1)]) ((hs.box (i := 3) rfl).part 3 rfl) (fun _ hJ => (Run_load1 (v := (sl v1)) Tryd.underlying22 rfl (Opd.t rfl) (fun _ => hJ))) rfl rfl rfl rfl <| ?_
          obtain ⟨e41, he42, hm⟩ := bind_some' hm
          obtain ⟨v43, hC44, hN45, hR46⟩ := cellsM24 (g := true) (fun hg => (hs.sl (i := 4) rfl)) (fun hg => he42)
          replace hs := hs.addL [elem true (elA (sl v1) 1 4) [(.int .i64 e41.op), (.int .i64 e41.n), (.int .i64 e41.at_), (sl v43)], imm (RSl RExpr) [sl v43] e41.l] rfl ⟨fun hg => ⟨hN45 hg, hC44 hg⟩, ⟨_, rfl, hR46 rfl⟩, trivial⟩
          replace hs := Sat.n8 (Γ := Φ) hs rfl
          refine WD_pure (fun _ => (Run_idxAddr (p := (elA (sl v1) 1 4)) Tryd.underlying22 ti24 (Opd.t rfl) Opd.c (fun hg => (SRd.atA (A := RExpr) (v := (sl v1)) (hs.sl (i := 6) rfl) he42).1))) rfl rfl rfl rfl <| WD_op (fun w => true = true → CellsAt w (elA (sl v1) 1 4) [(.int .i64 e41.op), (.int .i64 e41.n), (.int .i64 e41.at_), (sl v43)]) (fun hg => ((hs.elem (i := 0) rfl) hg).sub 0 rfl) (fun _ hJ => (Run_loadA (vs := [(.int .i64 e41.op), (.int .i64 e41.n), (.int .i64 e41.at_), (sl v43)]) Tryd.underlying24 rfl ti24 (Opd.t rfl) hJ rfl)) rfl rfl rfl rfl <| WD_pure (fun _ => (Run_move (Opd.t rfl))) rfl rfl rfl rfl <| ?_
          refine WD_loud (pend' := [(11, fun w => CellsAt w ⟨b3, 3, none⟩ [(sl v1)]), (7, fun w => true = true → CellsAt w (elA (sl (some ⟨b5, 0, none⟩, 25, 25)) e.op 1) [(S e37)]), (5, fun w => CellsAt w ⟨b3, 0, none⟩ [(.int .i64 e.op)])]) rfl (by kernel_rfl) ?_
          obtain ⟨r47, hr48, hm⟩ := bind_some' hm
          refine WL_call (f := 23) (first := []) (cap := []) (xs := [(.tmp 64), (.tmp 65)]) (vs := [(.agg #[(.int .i64 e41.op), (.int .i64 e41.n), (.int .i64 e41.at_), (sl v43)]), (sl v3)]) (args := [(.agg #[(.int .i64 e41.op), (.int .i64 e41.n), (.int .i64 e41.at_), (sl v43)]), (sl v3)]) Tryd.call23 Opd.f (.cons (Opd.t rfl) (.cons (Opd.t rfl) .nil)) rfl rfl (ih_scrutinyref13_Show (hs.re 8 [1, 7, 0, 1, 2, 3, 4, 5, 6, 7] rfl) hr48) ?_
          rintro _ w49 ⟨rfl, hs⟩
          replace hs := Sat.n8 (Γ := Φ) hs rfl
          refine WL_nil ?_
          refine At_QK (allJ_cons ((hs.box (i := 5) rfl).part 3 rfl) (allJ_cons (fun hg => (Own.cellsF (A := RS) (v := (sl (some ⟨b5, 0, none⟩, 25, 25))) (hs.own (i := 4) rfl) he38 (fun _ h => openT9 h)).sub 0 rfl) (allJ_cons ((hs.box (i := 5) rfl).part 0 rfl) allJ_nil))) ?_
          obtain ⟨k50, hm⟩ := chk_some hm
          refine WD_pure (fun _ => (Run_cat (Opd.t rfl) (Opd.t rfl) (fun _ => k50))) rfl rfl rfl rfl <| ?_
          obtain ⟨k51, hm⟩ := chk_some hm
          refine WD_pure (fun _ => (Run_cat (Opd.t rfl) Opd.c (fun _ => k51))) rfl rfl rfl rfl <| WD_pure (fun _ => (Run_assign (Opd.t rfl))) rfl rfl rfl rfl <| ?_
          refine WD_nil ?_
          refine At_then ?_
          refine WC_ret ?_
          refine At_r1 rfl (ResIs.t rfl) ?_
          cases hm
          exact ⟨rfl, (hs.re 8 [] rfl)⟩

set_option maxRecDepth 100000 in
set_option maxHeartbeats 4000000 in
theorem scrutinyref13_Show_ok {Φ : Ctx} {w : World} {e : Ex} {names : (List Str)} {v1 : SLV} {v3 : SLV} {r : Str} (hs : Sat (imm (RSl RExpr) [sl v1] e.l :: imm (RSl RS) [sl v3] names :: Φ) w) (hm : scrutinyref13_Show e names = some r) :
    CallsR Tryd.prog 23 [(.agg #[(.int .i64 e.op), (.int .i64 e.n), (.int .i64 e.at_), (sl v1)]), (sl v3)] w (fun v w' => v = (S r) ∧ Sat (Φ) w') := by
  have key : ∀ (N : Nat) {Φ : Ctx} {w : World} {e : Ex} {names : (List Str)} {v1 : SLV} {v3 : SLV} {r : Str}, Sat (imm (RSl RExpr) [sl v1] e.l :: imm (RSl RS) [sl v3] names :: Φ) w → fixN (fun k (s : (Ex × (List Str))) => scrutinyref13_Show_F k s.1 s.2) N (e, names) = some r → CallsR Tryd.prog 23 [(.agg #[(.int .i64 e.op), (.int .i64 e.n), (.int .i64 e.at_), (sl v1)]), (sl v3)] w (fun v w' => v = (S r) ∧ Sat (Φ) w') := by
    intro N
    induction N with
    | zero => intros; rename_i h; cases h
    | succ N ih => intros; rename_i hs hm; rw [fixN_succ] at hm; exact scrutinyref13_Show_F_ok (@ih) hs hm
  unfold scrutinyref13_Show at hm
  exact key FUEL hs hm

set_option maxRecDepth 100000 in
set_option maxHeartbeats 4000000 in
theorem scrutinyref13_truth_ok {Φ : Ctx} {w : World} {is_ : Bool} {r : Int} (hs : Sat (Φ) w) (hm : scrutinyref13_truth is_ = some r) :
    CallsR Tryd.prog 39 [(.bool is_)] w (fun v w' => v = (.int .i64 r) ∧ Sat (Φ) w') := by
  refine CallsX_enter Tryd.func39 rfl Tryd.ntmps39 rfl ?_
  unfold scrutinyref13_truth at hm
  refine WC_seq ?_
  refine WC_region ?_
  refine WL_op (Run_assign Opd.c) rfl rfl rfl rfl <| ?_
  refine WL_nil ?_
  refine At_then ?_
  refine WC_seq ?_
  refine WC_seq ?_
  refine WC_region ?_
  refine WL_op (Run_move (Opd.t rfl)) rfl rfl rfl rfl <| ?_
  refine WL_nil ?_
  refine At_then ?_
  refine WC_cond (Opd.t rfl) (fun hc3 => ?_) (fun hc3 => ?_)
  ·
    replace hm := bif_t hc3 hm
    refine WC_seq ?_
    refine WC_region ?_
    refine WL_op (Run_assign Opd.c) rfl rfl rfl rfl <| ?_
    refine WL_nil ?_
    refine At_then ?_
    refine WC_ret ?_
    refine At_then_ret <| ?_
    refine At_r1 rfl (ResIs.t rfl) ?_
    cases hm
    exact ⟨rfl, (hs.re 0 [] rfl)⟩
  ·
    replace hm := bif_f hc3 hm
    refine WC_skip ?_
    refine At_then ?_
    refine WC_seq ?_
    refine WC_region ?_
    refine WL_op (Run_assign Opd.c) rfl rfl rfl rfl <| ?_
    refine WL_nil ?_
    refine At_then ?_
    refine WC_ret ?_
    refine At_r1 rfl (ResIs.t rfl) ?_
    cases hm
    exact ⟨rfl, (hs.re 0 [] rfl)⟩

end Go.Proofs.YtmeombbmhpcacaaDoor
