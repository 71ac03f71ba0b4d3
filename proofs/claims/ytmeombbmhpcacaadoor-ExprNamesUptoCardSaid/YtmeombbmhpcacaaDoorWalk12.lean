/- Printed by a program: the walks. -/
import Derived.Test.YtmeombbmhpcacaaDoorWalk11
namespace Go.Proofs.YtmeombbmhpcacaaDoor
open Go.Proofs

set_option maxRecDepth 100000 in
set_option maxHeartbeats 4000000 in
theorem scrutinyref13_Deep_F_ok {k_scrutinyref13_Deep : (Ex × Int) → Option Int} (ih_scrutinyref13_Deep : ∀ {Φ : Ctx} {w : World} {e : Ex} {most : Int} {v1 : SLV} {r : Int}, Sat (imm (RSl RExpr) [sl v1] e.l :: Φ) w → k_scrutinyref13_Deep (e, most) = some r → CallsR Tryd.prog 32 [(.agg #[(.int .i64 e.op), (.int .i64 e.n), (.int .i64 e.at_), (sl v1)]), (.int .i64 most)] w (fun v w' => v = (.int .i64 r) ∧ Sat (Φ) w')) {Φ : Ctx} {w : World} {e : Ex} {most : Int} {v1 : SLV} {r : Int} (hs : Sat (imm (RSl RExpr) [sl v1] e.l :: Φ) w) (hm : scrutinyref13_Deep_F k_scrutinyref13_Deep e most = some r) :
    CallsR Tryd.prog 32 [(.agg #[(.int .i64 e.op), (.int .i64 e.n), (.int .i64 e.at_), (sl v1)]), (.int .i64 most)] w (fun v w' => v = (.int .i64 r) ∧ Sat (Φ) w') := by
  refine CallsX_enter Tryd.func32 rfl Tryd.ntmps32 rfl ?_
  unfold scrutinyref13_Deep_F at hm
  refine WC_seq ?_
  refine WC_region ?_
  refine WS_box (zs := [(.int .i64 e.op), (.int .i64 e.n), (.int .i64 e.at_), (sl v1)]) hs (Opd.t rfl) rfl rfl ?_
  intro b3 w4 hs
  replace hs := Sat.n2 (Γ := Φ) hs rfl
  refine WL_op (Run_assign Opd.c) rfl rfl rfl rfl <| ?_
  refine WL_nil ?_
  refine At_then ?_
  refine WC_seq ?_
  refine WC_region ?_
  refine WL_op (Run_assign Opd.c) rfl rfl rfl rfl <| ?_
  refine WL_nil ?_
  refine At_then ?_
  refine WC_seq ?_
  refine WC_seq ?_
  refine WC_region ?_
  refine WL_op (Run_assign Opd.c) rfl rfl rfl rfl <| ?_
  refine WL_nil ?_
  refine At_then ?_
  refine WC_block ?_
  refine WC_loop (σ := Int × Int) (γ := Unit) (F := (scrutinyref13_Deep_L1 k_scrutinyref13_Deep e most)) (N := FUEL) (s0 := (1, 0)) (r := r) (fun ⟨d6, i7⟩ (_ : Unit) w5 => Sat (box b3 24 [(.int .i64 e.op), (.int .i64 e.n), (.int .i64 e.at_), (sl v1)] :: imm (RSl RExpr) [sl v1] e.l :: Φ) w5) (fun ⟨d6, i7⟩ (_ : Unit) => [(1, true, (.int .i64 most)), (2, true, (.pointer (some ⟨b3, 0, none⟩))), (5, true, (.int .i64 d6)), (6, true, (.int .i64 i7))]) hm () (hs.re 2 [0, 1] rfl) rfl ?_
  rintro again8 ⟨d6, i7⟩ _ w5 hm hs
  unfold scrutinyref13_Deep_L1 at hm
  dsimp only at hm
  refine WC_seq ?_
  refine WC_seq ?_
  refine WC_region ?_
  refine WL_op (Run_move (Opd.t rfl)) rfl rfl rfl rfl <| WL_op (Run_fieldAddr fo24_3 (Opd.t rfl)) rfl rfl rfl rfl <| WL_op (Run_load1 (v := (sl v1)) Tryd.underlying22 rfl (Opd.t rfl) (fun _ => (hs.box (i := 0) rfl).part 3 rfl)) rfl rfl rfl rfl <| WL_op (Run_lenSlG Tryd.underlying22 (Opd.t rfl) (fun hg => (hs.sl (i := 1) rfl).len)) rfl rfl rfl rfl <| ?_
  obtain ⟨b9, e10, hm⟩ := letv_some hm
  refine WL_op (Run.eqB (Run_ltI (Opd.t rfl) (Opd.t rfl)) e10) rfl rfl rfl rfl <| WL_op (Run_move (Opd.t rfl)) rfl rfl rfl rfl <| WL_opG rfl rfl rfl rfl guard_pos (Run_move (Opd.t rfl)) rfl rfl rfl <| ?_
  obtain ⟨b11, e12, hm⟩ := letv_some hm
  refine WL_opG rfl rfl rfl rfl guard_pos (Run.eqB (Run_gtI (Opd.g rfl id) Opd.c) e12) rfl rfl rfl <| ?_
  obtain ⟨b13, e14, hm⟩ := letv_some hm
  refine WL_op (Run.eqB (Run_and (Opd.t rfl) (Opd.g rfl id)) e14) rfl rfl rfl rfl <| ?_
  refine WL_nil ?_
  refine At_then ?_
  refine WC_cond (Opd.t rfl) (fun hc15 => ?_) (fun hc15 => ?_)
  ·
    replace hm := bif_t hc15 hm
    refine WC_skip ?_
    refine At_then ?_
    refine WC_seq ?_
    refine WC_block ?_
    refine WC_seq ?_
    refine WC_region ?_
    refine WL_op (Run_fieldAddr fo24_3 (Opd.t rfl)) rfl rfl rfl rfl <| WL_op (Run_load1 (v := (sl v1)) Tryd.underlying22 rfl (Opd.t rfl) (fun _ => (hs.box (i := 0) rfl).part 3 rfl)) rfl rfl rfl rfl <| WL_op (Run_move (Opd.t rfl)) rfl rfl rfl rfl <| ?_
    obtain ⟨e16, he17, hm⟩ := bind_some' hm
    obtain ⟨v18, hC19, hN20, hR21⟩ := cellsM24 (g := true) (fun hg => (hs.sl (i := 1) rfl)) (fun hg => he17)
    replace hs := hs.addL [elem true (elA (sl v1) i7 4) [(.int .i64 e16.op), (.int .i64 e16.n), (.int .i64 e16.at_), (sl v18)], imm (RSl RExpr) [sl v18] e16.l] rfl ⟨fun hg => ⟨hN20 hg, hC19 hg⟩, ⟨_, rfl, hR21 rfl⟩, trivial⟩
    replace hs := Sat.n4 (Γ := Φ) hs rfl
    refine WL_op (Run_idxAddr (p := (elA (sl v1) i7 4)) Tryd.underlying22 ti24 (Opd.t rfl) (Opd.t rfl) (fun hg => (SRd.atA (A := RExpr) (v := (sl v1)) (hs.sl (i := 3) rfl) he17).1)) rfl rfl rfl rfl <| WL_op (Run_loadA (vs := [(.int .i64 e16.op), (.int .i64 e16.n), (.int .i64 e16.at_), (sl v18)]) Tryd.underlying24 rfl ti24 (Opd.t rfl) (fun hg => ((hs.elem (i := 0) rfl) hg).sub 0 rfl) rfl) rfl rfl rfl rfl <| WL_op (Run_move (Opd.t rfl)) rfl rfl rfl rfl <| WL_op (Run_sub (Opd.t rfl) Opd.c) rfl rfl rfl rfl <| ?_
    obtain ⟨r22, hr23, hm⟩ := bind_some' hm
    refine WL_call (f := 32) (first := []) (cap := []) (xs := [(.tmp 23), (.tmp 25)]) (vs := [(.agg #[(.int .i64 e16.op), (.int .i64 e16.n), (.int .i64 e16.at_), (sl v18)]), (.int .i64 (IntKind.i64.wrap (most - 1)))]) (args := [(.agg #[(.int .i64 e16.op), (.int .i64 e16.n), (.int .i64 e16.at_), (sl v18)]), (.int .i64 (IntKind.i64.wrap (most - 1)))]) Tryd.call32 Opd.f (.cons (Opd.t rfl) (.cons (Opd.t rfl) .nil)) rfl rfl (ih_scrutinyref13_Deep (hs.re 4 [1, 0, 1, 2, 3] rfl) hr23) ?_
    rintro _ w24 ⟨rfl, hs⟩
    replace hs := Sat.n4 (Γ := Φ) hs rfl
    refine WL_op (Run_add Opd.c (Opd.t rfl)) rfl rfl rfl rfl <| WL_op (Run_assign (Opd.t rfl)) rfl rfl rfl rfl <| ?_
    refine WL_nil ?_
    refine At_then ?_
    refine WC_seq ?_
    refine WC_region ?_
    refine WL_op (Run_move (Opd.t rfl)) rfl rfl rfl rfl <| WL_op (Run_move (Opd.t rfl)) rfl rfl rfl rfl <| WL_op (Run_gtI (Opd.t rfl) (Opd.t rfl)) rfl rfl rfl rfl <| ?_
    refine WL_nil ?_
    refine At_then ?_
    refine WC_cond (Opd.t rfl) (fun hc25 => ?_) (fun hc25 => ?_)
    ·
      replace hm := bif_t hc25 hm
      refine WC_region ?_
      refine WL_op (Run_move (Opd.t rfl)) rfl rfl rfl rfl <| WL_op (Run_assign (Opd.t rfl)) rfl rfl rfl rfl <| ?_
      refine WL_nil ?_
      refine At_blk_normal ?_
      refine At_then ?_
      refine WC_region ?_
      refine WL_op (Run_move (Opd.t rfl)) rfl rfl rfl rfl <| WL_op (Run_add (Opd.t rfl) Opd.c) rfl rfl rfl rfl <| WL_op (Run_assign (Opd.t rfl)) rfl rfl rfl rfl <| ?_
      refine WL_nil ?_
      exact At_again ((IntKind.i64.wrap (1 + r22)), (IntKind.i64.wrap (i7 + 1))) () hm (hs.re 4 [2, 3] rfl) rfl
    ·
      replace hm := bif_f hc25 hm
      refine WC_skip ?_
      refine At_blk_normal ?_
      refine At_then ?_
      refine WC_region ?_
      refine WL_op (Run_move (Opd.t rfl)) rfl rfl rfl rfl <| WL_op (Run_add (Opd.t rfl) Opd.c) rfl rfl rfl rfl <| WL_op (Run_assign (Opd.t rfl)) rfl rfl rfl rfl <| ?_
      refine WL_nil ?_
      exact At_again (d6, (IntKind.i64.wrap (i7 + 1))) () hm (hs.re 4 [2, 3] rfl) rfl
  ·
    replace hm := bif_f hc15 hm
    refine WC_exit ?_
    refine At_then_exit <| At_then_exit <| At_blk_here <| ?_
    refine At_then ?_
    refine WC_seq ?_
    refine WC_region ?_
    refine WL_op (Run_move (Opd.t rfl)) rfl rfl rfl rfl <| WL_op (Run_assign (Opd.t rfl)) rfl rfl rfl rfl <| ?_
    refine WL_nil ?_
    refine At_then ?_
    refine WC_ret ?_
    refine At_r1 rfl (ResIs.t rfl) ?_
    cases hm
    exact ⟨rfl, (hs.re 2 [] rfl)⟩

set_option maxRecDepth 100000 in
set_option maxHeartbeats 4000000 in
theorem scrutinyref13_Deep_ok {Φ : Ctx} {w : World} {e : Ex} {most : Int} {v1 : SLV} {r : Int} (hs : Sat (imm (RSl RExpr) [sl v1] e.l :: Φ) w) (hm : scrutinyref13_Deep e most = some r) :
    CallsR Tryd.prog 32 [(.agg #[(.int .i64 e.op), (.int .i64 e.n), (.int .i64 e.at_), (sl v1)]), (.int .i64 most)] w (fun v w' => v = (.int .i64 r) ∧ Sat (Φ) w') := by
  have key : ∀ (N : Nat) {Φ : Ctx} {w : World} {e : Ex} {most : Int} {v1 : SLV} {r : Int}, Sat (imm (RSl RExpr) [sl v1] e.l :: Φ) w → fixN (fun k (s : (Ex × Int)) => scrutinyref13_Deep_F k s.1 s.2) N (e, most) = some r → CallsR Tryd.prog 32 [(.agg #[(.int .i64 e.op), (.int .i64 e.n), (.int .i64 e.at_), (sl v1)]), (.int .i64 most)] w (fun v w' => v = (.int .i64 r) ∧ Sat (Φ) w') := by
    intro N
    induction N with
    | zero => intros; rename_i h; cases h
    | succ N ih => intros; rename_i hs hm; rw [fixN_succ] at hm; exact scrutinyref13_Deep_F_ok (@ih) hs hm
  unfold scrutinyref13_Deep at hm
  exact key FUEL hs hm

set_option maxRecDepth 100000 in
set_option maxHeartbeats 4000000 in
theorem scrutinyref13_Many_F_ok {k_scrutinyref13_Many : (Ex × Int) → Option Int} (ih_scrutinyref13_Many : ∀ {Φ : Ctx} {w : World} {e : Ex} {most : Int} {v1 : SLV} {r : Int}, Sat (imm (RSl RExpr) [sl v1] e.l :: Φ) w → k_scrutinyref13_Many (e, most) = some r → CallsR Tryd.prog 33 [(.agg #[(.int .i64 e.op), (.int .i64 e.n), (.int .i64 e.at_), (sl v1)]), (.int .i64 most)] w (fun v w' => v = (.int .i64 r) ∧ Sat (Φ) w')) {Φ : Ctx} {w : World} {e : Ex} {most : Int} {v1 : SLV} {r : Int} (hs : Sat (imm (RSl RExpr) [sl v1] e.l :: Φ) w) (hm : scrutinyref13_Many_F k_scrutinyref13_Many e most = some r) :
    CallsR Tryd.prog 33 [(.agg #[(.int .i64 e.op), (.int .i64 e.n), (.int .i64 e.at_), (sl v1)]), (.int .i64 most)] w (fun v w' => v = (.int .i64 r) ∧ Sat (Φ) w') := by
  refine CallsX_enter Tryd.func33 rfl Tryd.ntmps33 rfl ?_
  unfold scrutinyref13_Many_F at hm
  refine WC_seq ?_
  refine WC_region ?_
  refine WS_box (zs := [(.int .i64 e.op), (.int .i64 e.n), (.int .i64 e.at_), (sl v1)]) hs (Opd.t rfl) rfl rfl ?_
  intro b3 w4 hs
  replace hs := Sat.n2 (Γ := Φ) hs rfl
  refine WL_op (Run_assign Opd.c) rfl rfl rfl rfl <| ?_
  refine WL_nil ?_
  refine At_then ?_
  refine WC_seq ?_
  refine WC_region ?_
  refine WL_op (Run_assign Opd.c) rfl rfl rfl rfl <| ?_
  refine WL_nil ?_
  refine At_then ?_
  refine WC_seq ?_
  refine WC_seq ?_
  refine WC_region ?_
  refine WL_op (Run_assign Opd.c) rfl rfl rfl rfl <| ?_
  refine WL_nil ?_
  refine At_then ?_
  refine WC_block ?_
  refine WC_loop (σ := Int × Int) (γ := Unit) (F := (scrutinyref13_Many_L1 k_scrutinyref13_Many e most)) (N := FUEL) (s0 := (1, 0)) (r := r) (fun ⟨n6, i7⟩ (_ : Unit) w5 => Sat (box b3 24 [(.int .i64 e.op), (.int .i64 e.n), (.int .i64 e.at_), (sl v1)] :: imm (RSl RExpr) [sl v1] e.l :: Φ) w5) (fun ⟨n6, i7⟩ (_ : Unit) => [(1, true, (.int .i64 most)), (2, true, (.pointer (some ⟨b3, 0, none⟩))), (5, true, (.int .i64 n6)), (6, true, (.int .i64 i7))]) hm () (hs.re 2 [0, 1] rfl) rfl ?_
  rintro again8 ⟨n6, i7⟩ _ w5 hm hs
  unfold scrutinyref13_Many_L1 at hm
  dsimp only at hm
  refine WC_seq ?_
  refine WC_seq ?_
  refine WC_region ?_
  refine WL_op (Run_move (Opd.t rfl)) rfl rfl rfl rfl <| WL_op (Run_fieldAddr fo24_3 (Opd.t rfl)) rfl rfl rfl rfl <| WL_op (Run_load1 (v := (sl v1)) Tryd.underlying22 rfl (Opd.t rfl) (fun _ => (hs.box (i := 0) rfl).part 3 rfl)) rfl rfl rfl rfl <| WL_op (Run_lenSlG Tryd.underlying22 (Opd.t rfl) (fun hg => (hs.sl (i := 1) rfl).len)) rfl rfl rfl rfl <| ?_
  obtain ⟨b9, e10, hm⟩ := letv_some hm
  refine WL_op (Run.eqB (Run_ltI (Opd.t rfl) (Opd.t rfl)) e10) rfl rfl rfl rfl <| WL_op (Run_move (Opd.t rfl)) rfl rfl rfl rfl <| WL_opG rfl rfl rfl rfl guard_pos (Run_move (Opd.t rfl)) rfl rfl rfl <| WL_opG rfl rfl rfl rfl guard_pos (Run_move (Opd.t rfl)) rfl rfl rfl <| ?_
  obtain ⟨b11, e12, hm⟩ := letv_some hm
  refine WL_opG rfl rfl rfl rfl guard_pos (Run.eqB (Run_ltI (Opd.g rfl id) (Opd.g rfl id)) e12) rfl rfl rfl <| ?_
  obtain ⟨b13, e14, hm⟩ := letv_some hm
  refine WL_op (Run.eqB (Run_and (Opd.t rfl) (Opd.g rfl id)) e14) rfl rfl rfl rfl <| ?_
  refine WL_nil ?_
  refine At_then ?_
  refine WC_cond (Opd.t rfl) (fun hc15 => ?_) (fun hc15 => ?_)
  ·
    replace hm := bif_t hc15 hm
    refine WC_skip ?_
    refine At_then ?_
    refine WC_seq ?_
    refine WC_block ?_
    refine WC_region ?_
    refine WL_op (Run_move (Opd.t rfl)) rfl rfl rfl rfl <| WL_op (Run_fieldAddr fo24_3 (Opd.t rfl)) rfl rfl rfl rfl <| WL_op (Run_load1 (v := (sl v1)) Tryd.underlying22 rfl (Opd.t rfl) (fun _ => (hs.box (i := 0) rfl).part 3 rfl)) rfl rfl rfl rfl <| WL_op (Run_move (Opd.t rfl)) rfl rfl rfl rfl <| ?_
    obtain ⟨e16, he17, hm⟩ := bind_some' hm
    obtain ⟨v18, hC19, hN20, hR21⟩ := cellsM24 (g := true) (fun hg => (hs.sl (i := 1) rfl)) (fun hg => he17)
    replace hs := hs.addL [elem true (elA (sl v1) i7 4) [(.int .i64 e16.op), (.int .i64 e16.n), (.int .i64 e16.at_), (sl v18)], imm (RSl RExpr) [sl v18] e16.l] rfl ⟨fun hg => ⟨hN20 hg, hC19 hg⟩, ⟨_, rfl, hR21 rfl⟩, trivial⟩
    replace hs := Sat.n4 (Γ := Φ) hs rfl
    refine WL_op (Run_idxAddr (p := (elA (sl v1) i7 4)) Tryd.underlying22 ti24 (Opd.t rfl) (Opd.t rfl) (fun hg => (SRd.atA (A := RExpr) (v := (sl v1)) (hs.sl (i := 3) rfl) he17).1)) rfl rfl rfl rfl <| WL_op (Run_loadA (vs := [(.int .i64 e16.op), (.int .i64 e16.n), (.int .i64 e16.at_), (sl v18)]) Tryd.underlying24 rfl ti24 (Opd.t rfl) (fun hg => ((hs.elem (i := 0) rfl) hg).sub 0 rfl) rfl) rfl rfl rfl rfl <| WL_op (Run_move (Opd.t rfl)) rfl rfl rfl rfl <| ?_
    obtain ⟨r22, hr23, hm⟩ := bind_some' hm
    refine WL_call (f := 33) (first := []) (cap := []) (xs := [(.tmp 24), (.tmp 25)]) (vs := [(.agg #[(.int .i64 e16.op), (.int .i64 e16.n), (.int .i64 e16.at_), (sl v18)]), (.int .i64 most)]) (args := [(.agg #[(.int .i64 e16.op), (.int .i64 e16.n), (.int .i64 e16.at_), (sl v18)]), (.int .i64 most)]) Tryd.call33 Opd.f (.cons (Opd.t rfl) (.cons (Opd.t rfl) .nil)) rfl rfl (ih_scrutinyref13_Many (hs.re 4 [1, 0, 1, 2, 3] rfl) hr23) ?_
    rintro _ w24 ⟨rfl, hs⟩
    replace hs := Sat.n4 (Γ := Φ) hs rfl
    refine WL_op (Run_add (Opd.t rfl) (Opd.t rfl)) rfl rfl rfl rfl <| WL_op (Run_assign (Opd.t rfl)) rfl rfl rfl rfl <| ?_
    refine WL_nil ?_
    refine At_blk_normal ?_
    refine At_then ?_
    refine WC_region ?_
    refine WL_op (Run_move (Opd.t rfl)) rfl rfl rfl rfl <| WL_op (Run_add (Opd.t rfl) Opd.c) rfl rfl rfl rfl <| WL_op (Run_assign (Opd.t rfl)) rfl rfl rfl rfl <| ?_
    refine WL_nil ?_
    exact At_again ((IntKind.i64.wrap (n6 + r22)), (IntKind.i64.wrap (i7 + 1))) () hm (hs.re 4 [2, 3] rfl) rfl
  ·
    replace hm := bif_f hc15 hm
    refine WC_exit ?_
    refine At_then_exit <| At_then_exit <| At_blk_here <| ?_
    refine At_then ?_
    refine WC_seq ?_
    refine WC_region ?_
    refine WL_op (Run_move (Opd.t rfl)) rfl rfl rfl rfl <| WL_op (Run_assign (Opd.t rfl)) rfl rfl rfl rfl <| ?_
    refine WL_nil ?_
    refine At_then ?_
    refine WC_ret ?_
    refine At_r1 rfl (ResIs.t rfl) ?_
    cases hm
    exact ⟨rfl, (hs.re 2 [] rfl)⟩

set_option maxRecDepth 100000 in
set_option maxHeartbeats 4000000 in
theorem scrutinyref13_Many_ok {Φ : Ctx} {w : World} {e : Ex} {most : Int} {v1 : SLV} {r : Int} (hs : Sat (imm (RSl RExpr) [sl v1] e.l :: Φ) w) (hm : scrutinyref13_Many e most = some r) :
    CallsR Tryd.prog 33 [(.agg #[(.int .i64 e.op), (.int .i64 e.n), (.int .i64 e.at_), (sl v1)]), (.int .i64 most)] w (fun v w' => v = (.int .i64 r) ∧ Sat (Φ) w') := by
  have key : ∀ (N : Nat) {Φ : Ctx} {w : World} {e : Ex} {most : Int} {v1 : SLV} {r : Int}, Sat (imm (RSl RExpr) [sl v1] e.l :: Φ) w → fixN (fun k (s : (Ex × Int)) => scrutinyref13_Many_F k s.1 s.2) N (e, most) = some r → CallsR Tryd.prog 33 [(.agg #[(.int .i64 e.op), (.int .i64 e.n), (.int .i64 e.at_), (sl v1)]), (.int .i64 most)] w (fun v w' => v = (.int .i64 r) ∧ Sat (Φ) w') := by
    intro N
    induction N with
    | zero => intros; rename_i h; cases h
    | succ N ih => intros; rename_i hs hm; rw [fixN_succ] at hm; exact scrutinyref13_Many_F_ok (@ih) hs hm
  unfold scrutinyref13_Many at hm
  exact key FUEL hs hm

set_option maxRecDepth 100000 in
set_option maxHeartbeats 4000000 in
theorem scrutinyref13_Few_ok {Φ : Ctx} {w : World} {e : Ex} {v1 : SLV} {r : Bool} (hs : Sat (imm (RSl RExpr) [sl v1] e.l :: Φ) w) (hm : scrutinyref13_Few e = some r) :
    CallsR Tryd.prog 11 [(.agg #[(.int .i64 e.op), (.int .i64 e.n), (.int .i64 e.at_), (sl v1)])] w (fun v w' => v = (.bool r) ∧ Sat (Φ) w') := by
  refine CallsX_enter Tryd.func11 rfl Tryd.ntmps11 rfl ?_
  unfold scrutinyref13_Few at hm
  refine WC_seq ?_
  refine WC_region ?_
  refine WS_box (zs := [(.int .i64 e.op), (.int .i64 e.n), (.int .i64 e.at_), (sl v1)]) hs (Opd.t rfl) rfl rfl ?_
  intro b3 w4 hs
  replace hs := Sat.n2 (Γ := Φ) hs rfl
  refine WL_op (Run_assign Opd.c) rfl rfl rfl rfl <| ?_
  refine WL_nil ?_
  refine At_then ?_
  refine WC_seq ?_
  refine WC_region ?_
  refine WL_op (Run_loadA (vs := [(.int .i64 e.op), (.int .i64 e.n), (.int .i64 e.at_), (sl v1)]) Tryd.underlying24 rfl ti24 (Opd.t rfl) (fun _ => (hs.box (i := 0) rfl).part 0 rfl) rfl) rfl rfl rfl rfl <| ?_
  obtain ⟨r5, hr6, hm⟩ := bind_some' hm
  refine WL_call (f := 32) (first := []) (cap := []) (xs := [(.tmp 5), (.const (.int .i64 45))]) (vs := [(.agg #[(.int .i64 e.op), (.int .i64 e.n), (.int .i64 e.at_), (sl v1)]), (.int .i64 45)]) (args := [(.agg #[(.int .i64 e.op), (.int .i64 e.n), (.int .i64 e.at_), (sl v1)]), (.int .i64 45)]) Tryd.call32 Opd.f (.cons (Opd.t rfl) (.cons Opd.c .nil)) rfl rfl (scrutinyref13_Deep_ok (hs.re 2 [1, 0, 1] rfl) hr6) ?_
  rintro _ w7 ⟨rfl, hs⟩
  replace hs := Sat.n2 (Γ := Φ) hs rfl
  refine WL_op (Run_assign (Opd.t rfl)) rfl rfl rfl rfl <| ?_
  refine WL_nil ?_
  refine At_then ?_
  refine WC_seq ?_
  refine WC_region ?_
  refine WL_op (Run_loadA (vs := [(.int .i64 e.op), (.int .i64 e.n), (.int .i64 e.at_), (sl v1)]) Tryd.underlying24 rfl ti24 (Opd.t rfl) (fun _ => (hs.box (i := 0) rfl).part 0 rfl) rfl) rfl rfl rfl rfl <| ?_
  obtain ⟨r8, hr9, hm⟩ := bind_some' hm
  refine WL_call (f := 33) (first := []) (cap := []) (xs := [(.tmp 7), (.const (.int .i64 300))]) (vs := [(.agg #[(.int .i64 e.op), (.int .i64 e.n), (.int .i64 e.at_), (sl v1)]), (.int .i64 300)]) (args := [(.agg #[(.int .i64 e.op), (.int .i64 e.n), (.int .i64 e.at_), (sl v1)]), (.int .i64 300)]) Tryd.call33 Opd.f (.cons (Opd.t rfl) (.cons Opd.c .nil)) rfl rfl (scrutinyref13_Many_ok (hs.re 2 [1, 0, 1] rfl) hr9) ?_
  rintro _ w10 ⟨rfl, hs⟩
  replace hs := Sat.n2 (Γ := Φ) hs rfl
  refine WL_op (Run_assign (Opd.t rfl)) rfl rfl rfl rfl <| ?_
  refine WL_nil ?_
  refine At_then ?_
  refine WC_seq ?_
  refine WC_region ?_
  refine WL_op (Run_move (Opd.t rfl)) rfl rfl rfl rfl <| ?_
  obtain ⟨b11, e12, hm⟩ := letv_some hm
  refine WL_op (Run.eqB (Run_ltI (Opd.t rfl) Opd.c) e12) rfl rfl rfl rfl <| WL_op (Run_move (Opd.t rfl)) rfl rfl rfl rfl <| WL_opG rfl rfl rfl rfl guard_pos (Run_move (Opd.t rfl)) rfl rfl rfl <| ?_
  obtain ⟨b13, e14, hm⟩ := letv_some hm
  refine WL_opG rfl rfl rfl rfl guard_pos (Run.eqB (Run_ltI (Opd.g rfl id) Opd.c) e14) rfl rfl rfl <| ?_
  obtain ⟨b15, e16, hm⟩ := letv_some hm
  refine WL_op (Run.eqB (Run_and (Opd.t rfl) (Opd.g rfl id)) e16) rfl rfl rfl rfl <| WL_op (Run_assign (Opd.t rfl)) rfl rfl rfl rfl <| ?_
  refine WL_nil ?_
  refine At_then ?_
  refine WC_ret ?_
  refine At_r1 rfl (ResIs.t rfl) ?_
  cases hm
  exact ⟨rfl, (hs.re 2 [] rfl)⟩

set_option maxRecDepth 100000 in
set_option maxHeartbeats 4000000 in
theorem scrutinyref13_Key_ok {Φ : Ctx} {w : World} {name : Str} {r : Bool} (hs : Sat (Φ) w) (hm : scrutinyref13_Key name = some r) :
    CallsR Tryd.prog 13 [(S name)] w (fun v w' => v = (.bool r) ∧ Sat (Φ) w') := by
  refine CallsX_enter Tryd.func13 rfl Tryd.ntmps13 rfl ?_
  unfold scrutinyref13_Key at hm
  refine WC_seq ?_
  refine WC_region ?_
  refine WL_op (Run_assign Opd.c) rfl rfl rfl rfl <| ?_
  refine WL_nil ?_
  refine At_then ?_
  refine WC_seq ?_
  refine WC_seq ?_
  refine WC_region ?_
  refine WL_op (Run_move (Opd.t rfl)) rfl rfl rfl rfl <| ?_
  refine WL_nil ?_
  refine At_then ?_
  refine WC_block ?_
  refine WC_seq_cut (γ := Bool) (fun t4 w3 => scrutinyref13_Key_K1 t4 = some r ∧ Sat (Φ) w3) (fun t4 => [(4, true, (.bool t4))]) ?_ ?_
  ·
    rintro t4 w3 ⟨hm, hs⟩
    unfold scrutinyref13_Key_K1 at hm
    refine WC_cond (Opd.t rfl) (fun hc5 => ?_) (fun hc5 => ?_)
    ·
      replace hm := bif_t hc5 hm
      refine WC_seq ?_
      refine WC_region ?_
      refine WL_op (Run_assign Opd.c) rfl rfl rfl rfl <| ?_
      refine WL_nil ?_
      refine At_then ?_
      refine WC_ret ?_
      refine At_blk_ret <| At_then_ret <| ?_
      refine At_r1 rfl (ResIs.t rfl) ?_
      cases hm
      exact ⟨rfl, (hs.re 0 [] rfl)⟩
    ·
      replace hm := bif_f hc5 hm
      refine WC_skip ?_
      refine At_blk_normal ?_
      refine At_then ?_
      refine WC_seq ?_
      refine WC_region ?_
      refine WL_op (Run_assign Opd.c) rfl rfl rfl rfl <| ?_
      refine WL_nil ?_
      refine At_then ?_
      refine WC_ret ?_
      refine At_r1 rfl (ResIs.t rfl) ?_
      cases hm
      exact ⟨rfl, (hs.re 0 [] rfl)⟩
  ·
    refine WC_seq ?_
    refine WC_region ?_
    refine WL_op (Run_eqS (Opd.t rfl) Opd.c) rfl rfl rfl rfl <| WL_op (Run_assign (Opd.t rfl)) rfl rfl rfl rfl <| ?_
    refine WL_nil ?_
    refine At_then ?_
    refine WC_cond (Opd.t rfl) (fun hc6 => ?_) (fun hc6 => ?_)
    ·
      replace hm := bif_t hc6 hm
      refine WC_skip ?_
      exact At_join (name == [116, 114, 117, 101]) ⟨hm, (hs.re 0 [] rfl)⟩ rfl
    ·
      replace hm := bif_f hc6 hm
      refine WC_seq ?_
      refine WC_region ?_
      refine WL_op (Run_eqS (Opd.t rfl) Opd.c) rfl rfl rfl rfl <| WL_op (Run_assign (Opd.t rfl)) rfl rfl rfl rfl <| ?_
      refine WL_nil ?_
      refine At_then ?_
      refine WC_cond (Opd.t rfl) (fun hc7 => ?_) (fun hc7 => ?_)
      ·
        replace hm := bif_t hc7 hm
        refine WC_skip ?_
        exact At_join (name == [102, 97, 108, 115, 101]) ⟨hm, (hs.re 0 [] rfl)⟩ rfl
      ·
        replace hm := bif_f hc7 hm
        refine WC_seq ?_
        refine WC_region ?_
        refine WL_op (Run_eqS (Opd.t rfl) Opd.c) rfl rfl rfl rfl <| WL_op (Run_assign (Opd.t rfl)) rfl rfl rfl rfl <| ?_
        refine WL_nil ?_
        refine At_then ?_
        refine WC_cond (Opd.t rfl) (fun hc8 => ?_) (fun hc8 => ?_)
        ·
          replace hm := bif_t hc8 hm
          refine WC_skip ?_
          exact At_join (name == [88]) ⟨hm, (hs.re 0 [] rfl)⟩ rfl
        ·
          replace hm := bif_f hc8 hm
          refine WC_seq ?_
          refine WC_region ?_
          refine WL_op (Run_eqS (Opd.t rfl) Opd.c) rfl rfl rfl rfl <| WL_op (Run_assign (Opd.t rfl)) rfl rfl rfl rfl <| ?_
          refine WL_nil ?_
          refine At_then ?_
          refine WC_cond (Opd.t rfl) (fun hc9 => ?_) (fun hc9 => ?_)
          ·
            replace hm := bif_t hc9 hm
            refine WC_skip ?_
            exact At_join (name == [70]) ⟨hm, (hs.re 0 [] rfl)⟩ rfl
          ·
            replace hm := bif_f hc9 hm
            refine WC_seq ?_
            refine WC_region ?_
            refine WL_op (Run_eqS (Opd.t rfl) Opd.c) rfl rfl rfl rfl <| WL_op (Run_assign (Opd.t rfl)) rfl rfl rfl rfl <| ?_
            refine WL_nil ?_
            refine At_then ?_
            refine WC_cond (Opd.t rfl) (fun hc10 => ?_) (fun hc10 => ?_)
            ·
              replace hm := bif_t hc10 hm
              refine WC_skip ?_
              exact At_join (name == [71]) ⟨hm, (hs.re 0 [] rfl)⟩ rfl
            ·
              replace hm := bif_f hc10 hm
              refine WC_seq ?_
              refine WC_region ?_
              refine WL_op (Run_eqS (Opd.t rfl) Opd.c) rfl rfl rfl rfl <| WL_op (Run_assign (Opd.t rfl)) rfl rfl rfl rfl <| ?_
              refine WL_nil ?_
              refine At_then ?_
              refine WC_cond (Opd.t rfl) (fun hc11 => ?_) (fun hc11 => ?_)
              ·
                replace hm := bif_t hc11 hm
                refine WC_skip ?_
                exact At_join (name == [85]) ⟨hm, (hs.re 0 [] rfl)⟩ rfl
              ·
                replace hm := bif_f hc11 hm
                refine WC_seq ?_
                refine WC_region ?_
                refine WL_op (Run_eqS (Opd.t rfl) Opd.c) rfl rfl rfl rfl <| WL_op (Run_assign (Opd.t rfl)) rfl rfl rfl rfl <| ?_
                refine WL_nil ?_
                refine At_then ?_
                refine WC_cond (Opd.t rfl) (fun hc12 => ?_) (fun hc12 => ?_)
                ·
                  replace hm := bif_t hc12 hm
                  refine WC_skip ?_
                  exact At_join (name == [82]) ⟨hm, (hs.re 0 [] rfl)⟩ rfl
                ·
                  replace hm := bif_f hc12 hm
                  refine WC_seq ?_
                  refine WC_region ?_
                  refine WL_op (Run_eqS (Opd.t rfl) Opd.c) rfl rfl rfl rfl <| WL_op (Run_assign (Opd.t rfl)) rfl rfl rfl rfl <| ?_
                  refine WL_nil ?_
                  refine At_then ?_
                  refine WC_cond (Opd.t rfl) (fun hc13 => ?_) (fun hc13 => ?_)
                  ·
                    replace hm := bif_t hc13 hm
                    refine WC_skip ?_
                    exact At_join (name == [118, 97, 114]) ⟨hm, (hs.re 0 [] rfl)⟩ rfl
                  ·
                    replace hm := bif_f hc13 hm
                    refine WC_region ?_
                    refine WL_op (Run_eqS (Opd.t rfl) Opd.c) rfl rfl rfl rfl <| WL_op (Run_assign (Opd.t rfl)) rfl rfl rfl rfl <| ?_
                    refine WL_nil ?_
                    exact At_join (name == [112, 114, 111, 99]) ⟨hm, (hs.re 0 [] rfl)⟩ rfl

set_option maxRecDepth 100000 in
set_option maxHeartbeats 4000000 in
theorem scrutinyref13_Same_F_ok {k_scrutinyref13_Same : (Ex × Ex) → Option Bool} (ih_scrutinyref13_Same : ∀ {Φ : Ctx} {w : World} {a : Ex} {b : Ex} {v1 : SLV} {v3 : SLV} {r : Bool}, Sat (imm (RSl RExpr) [sl v1] a.l :: imm (RSl RExpr) [sl v3] b.l :: Φ) w → k_scrutinyref13_Same (a, b) = some r → CallsR Tryd.prog 15 [(.agg #[(.int .i64 a.op), (.int .i64 a.n), (.int .i64 a.at_), (sl v1)]), (.agg #[(.int .i64 b.op), (.int .i64 b.n), (.int .i64 b.at_), (sl v3)])] w (fun v w' => v = (.bool r) ∧ Sat (Φ) w')) {Φ : Ctx} {w : World} {a : Ex} {b : Ex} {v1 : SLV} {v3 : SLV} {r : Bool} (hs : Sat (imm (RSl RExpr) [sl v1] a.l :: imm (RSl RExpr) [sl v3] b.l :: Φ) w) (hm : scrutinyref13_Same_F k_scrutinyref13_Same a b = some r) :
    CallsR Tryd.prog 15 [(.agg #[(.int .i64 a.op), (.int .i64 a.n), (.int .i64 a.at_), (sl v1)]), (.agg #[(.int .i64 b.op), (.int .i64 b.n), (.int .i64 b.at_), (sl v3)])] w (fun v w' => v = (.bool r) ∧ Sat (Φ) w') := by
  refine CallsX_enter Tryd.func15 rfl Tryd.ntmps15 rfl ?_
  unfold scrutinyref13_Same_F at hm
  refine WC_seq ?_
  refine WC_region ?_
  refine WS_box (zs := [(.int .i64 a.op), (.int .i64 a.n), (.int .i64 a.at_), (sl v1)]) hs (Opd.t rfl) rfl rfl ?_
  intro b3 w4 hs
  replace hs := Sat.n3 (Γ := Φ) hs rfl
  refine WS_box (zs := [(.int .i64 b.op), (.int .i64 b.n), (.int .i64 b.at_), (sl v3)]) hs (Opd.t rfl) rfl rfl ?_
  intro b5 w6 hs
  replace hs := Sat.n4 (Γ := Φ) hs rfl
  refine WL_op (Run_assign Opd.c) rfl rfl rfl rfl <| ?_
  refine WL_nil ?_
  refine At_then ?_
  refine WC_seq ?_
  refine WC_seq ?_
  refine WC_region ?_
  refine WL_op (Run_fieldAddr fo24_0 (Opd.t rfl)) rfl rfl rfl rfl <| WL_op (Run_load1 (v := (.int .i64 a.op)) Tryd.underlying3 rfl (Opd.t rfl) (fun _ => (hs.box (i := 1) rfl).part 0 rfl)) rfl rfl rfl rfl <| WL_op (Run_fieldAddr fo24_0 (Opd.t rfl)) rfl rfl rfl rfl <| WL_op (Run_load1 (v := (.int .i64 b.op)) Tryd.underlying3 rfl (Opd.t rfl) (fun _ => (hs.box (i := 0) rfl).part 0 rfl)) rfl rfl rfl rfl <| ?_
  obtain ⟨b7, e8, hm⟩ := letv_some hm
  refine WL_op (Run.eqB (Run_neI (Opd.t rfl) (Opd.t rfl)) e8) rfl rfl rfl rfl <| WL_op (Run_move (Opd.t rfl)) rfl rfl rfl rfl <| WL_opG rfl rfl rfl rfl guard_neg (Run_fieldAddr fo24_1 (Opd.t rfl)) rfl rfl rfl <| WL_opG rfl rfl rfl rfl guard_neg (Run_load1 (v := (.int .i64 a.n)) Tryd.underlying3 rfl (Opd.g rfl id) (fun _ => (hs.box (i := 1) rfl).part 1 rfl)) rfl rfl rfl <| WL_opG rfl rfl rfl rfl guard_neg (Run_fieldAddr fo24_1 (Opd.t rfl)) rfl rfl rfl <| WL_opG rfl rfl rfl rfl guard_neg (Run_load1 (v := (.int .i64 b.n)) Tryd.underlying3 rfl (Opd.g rfl id) (fun _ => (hs.box (i := 0) rfl).part 1 rfl)) rfl rfl rfl <| ?_
  obtain ⟨b9, e10, hm⟩ := letv_some hm
  refine WL_opG rfl rfl rfl rfl guard_neg (Run.eqB (Run_neI (Opd.g rfl id) (Opd.g rfl id)) e10) rfl rfl rfl <| ?_
  obtain ⟨b11, e12, hm⟩ := letv_some hm
  refine WL_op (Run.eqB (Run_or (Opd.t rfl) (Opd.g rfl id)) e12) rfl rfl rfl rfl <| WL_op (Run_move (Opd.t rfl)) rfl rfl rfl rfl <| WL_opG rfl rfl rfl rfl guard_neg (Run_fieldAddr fo24_3 (Opd.t rfl)) rfl rfl rfl <| WL_opG rfl rfl rfl rfl guard_neg (Run_load1 (v := (sl v1)) Tryd.underlying22 rfl (Opd.g rfl id) (fun _ => (hs.box (i := 1) rfl).part 3 rfl)) rfl rfl rfl <| WL_opG rfl rfl rfl rfl guard_neg (Run_lenSlG Tryd.underlying22 (Opd.g rfl id) (fun hg => (hs.sl (i := 2) rfl).len)) rfl rfl rfl <| WL_opG rfl rfl rfl rfl guard_neg (Run_fieldAddr fo24_3 (Opd.t rfl)) rfl rfl rfl <| WL_opG rfl rfl rfl rfl guard_neg (Run_load1 (v := (sl v3)) Tryd.underlying22 rfl (Opd.g rfl id) (fun _ => (hs.box (i := 0) rfl).part 3 rfl)) rfl rfl rfl <| WL_opG rfl rfl rfl rfl guard_neg (Run_lenSlG Tryd.underlying22 (Opd.g rfl id) (fun hg => (hs.sl (i := 3) rfl).len)) rfl rfl rfl <| ?_
  obtain ⟨b13, e14, hm⟩ := letv_some hm
  refine WL_opG rfl rfl rfl rfl guard_neg (Run.eqB (Run_neI (Opd.g rfl id) (Opd.g rfl id)) e14) rfl rfl rfl <| ?_
  obtain ⟨b15, e16, hm⟩ := letv_some hm
  refine WL_op (Run.eqB (Run_or (Opd.t rfl) (Opd.g rfl id)) e16) rfl rfl rfl rfl <| ?_
  refine WL_nil ?_
  refine At_then ?_
  refine WC_cond (Opd.t rfl) (fun hc17 => ?_) (fun hc17 => ?_)
  ·
    replace hm := bif_t hc17 hm
    refine WC_seq ?_
    refine WC_region ?_
    refine WL_op (Run_assign Opd.c) rfl rfl rfl rfl <| ?_
    refine WL_nil ?_
    refine At_then ?_
    refine WC_ret ?_
    refine At_then_ret <| ?_
    refine At_r1 rfl (ResIs.t rfl) ?_
    cases hm
    exact ⟨rfl, (hs.re 4 [] rfl)⟩
  ·
    replace hm := bif_f hc17 hm
    refine WC_skip ?_
    refine At_then ?_
    refine WC_seq ?_
    refine WC_seq ?_
    refine WC_region ?_
    refine WL_op (Run_assign Opd.c) rfl rfl rfl rfl <| ?_
    refine WL_nil ?_
    refine At_then ?_
    refine WC_block ?_
    refine WC_loop (σ := Int) (γ := Unit) (F := (scrutinyref13_Same_L1 k_scrutinyref13_Same a b)) (N := FUEL) (s0 := 0) (r := r) (fun i19 (_ : Unit) w18 => Sat (box b3 24 [(.int .i64 a.op), (.int .i64 a.n), (.int .i64 a.at_), (sl v1)] :: imm (RSl RExpr) [sl v1] a.l :: box b5 24 [(.int .i64 b.op), (.int .i64 b.n), (.int .i64 b.at_), (sl v3)] :: imm (RSl RExpr) [sl v3] b.l :: Φ) w18) (fun i19 (_ : Unit) => [(2, true, (.pointer (some ⟨b3, 0, none⟩))), (3, true, (.pointer (some ⟨b5, 0, none⟩))), (5, true, (.int .i64 i19))]) hm () (hs.re 4 [1, 2, 0, 3] rfl) rfl ?_
    rintro again20 i19 _ w18 hm hs
    unfold scrutinyref13_Same_L1 at hm
    refine WC_seq ?_
    refine WC_seq ?_
    refine WC_region ?_
    refine WL_op (Run_move (Opd.t rfl)) rfl rfl rfl rfl <| WL_op (Run_fieldAddr fo24_3 (Opd.t rfl)) rfl rfl rfl rfl <| WL_op (Run_load1 (v := (sl v1)) Tryd.underlying22 rfl (Opd.t rfl) (fun _ => (hs.box (i := 0) rfl).part 3 rfl)) rfl rfl rfl rfl <| WL_op (Run_lenSlG Tryd.underlying22 (Opd.t rfl) (fun hg => (hs.sl (i := 1) rfl).len)) rfl rfl rfl rfl <| WL_op (Run_ltI (Opd.t rfl) (Opd.t rfl)) rfl rfl rfl rfl <| ?_
    refine WL_nil ?_
    refine At_then ?_
    refine WC_cond (Opd.t rfl) (fun hc21 => ?_) (fun hc21 => ?_)
    ·
      replace hm := bif_t hc21 hm
      refine WC_skip ?_
      refine At_then ?_
      refine WC_seq ?_
      refine WC_block ?_
      refine WC_seq ?_
      refine WC_region_mixed [0, 1, 0, 6, 8, 0, 32, 0, 192, 256, 528, 2047] (.q 0 0 (.q 1 1 (.q 2 3 (.q 3 7 (.q 4 15 (.q 5 31 (.q 6 63 (.q 7 127 (.q 8 255 (.q 9 511 (.l 10 1023 (.q 11 2047 .nil)))))))))))) (by kernel_rfl) (by kernel_rfl) ?_
      intro w22 hx23
      replace hs := hs.ext hx23
      refine WD_pure (fun _ => (Run_fieldAddr fo24_3 (Opd.t rfl))) rfl rfl rfl rfl <| WD_op (fun w => CellsAt w ⟨b3, 3, none⟩ [(sl v1)]) ((hs.box (i := 0) rfl).part 3 rfl) (fun _ hJ => (Run_load1 (v := (sl v1)) Tryd.underlying22 rfl (Opd.t rfl) (fun _ => hJ))) rfl rfl rfl rfl <| WD_pure (fun _ => (Run_move (Opd.t rfl))) rfl rfl rfl rfl <| ?_
      obtain ⟨e24, he25, hm⟩ := bind_some' hm
      obtain ⟨v26, hC27, hN28, hR29⟩ := cellsM24 (g := true) (fun hg => (hs.sl (i := 1) rfl)) (fun hg => he25)
      replace hs := hs.addL [elem true (elA (sl v1) i19 4) [(.int .i64 e24.op), (.int .i64 e24.n), (.int .i64 e24.at_), (sl v26)], imm (RSl RExpr) [sl v26] e24.l] rfl ⟨fun hg => ⟨hN28 hg, hC27 hg⟩, ⟨_, rfl, hR29 rfl⟩, trivial⟩
      replace hs := Sat.n6 (Γ := Φ) hs rfl
      refine WD_pure (fun _ => (Run_idxAddr (p := (elA (sl v1) i19 4)) Tryd.underlying22 ti24 (Opd.t rfl) (Opd.t rfl) (fun hg => (SRd.atA (A := RExpr) (v := (sl v1)) (hs.sl (i := 3) rfl) he25).1))) rfl rfl rfl rfl <| WD_op (fun w => true = true → CellsAt w (elA (sl v1) i19 4) [(.int .i64 e24.op), (.int .i64 e24.n), (.int .i64 e24.at_), (sl v26)]) (fun hg => ((hs.elem (i := 0) rfl) hg).sub 0 rfl) (fun _ hJ => (Run_loadA (vs := [(.int .i64 e24.op), (.int .i64 e24.n), (.int .i64 e24.at_), (sl v26)]) Tryd.underlying24 rfl ti24 (Opd.t rfl) hJ rfl)) rfl rfl rfl rfl <| WD_pure (fun _ => (Run_fieldAddr fo24_3 (Opd.t rfl))) rfl rfl rfl rfl <| WD_op (fun w => CellsAt w ⟨b5, 3, none⟩ [(sl v3)]) ((hs.box (i := 4) rfl).part 3 rfl) (fun _ hJ => (Run_load1 (v := (sl v3)) Tryd.underlying22 rfl (Opd.t rfl) (fun _ => hJ))) rfl rfl rfl rfl <| WD_pure (fun _ => (Run_move (Opd.t rfl))) rfl rfl rfl rfl <| ?_
      obtain ⟨e30, he31, hm⟩ := bind_some' hm
      obtain ⟨v32, hC33, hN34, hR35⟩ := cellsM24 (g := true) (fun hg => (hs.sl (i := 5) rfl)) (fun hg => he31)
      replace hs := hs.addL [elem true (elA (sl v3) i19 4) [(.int .i64 e30.op), (.int .i64 e30.n), (.int .i64 e30.at_), (sl v32)], imm (RSl RExpr) [sl v32] e30.l] rfl ⟨fun hg => ⟨hN34 hg, hC33 hg⟩, ⟨_, rfl, hR35 rfl⟩, trivial⟩
      replace hs := Sat.n8 (Γ := Φ) hs rfl
      refine WD_pure (fun _ => (Run_idxAddr (p := (elA (sl v3) i19 4)) Tryd.underlying22 ti24 (Opd.t rfl) (Opd.t rfl) (fun hg => (SRd.atA (A := RExpr) (v := (sl v3)) (hs.sl (i := 7) rfl) he31).1))) rfl rfl rfl rfl <| WD_op (fun w => true = true → CellsAt w (elA (sl v3) i19 4) [(.int .i64 e30.op), (.int .i64 e30.n), (.int .i64 e30.at_), (sl v32)]) (fun hg => ((hs.elem (i := 0) rfl) hg).sub 0 rfl) (fun _ hJ => (Run_loadA (vs := [(.int .i64 e30.op), (.int .i64 e30.n), (.int .i64 e30.at_), (sl v32)]) Tryd.underlying24 rfl ti24 (Opd.t rfl) hJ rfl)) rfl rfl rfl rfl <| ?_
      refine WD_loud (pend' := [(6, fun w => CellsAt w ⟨b5, 3, none⟩ [(sl v3)]), (1, fun w => CellsAt w ⟨b3, 3, none⟩ [(sl v1)])]) rfl (by kernel_rfl) ?_
      obtain ⟨r36, hr37, hm⟩ := bind_some' hm
      refine WL_call (f := 15) (first := []) (cap := []) (xs := [(.tmp 39), (.tmp 44)]) (vs := [(.agg #[(.int .i64 e24.op), (.int .i64 e24.n), (.int .i64 e24.at_), (sl v26)]), (.agg #[(.int .i64 e30.op), (.int .i64 e30.n), (.int .i64 e30.at_), (sl v32)])]) (args := [(.agg #[(.int .i64 e24.op), (.int .i64 e24.n), (.int .i64 e24.at_), (sl v26)]), (.agg #[(.int .i64 e30.op), (.int .i64 e30.n), (.int .i64 e30.at_), (sl v32)])]) Tryd.call15 Opd.f (.cons (Opd.t rfl) (.cons (Opd.t rfl) .nil)) rfl rfl (ih_scrutinyref13_Same (hs.re 8 [3, 1, 0, 1, 2, 3, 4, 5, 6, 7] rfl) hr37) ?_
      rintro _ w38 ⟨rfl, hs⟩
      replace hs := Sat.n8 (Γ := Φ) hs rfl
      refine WL_nil ?_
      refine At_QK (allJ_cons ((hs.box (i := 6) rfl).part 3 rfl) (allJ_cons ((hs.box (i := 4) rfl).part 3 rfl) allJ_nil)) ?_
      refine WD_pure (fun _ => (Run_assign (Opd.t rfl))) rfl rfl rfl rfl <| ?_
      refine WD_nil ?_
      refine At_then ?_
      refine WC_seq ?_
      refine WC_region ?_
      refine WL_op (Run_move (Opd.t rfl)) rfl rfl rfl rfl <| WL_op (Run_notB (Opd.t rfl)) rfl rfl rfl rfl <| ?_
      refine WL_nil ?_
      refine At_then ?_
      refine WC_cond (Opd.t rfl) (fun hc39 => ?_) (fun hc39 => ?_)
      ·
        replace hm := bif_t hc39 hm
        refine WC_seq ?_
        refine WC_region ?_
        refine WL_op (Run_assign Opd.c) rfl rfl rfl rfl <| ?_
        refine WL_nil ?_
        refine At_then ?_
        refine WC_ret ?_
        refine At_blk_ret <| At_then_ret <| At_then_ret <| At_blk_ret <| At_then_ret <| ?_
        refine At_r1 rfl (ResIs.t rfl) ?_
        cases hm
        exact ⟨rfl, (hs.re 8 [] rfl)⟩
      ·
        replace hm := bif_f hc39 hm
        refine WC_skip ?_
        refine At_blk_normal ?_
        refine At_then ?_
        refine WC_region ?_
        refine WL_op (Run_move (Opd.t rfl)) rfl rfl rfl rfl <| WL_op (Run_add (Opd.t rfl) Opd.c) rfl rfl rfl rfl <| WL_op (Run_assign (Opd.t rfl)) rfl rfl rfl rfl <| ?_
        refine WL_nil ?_
        exact At_again (IntKind.i64.wrap (i19 + 1)) () hm (hs.re 8 [4, 5, 6, 7] rfl) rfl
    ·
      replace hm := bif_f hc21 hm
      refine WC_exit ?_
      refine At_then_exit <| At_then_exit <| At_blk_here <| ?_
      refine At_then ?_
      refine WC_seq ?_
      refine WC_region ?_
      refine WL_op (Run_assign Opd.c) rfl rfl rfl rfl <| ?_
      refine WL_nil ?_
      refine At_then ?_
      refine WC_ret ?_
      refine At_r1 rfl (ResIs.t rfl) ?_
      cases hm
      exact ⟨rfl, (hs.re 4 [] rfl)⟩

set_option maxRecDepth 100000 in
set_option maxHeartbeats 4000000 in
theorem scrutinyref13_Same_ok {Φ : Ctx} {w : World} {a : Ex} {b : Ex} {v1 : SLV} {v3 : SLV} {r : Bool} (hs : Sat (imm (RSl RExpr) [sl v1] a.l :: imm (RSl RExpr) [sl v3] b.l :: Φ) w) (hm : scrutinyref13_Same a b = some r) :
    CallsR Tryd.prog 15 [(.agg #[(.int .i64 a.op), (.int .i64 a.n), (.int .i64 a.at_), (sl v1)]), (.agg #[(.int .i64 b.op), (.int .i64 b.n), (.int .i64 b.at_), (sl v3)])] w (fun v w' => v = (.bool r) ∧ Sat (Φ) w') := by
  have key : ∀ (N : Nat) {Φ : Ctx} {w : World} {a : Ex} {b : Ex} {v1 : SLV} {v3 : SLV} {r : Bool}, Sat (imm (RSl RExpr) [sl v1] a.l :: imm (RSl RExpr) [sl v3] b.l :: Φ) w → fixN (fun k (s : (Ex × Ex)) => scrutinyref13_Same_F k s.1 s.2) N (a, b) = some r → CallsR Tryd.prog 15 [(.agg #[(.int .i64 a.op), (.int .i64 a.n), (.int .i64 a.at_), (sl v1)]), (.agg #[(.int .i64 b.op), (.int .i64 b.n), (.int .i64 b.at_), (sl v3)])] w (fun v w' => v = (.bool r) ∧ Sat (Φ) w') := by
    intro N
    induction N with
    | zero => intros; rename_i h; cases h
    | succ N ih => intros; rename_i hs hm; rw [fixN_succ] at hm; exact scrutinyref13_Same_F_ok (@ih) hs hm
  unfold scrutinyref13_Same at hm
  exact key FUEL hs hm

set_option maxRecDepth 100000 in
set_option maxHeartbeats 4000000 in
theorem scrutinyref13_Size_F_ok {k_scrutinyref13_Size : Ex → Option Int} (ih_scrutinyref13_Size : ∀ {Φ : Ctx} {w : World} {e : Ex} {v1 : SLV} {r : Int}, Sat (imm (RSl RExpr) [sl v1] e.l :: Φ) w → k_scrutinyref13_Size e = some r → CallsR Tryd.prog 17 [(.agg #[(.int .i64 e.op), (.int .i64 e.n), (.int .i64 e.at_), (sl v1)])] w (fun v w' => v = (.int .i64 r) ∧ Sat (Φ) w')) {Φ : Ctx} {w : World} {e : Ex} {v1 : SLV} {r : Int} (hs : Sat (imm (RSl RExpr) [sl v1] e.l :: Φ) w) (hm : scrutinyref13_Size_F k_scrutinyref13_Size e = some r) :
    CallsR Tryd.prog 17 [(.agg #[(.int .i64 e.op), (.int .i64 e.n), (.int .i64 e.at_), (sl v1)])] w (fun v w' => v = (.int .i64 r) ∧ Sat (Φ) w') := by
  refine CallsX_enter Tryd.func17 rfl Tryd.ntmps17 rfl ?_
  unfold scrutinyref13_Size_F at hm
  refine WC_seq ?_
  refine WC_region ?_
  refine WS_box (zs := [(.int .i64 e.op), (.int .i64 e.n), (.int .i64 e.at_), (sl v1)]) hs (Opd.t rfl) rfl rfl ?_
  intro b3 w4 hs
  replace hs := Sat.n2 (Γ := Φ) hs rfl
  refine WL_op (Run_assign Opd.c) rfl rfl rfl rfl <| ?_
  refine WL_nil ?_
  refine At_then ?_
  refine WC_seq ?_
  refine WC_region ?_
  refine WL_op (Run_assign Opd.c) rfl rfl rfl rfl <| ?_
  refine WL_nil ?_
  refine At_then ?_
  refine WC_seq ?_
  refine WC_seq ?_
  refine WC_region ?_
  refine WL_op (Run_assign Opd.c) rfl rfl rfl rfl <| ?_
  refine WL_nil ?_
  refine At_then ?_
  refine WC_block ?_
  refine WC_loop (σ := Int × Int) (γ := Unit) (F := (scrutinyref13_Size_L1 k_scrutinyref13_Size e)) (N := FUEL) (s0 := (1, 0)) (r := r) (fun ⟨n6, i7⟩ (_ : Unit) w5 => Sat (box b3 24 [(.int .i64 e.op), (.int .i64 e.n), (.int .i64 e.at_), (sl v1)] :: imm (RSl RExpr) [sl v1] e.l :: Φ) w5) (fun ⟨n6, i7⟩ (_ : Unit) => [(1, true, (.pointer (some ⟨b3, 0, none⟩))), (3, true, (.int .i64 n6)), (4, true, (.int .i64 i7))]) hm () (hs.re 2 [0, 1] rfl) rfl ?_
  rintro again8 ⟨n6, i7⟩ _ w5 hm hs
  unfold scrutinyref13_Size_L1 at hm
  dsimp only at hm
  refine WC_seq ?_
  refine WC_seq ?_
  refine WC_region ?_
  refine WL_op (Run_move (Opd.t rfl)) rfl rfl rfl rfl <| WL_op (Run_fieldAddr fo24_3 (Opd.t rfl)) rfl rfl rfl rfl <| WL_op (Run_load1 (v := (sl v1)) Tryd.underlying22 rfl (Opd.t rfl) (fun _ => (hs.box (i := 0) rfl).part 3 rfl)) rfl rfl rfl rfl <| WL_op (Run_lenSlG Tryd.underlying22 (Opd.t rfl) (fun hg => (hs.sl (i := 1) rfl).len)) rfl rfl rfl rfl <| WL_op (Run_ltI (Opd.t rfl) (Opd.t rfl)) rfl rfl rfl rfl <| ?_
  refine WL_nil ?_
  refine At_then ?_
  refine WC_cond (Opd.t rfl) (fun hc9 => ?_) (fun hc9 => ?_)
  ·
    replace hm := bif_t hc9 hm
    refine WC_skip ?_
    refine At_then ?_
    refine WC_seq ?_
    refine WC_block ?_
    refine WC_region ?_
    refine WL_op (Run_move (Opd.t rfl)) rfl rfl rfl rfl <| WL_op (Run_fieldAddr fo24_3 (Opd.t rfl)) rfl rfl rfl rfl <| WL_op (Run_load1 (v := (sl v1)) Tryd.underlying22 rfl (Opd.t rfl) (fun _ => (hs.box (i := 0) rfl).part 3 rfl)) rfl rfl rfl rfl <| WL_op (Run_move (Opd.t rfl)) rfl rfl rfl rfl <| ?_
    obtain ⟨e10, he11, hm⟩ := bind_some' hm
    obtain ⟨v12, hC13, hN14, hR15⟩ := cellsM24 (g := true) (fun hg => (hs.sl (i := 1) rfl)) (fun hg => he11)
    replace hs := hs.addL [elem true (elA (sl v1) i7 4) [(.int .i64 e10.op), (.int .i64 e10.n), (.int .i64 e10.at_), (sl v12)], imm (RSl RExpr) [sl v12] e10.l] rfl ⟨fun hg => ⟨hN14 hg, hC13 hg⟩, ⟨_, rfl, hR15 rfl⟩, trivial⟩
    replace hs := Sat.n4 (Γ := Φ) hs rfl
    refine WL_op (Run_idxAddr (p := (elA (sl v1) i7 4)) Tryd.underlying22 ti24 (Opd.t rfl) (Opd.t rfl) (fun hg => (SRd.atA (A := RExpr) (v := (sl v1)) (hs.sl (i := 3) rfl) he11).1)) rfl rfl rfl rfl <| WL_op (Run_loadA (vs := [(.int .i64 e10.op), (.int .i64 e10.n), (.int .i64 e10.at_), (sl v12)]) Tryd.underlying24 rfl ti24 (Opd.t rfl) (fun hg => ((hs.elem (i := 0) rfl) hg).sub 0 rfl) rfl) rfl rfl rfl rfl <| ?_
    obtain ⟨r16, hr17, hm⟩ := bind_some' hm
    refine WL_call (f := 17) (first := []) (cap := []) (xs := [(.tmp 17)]) (vs := [(.agg #[(.int .i64 e10.op), (.int .i64 e10.n), (.int .i64 e10.at_), (sl v12)])]) (args := [(.agg #[(.int .i64 e10.op), (.int .i64 e10.n), (.int .i64 e10.at_), (sl v12)])]) Tryd.call17 Opd.f (.cons (Opd.t rfl) .nil) rfl rfl (ih_scrutinyref13_Size (hs.re 4 [1, 0, 1, 2, 3] rfl) hr17) ?_
    rintro _ w18 ⟨rfl, hs⟩
    replace hs := Sat.n4 (Γ := Φ) hs rfl
    refine WL_op (Run_add (Opd.t rfl) (Opd.t rfl)) rfl rfl rfl rfl <| WL_op (Run_assign (Opd.t rfl)) rfl rfl rfl rfl <| ?_
    refine WL_nil ?_
    refine At_blk_normal ?_
    refine At_then ?_
    refine WC_region ?_
    refine WL_op (Run_move (Opd.t rfl)) rfl rfl rfl rfl <| WL_op (Run_add (Opd.t rfl) Opd.c) rfl rfl rfl rfl <| WL_op (Run_assign (Opd.t rfl)) rfl rfl rfl rfl <| ?_
    refine WL_nil ?_
    exact At_again ((IntKind.i64.wrap (n6 + r16)), (IntKind.i64.wrap (i7 + 1))) () hm (hs.re 4 [2, 3] rfl) rfl
  ·
    replace hm := bif_f hc9 hm
    refine WC_exit ?_
    refine At_then_exit <| At_then_exit <| At_blk_here <| ?_
    refine At_then ?_
    refine WC_seq ?_
    refine WC_region ?_
    refine WL_op (Run_move (Opd.t rfl)) rfl rfl rfl rfl <| WL_op (Run_assign (Opd.t rfl)) rfl rfl rfl rfl <| ?_
    refine WL_nil ?_
    refine At_then ?_
    refine WC_ret ?_
    refine At_r1 rfl (ResIs.t rfl) ?_
    cases hm
    exact ⟨rfl, (hs.re 2 [] rfl)⟩

set_option maxRecDepth 100000 in
set_option maxHeartbeats 4000000 in
theorem scrutinyref13_Size_ok {Φ : Ctx} {w : World} {e : Ex} {v1 : SLV} {r : Int} (hs : Sat (imm (RSl RExpr) [sl v1] e.l :: Φ) w) (hm : scrutinyref13_Size e = some r) :
    CallsR Tryd.prog 17 [(.agg #[(.int .i64 e.op), (.int .i64 e.n), (.int .i64 e.at_), (sl v1)])] w (fun v w' => v = (.int .i64 r) ∧ Sat (Φ) w') := by
  have key : ∀ (N : Nat) {Φ : Ctx} {w : World} {e : Ex} {v1 : SLV} {r : Int}, Sat (imm (RSl RExpr) [sl v1] e.l :: Φ) w → fixN (fun k (s : Ex) => scrutinyref13_Size_F k s) N e = some r → CallsR Tryd.prog 17 [(.agg #[(.int .i64 e.op), (.int .i64 e.n), (.int .i64 e.at_), (sl v1)])] w (fun v w' => v = (.int .i64 r) ∧ Sat (Φ) w') := by
    intro N
    induction N with
    | zero => intros; rename_i h; cases h
    | succ N ih => intros; rename_i hs hm; rw [fixN_succ] at hm; exact scrutinyref13_Size_F_ok (@ih) hs hm
  unfold scrutinyref13_Size at hm
  exact key FUEL hs hm

end Go.Proofs.YtmeombbmhpcacaaDoor
