/- Printed by a program: the walks. -/
import Derived.Test.YtmeombbmhpcacaaDoorWalk16
namespace Go.Proofs.YtmeombbmhpcacaaDoor
open Go.Proofs

set_option maxRecDepth 100000 in
set_option maxHeartbeats 4000000 in
theorem scrutinylaw13_ExprLaws_c1_ok {Φ : Ctx} {w : World} {op : Int} {l : Ex} {r3 : Ex} {x : (List Int)} {v1 : SLV} {v4 : SLV} {b : Nat} {v7 : SLV} {r : Int} (hs : Sat (imm (RSl RExpr) [sl v1] l.l :: imm (RSl RExpr) [sl v4] r3.l :: box b 25 [(sl v7)] :: imm (RSl (RI .i64)) [sl v7] x :: Φ) w) (hm : scrutinylaw13_ExprLaws_c1 op l r3 x = some r) :
    CallsR Tryd.prog 29 [(.int .i64 op), (.agg #[(.int .i64 l.op), (.int .i64 l.n), (.int .i64 l.at_), (sl v1)]), (.agg #[(.int .i64 r3.op), (.int .i64 r3.n), (.int .i64 r3.at_), (sl v4)]), (.pointer (some ⟨b, 0, none⟩))] w (fun v w' => v = (.int .i64 r) ∧ Sat (box b 25 [(sl v7)] :: imm (RSl (RI .i64)) [sl v7] x :: Φ) w') := by
  refine CallsX_enter Tryd.func29 rfl Tryd.ntmps29 rfl ?_
  unfold scrutinylaw13_ExprLaws_c1 at hm
  refine WC_seq ?_
  refine WC_region ?_
  refine WS_box (zs := [(.int .i64 l.op), (.int .i64 l.n), (.int .i64 l.at_), (sl v1)]) hs (Opd.t rfl) rfl rfl ?_
  intro b3 w4 hs
  replace hs := Sat.n5 (Γ := Φ) hs rfl
  refine WS_box (zs := [(.int .i64 r3.op), (.int .i64 r3.n), (.int .i64 r3.at_), (sl v4)]) hs (Opd.t rfl) rfl rfl ?_
  intro b5 w6 hs
  replace hs := Sat.n6 (Γ := Φ) hs rfl
  refine WL_op (Run_assign Opd.c) rfl rfl rfl rfl <| ?_
  refine WL_nil ?_
  refine At_then ?_
  refine WC_seq ?_
  refine WC_region ?_
  refine WL_op (Run_move (Opd.t rfl)) rfl rfl rfl rfl <| WL_op (Run_loadA (vs := [(.int .i64 l.op), (.int .i64 l.n), (.int .i64 l.at_), (sl v1)]) Tryd.underlying24 rfl ti24 (Opd.t rfl) (fun _ => (hs.box (i := 1) rfl).part 0 rfl) rfl) rfl rfl rfl rfl <| WL_op (Run_loadA (vs := [(.int .i64 r3.op), (.int .i64 r3.n), (.int .i64 r3.at_), (sl v4)]) Tryd.underlying24 rfl ti24 (Opd.t rfl) (fun _ => (hs.box (i := 0) rfl).part 0 rfl) rfl) rfl rfl rfl rfl <| ?_
  refine WS_lit (A := RExpr) (xs := [l, r3]) (zs := [(.int .i64 0), (.int .i64 0), (.int .i64 0), (sl (none, 0, 0))]) (cells := [(.int .i64 l.op), (.int .i64 l.n), (.int .i64 l.at_), (sl v1), (.int .i64 r3.op), (.int .i64 r3.n), (.int .i64 r3.at_), (sl v4)]) (parts := [(0, (.tmp 9)), (1, (.tmp 10))]) hs Tryd.underlying22 ti24 rfl rfl rfl (.cons (Opd.t rfl) (.cons (Opd.t rfl) .nil)) (by kernel_rfl) rfl (ARd.cons (A := RExpr) (c := [(.int .i64 l.op), (.int .i64 l.n), (.int .i64 l.at_), (sl v1)]) (x := l) (RExpr_closeE (⟨_, rfl, (hs.sl (i := 2) rfl)⟩)) (ARd.cons (A := RExpr) (c := [(.int .i64 r3.op), (.int .i64 r3.n), (.int .i64 r3.at_), (sl v4)]) (x := r3) (RExpr_closeE (⟨_, rfl, (hs.sl (i := 3) rfl)⟩)) ARd.nil)) rfl ?_
  intro b7 w8 hs
  replace hs := Sat.n7 (Γ := Φ) hs rfl
  refine WL_op (Run_build (parts := [(0, (.tmp 8)), (3, (.tmp 11))]) (v := (.agg #[(.int .i64 op), (.int .i64 0), (.int .i64 0), (sl (some ⟨b7, 0, none⟩, 2, 2))])) (.cons (Opd.t rfl) (.cons (Opd.t rfl) .nil)) (fun _ => by kernel_rfl)) rfl rfl rfl rfl <| WL_op (Run_load1 (v := (sl v7)) Tryd.underlying25 rfl (Opd.t rfl) (fun _ => (hs.box (i := 5) rfl).part 0 rfl)) rfl rfl rfl rfl <| ?_
  replace hs := hs.freeze (i := 0) rfl
  obtain ⟨r9, hr10, hm⟩ := bind_some' hm
  refine WL_call (f := 24) (first := []) (cap := []) (xs := [(.tmp 12), (.tmp 13)]) (vs := [(.agg #[(.int .i64 op), (.int .i64 0), (.int .i64 0), (sl (some ⟨b7, 0, none⟩, 2, 2))]), (sl v7)]) (args := [(.agg #[(.int .i64 op), (.int .i64 0), (.int .i64 0), (sl (some ⟨b7, 0, none⟩, 2, 2))]), (sl v7)]) Tryd.call24 Opd.f (.cons (Opd.t rfl) (.cons (Opd.t rfl) .nil)) rfl rfl (expr_Eval_ok (e := (Ex.mk op 0 0 ([l, r3] : List Ex))) (hs.re 7 [0, 6, 0, 1, 2, 3, 4, 5, 6] rfl) hr10) ?_
  rintro _ w11 ⟨rfl, hs⟩
  replace hs := Sat.n7 (Γ := Φ) hs rfl
  refine WL_op (Run_assign (Opd.t rfl)) rfl rfl rfl rfl <| ?_
  refine WL_nil ?_
  refine At_then ?_
  refine WC_ret ?_
  refine At_r1 rfl (ResIs.t rfl) ?_
  cases hm
  exact ⟨rfl, (hs.re 7 [5, 6] rfl)⟩

set_option maxRecDepth 100000 in
set_option maxHeartbeats 4000000 in
theorem scrutinylaw13_ExprLaws_c2_ok {Φ : Ctx} {w : World} {e : Ex} {x : (List Int)} {v1 : SLV} {b : Nat} {v4 : SLV} {r : Int} (hs : Sat (imm (RSl RExpr) [sl v1] e.l :: box b 25 [(sl v4)] :: imm (RSl (RI .i64)) [sl v4] x :: Φ) w) (hm : scrutinylaw13_ExprLaws_c2 e x = some r) :
    CallsR Tryd.prog 30 [(.agg #[(.int .i64 e.op), (.int .i64 e.n), (.int .i64 e.at_), (sl v1)]), (.pointer (some ⟨b, 0, none⟩))] w (fun v w' => v = (.int .i64 r) ∧ Sat (box b 25 [(sl v4)] :: imm (RSl (RI .i64)) [sl v4] x :: Φ) w') := by
  refine CallsX_enter Tryd.func30 rfl Tryd.ntmps30 rfl ?_
  unfold scrutinylaw13_ExprLaws_c2 at hm
  refine WC_seq ?_
  refine WC_region ?_
  refine WS_box (zs := [(.int .i64 e.op), (.int .i64 e.n), (.int .i64 e.at_), (sl v1)]) hs (Opd.t rfl) rfl rfl ?_
  intro b3 w4 hs
  replace hs := Sat.n4 (Γ := Φ) hs rfl
  refine WL_op (Run_assign Opd.c) rfl rfl rfl rfl <| ?_
  refine WL_nil ?_
  refine At_then ?_
  refine WC_seq ?_
  refine WC_region ?_
  refine WL_op (Run_loadA (vs := [(.int .i64 e.op), (.int .i64 e.n), (.int .i64 e.at_), (sl v1)]) Tryd.underlying24 rfl ti24 (Opd.t rfl) (fun _ => (hs.box (i := 0) rfl).part 0 rfl) rfl) rfl rfl rfl rfl <| ?_
  refine WS_lit (A := RExpr) (xs := [e]) (zs := [(.int .i64 0), (.int .i64 0), (.int .i64 0), (sl (none, 0, 0))]) (cells := [(.int .i64 e.op), (.int .i64 e.n), (.int .i64 e.at_), (sl v1)]) (parts := [(0, (.tmp 4))]) hs Tryd.underlying22 ti24 rfl rfl rfl (.cons (Opd.t rfl) .nil) (by kernel_rfl) rfl (ARd.cons (A := RExpr) (c := [(.int .i64 e.op), (.int .i64 e.n), (.int .i64 e.at_), (sl v1)]) (x := e) (RExpr_closeE (⟨_, rfl, (hs.sl (i := 1) rfl)⟩)) ARd.nil) rfl ?_
  intro b5 w6 hs
  replace hs := Sat.n5 (Γ := Φ) hs rfl
  refine WL_op (Run_build (parts := [(0, (.const (.int .i64 15))), (3, (.tmp 5))]) (v := (.agg #[(.int .i64 15), (.int .i64 0), (.int .i64 0), (sl (some ⟨b5, 0, none⟩, 1, 1))])) (.cons Opd.c (.cons (Opd.t rfl) .nil)) (fun _ => by kernel_rfl)) rfl rfl rfl rfl <| WL_op (Run_load1 (v := (sl v4)) Tryd.underlying25 rfl (Opd.t rfl) (fun _ => (hs.box (i := 3) rfl).part 0 rfl)) rfl rfl rfl rfl <| ?_
  replace hs := hs.freeze (i := 0) rfl
  obtain ⟨r7, hr8, hm⟩ := bind_some' hm
  refine WL_call (f := 24) (first := []) (cap := []) (xs := [(.tmp 6), (.tmp 7)]) (vs := [(.agg #[(.int .i64 15), (.int .i64 0), (.int .i64 0), (sl (some ⟨b5, 0, none⟩, 1, 1))]), (sl v4)]) (args := [(.agg #[(.int .i64 15), (.int .i64 0), (.int .i64 0), (sl (some ⟨b5, 0, none⟩, 1, 1))]), (sl v4)]) Tryd.call24 Opd.f (.cons (Opd.t rfl) (.cons (Opd.t rfl) .nil)) rfl rfl (expr_Eval_ok (e := (Ex.mk 15 0 0 ([e] : List Ex))) (hs.re 5 [0, 4, 0, 1, 2, 3, 4] rfl) hr8) ?_
  rintro _ w9 ⟨rfl, hs⟩
  replace hs := Sat.n5 (Γ := Φ) hs rfl
  refine WL_op (Run_assign (Opd.t rfl)) rfl rfl rfl rfl <| ?_
  refine WL_nil ?_
  refine At_then ?_
  refine WC_ret ?_
  refine At_r1 rfl (ResIs.t rfl) ?_
  cases hm
  exact ⟨rfl, (hs.re 5 [3, 4] rfl)⟩

end Go.Proofs.YtmeombbmhpcacaaDoor
