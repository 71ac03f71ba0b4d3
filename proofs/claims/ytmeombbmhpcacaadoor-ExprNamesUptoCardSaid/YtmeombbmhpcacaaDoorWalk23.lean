/- Printed by a program: the walks. -/
import Derived.Test.YtmeombbmhpcacaaDoorTypes
import Derived.Test.YtmeombbmhpcacaaDoorWalk1
import Derived.Test.YtmeombbmhpcacaaDoorWalk8
import Derived.Test.YtmeombbmhpcacaaDoorWalk10
import Derived.Test.YtmeombbmhpcacaaDoorWalk11
import Derived.Test.YtmeombbmhpcacaaDoorWalk12
import Derived.Test.YtmeombbmhpcacaaDoorWalk13
namespace Go.Proofs.YtmeombbmhpcacaaDoor
open Go.Proofs

set_option maxRecDepth 100000 in
set_option maxHeartbeats 4000000 in
theorem scrutinylaw13_ExprNames_ok {Φ : Ctx} {w : World} {e : Ex} {v1 : SLV} {r : Bool} (hs : Sat (imm (RSl RExpr) [sl v1] e.l :: gl 0 (keysL.map S) :: gl 1 (textsL.map S) :: gl 2 (pow10L.map (Value.int .u64)) :: Φ) w) (hm : scrutinylaw13_ExprNames e = some r) :
    CallsR Tryd.prog 9 [(.agg #[(.int .i64 e.op), (.int .i64 e.n), (.int .i64 e.at_), (sl v1)])] w (fun v w' => v = (.bool r) ∧ Sat (Φ) w') := by
  refine CallsX_enter Tryd.func9 rfl Tryd.ntmps9 rfl ?_
  unfold scrutinylaw13_ExprNames at hm
  refine WC_seq ?_
  refine WC_region ?_
  refine WS_box (zs := [(.int .i64 e.op), (.int .i64 e.n), (.int .i64 e.at_), (sl v1)]) hs (Opd.t rfl) rfl rfl ?_
  intro b3 w4 hs
  replace hs := Sat.n5 (Γ := Φ) hs rfl
  refine WL_op (Run_assign Opd.c) rfl rfl rfl rfl <| ?_
  refine WL_nil ?_
  refine At_then ?_
  refine WC_seq ?_
  refine WC_region ?_
  obtain ⟨r5, hr6, hm⟩ := bind_some' hm
  refine WL_call (f := 10) (first := []) (cap := []) (xs := []) (vs := []) (args := []) Tryd.call10 Opd.f .nil rfl rfl (scrutinylaw13_shown_ok (hs.re 5 [2, 3, 4, 0, 1, 2, 3, 4] rfl) hr6) ?_
  rintro _ w7 ⟨rfl, hs⟩
  replace hs := Sat.n5 (Γ := Φ) hs rfl
  refine WL_op (Run_assign (Opd.t rfl)) rfl rfl rfl rfl <| ?_
  refine WL_nil ?_
  refine At_then ?_
  refine WC_seq ?_
  refine WC_seq ?_
  refine WC_region ?_
  refine WL_op (Run_loadA (vs := [(.int .i64 e.op), (.int .i64 e.n), (.int .i64 e.at_), (sl v1)]) Tryd.underlying24 rfl ti24 (Opd.t rfl) (fun _ => (hs.box (i := 0) rfl).part 0 rfl) rfl) rfl rfl rfl rfl <| ?_
  obtain ⟨r8, hr9, hm⟩ := bind_some' hm
  refine WL_call (f := 11) (first := []) (cap := []) (xs := [(.tmp 19)]) (vs := [(.agg #[(.int .i64 e.op), (.int .i64 e.n), (.int .i64 e.at_), (sl v1)])]) (args := [(.agg #[(.int .i64 e.op), (.int .i64 e.n), (.int .i64 e.at_), (sl v1)])]) Tryd.call11 Opd.f (.cons (Opd.t rfl) .nil) rfl rfl (scrutinyref13_Few_ok (hs.re 5 [1, 0, 1, 2, 3, 4] rfl) hr9) ?_
  rintro _ w10 ⟨rfl, hs⟩
  replace hs := Sat.n5 (Γ := Φ) hs rfl
  obtain ⟨b11, e12, hm⟩ := letv_some hm
  refine WL_op (Run.eqB (Run_notB (Opd.t rfl)) e12) rfl rfl rfl rfl <| WL_op (Run_move (Opd.t rfl)) rfl rfl rfl rfl <| WL_opG rfl rfl rfl rfl guard_neg (Run_loadA (vs := [(.int .i64 e.op), (.int .i64 e.n), (.int .i64 e.at_), (sl v1)]) Tryd.underlying24 rfl ti24 (Opd.t rfl) (fun _ => (hs.box (i := 0) rfl).part 0 rfl) rfl) rfl rfl rfl <| ?_
  obtain ⟨r13, hr14, -, hm⟩ := callG_some hm
  refine WL_callG rfl rfl rfl guard_neg (f := 18) (first := []) (cap := []) (xs := [(.tmp 23), (.const (.int .i64 3))]) (vs := [(.agg #[(.int .i64 e.op), (.int .i64 e.n), (.int .i64 e.at_), (sl v1)]), (.int .i64 3)]) (args := [(.agg #[(.int .i64 e.op), (.int .i64 e.n), (.int .i64 e.at_), (sl v1)]), (.int .i64 3)]) Tryd.call18 Opd.f (.cons (Opd.g rfl id) (.cons Opd.c .nil)) rfl rfl (fun hg => scrutinyref13_May_ok (hs.re 5 [1, 0, 1, 2, 3, 4] rfl) (hr14 hg)) ?_
  intro v16 w15 hv17 hz18
  replace hs := Sat.ofG (fun hg => (hv17 hg).2.re 5 [0, 1, 2, 3, 4] rfl) hz18 hs
  refine WL_sub1 (v := (.bool r13)) (fun hg => (hv17 hg).1) ?_
  replace hs := Sat.n5 (Γ := Φ) hs rfl
  obtain ⟨b19, e20, hm⟩ := letv_some hm
  refine WL_opG rfl rfl rfl rfl guard_neg (Run.eqB (Run_notB (Opd.g rfl id)) e20) rfl rfl rfl <| ?_
  obtain ⟨b21, e22, hm⟩ := letv_some hm
  refine WL_op (Run.eqB (Run_or (Opd.t rfl) (Opd.g rfl id)) e22) rfl rfl rfl rfl <| ?_
  refine WL_nil ?_
  refine At_then ?_
  refine WC_cond (Opd.t rfl) (fun hc23 => ?_) (fun hc23 => ?_)
  ·
    replace hm := bif_t hc23 hm
    refine WC_seq ?_
    refine WC_region ?_
    refine WL_op (Run_move (Opd.t rfl)) rfl rfl rfl rfl <| WL_op (Run_assign (Opd.t rfl)) rfl rfl rfl rfl <| ?_
    refine WL_nil ?_
    refine At_then ?_
    refine WC_ret ?_
    refine At_then_ret <| ?_
    refine At_r1 rfl (ResIs.t rfl) ?_
    cases hm
    exact ⟨rfl, (hs.re 5 [] rfl)⟩
  ·
    replace hm := bif_f hc23 hm
    refine WC_skip ?_
    refine At_then ?_
    refine WC_seq ?_
    refine WC_region ?_
    refine WS_lit (A := RS) (xs := [[108, 111, 110, 103, 95, 110, 97, 109, 101], [81], [95]]) (zs := [(S [])]) (cells := [(S [108, 111, 110, 103, 95, 110, 97, 109, 101]), (S [81]), (S [95])]) (parts := [(0, (.const (.string ⟨#[108, 111, 110, 103, 95, 110, 97, 109, 101]⟩))), (1, (.const (.string ⟨#[81]⟩))), (2, (.const (.string ⟨#[95]⟩)))]) hs Tryd.underlying40 ti9 rfl rfl rfl (.cons Opd.c (.cons Opd.c (.cons Opd.c .nil))) (by kernel_rfl) rfl (ARd.cons (A := RS) (c := [(S [108, 111, 110, 103, 95, 110, 97, 109, 101])]) (x := [108, 111, 110, 103, 95, 110, 97, 109, 101]) rfl (ARd.cons (A := RS) (c := [(S [81])]) (x := [81]) rfl (ARd.cons (A := RS) (c := [(S [95])]) (x := [95]) rfl ARd.nil))) rfl ?_
    intro b24 w25 hs
    replace hs := Sat.n6 (Γ := Φ) hs rfl
    refine WL_op (Run_assign (Opd.t rfl)) rfl rfl rfl rfl <| ?_
    refine WL_nil ?_
    refine At_then ?_
    refine WC_seq ?_
    refine WC_region ?_
    refine WL_op (Run_loadA (vs := [(.int .i64 e.op), (.int .i64 e.n), (.int .i64 e.at_), (sl v1)]) Tryd.underlying24 rfl ti24 (Opd.t rfl) (fun _ => (hs.box (i := 1) rfl).part 0 rfl) rfl) rfl rfl rfl rfl <| WL_op (Run_move (Opd.t rfl)) rfl rfl rfl rfl <| ?_
    replace hs := hs.freeze (i := 0) rfl
    obtain ⟨r26, hr27, hm⟩ := bind_some' hm
    refine WL_call (f := 21) (first := []) (cap := []) (xs := [(.tmp 30), (.tmp 31)]) (vs := [(.agg #[(.int .i64 e.op), (.int .i64 e.n), (.int .i64 e.at_), (sl v1)]), (sl (some ⟨b24, 0, none⟩, 3, 3))]) (args := [(.agg #[(.int .i64 e.op), (.int .i64 e.n), (.int .i64 e.at_), (sl v1)]), (sl (some ⟨b24, 0, none⟩, 3, 3))]) Tryd.call21 Opd.f (.cons (Opd.t rfl) (.cons (Opd.t rfl) .nil)) rfl rfl (expr_Show_ok (hs.re 6 [2, 0, 4, 5, 0, 1, 2, 3, 4, 5] rfl) hr27) ?_
    rintro _ w28 ⟨rfl, hs⟩
    replace hs := Sat.n6 (Γ := Φ) hs rfl
    obtain ⟨r29, hr30, hm⟩ := bind_some' hm
    refine WL_call (f := 26) (first := []) (cap := []) (xs := [(.tmp 32)]) (vs := [(S r26)]) (args := [(S r26)]) Tryd.call26 Opd.f (.cons (Opd.t rfl) .nil) rfl rfl (scrutinyref12_Tokens_ok (hs.re 6 [0, 1, 2, 3, 4, 5] rfl) hr30) ?_
    rintro _ w33 ⟨v31, R32, rfl, hs⟩
    replace hs := Sat.n7 (Γ := Φ) hs rfl
    refine WL_op (Run_move (Opd.t rfl)) rfl rfl rfl rfl <| WL_op (Run_extract (vs := [(sl v31), (.int .i64 r29.2.1), (.int .i64 r29.2.2)]) (Opd.t rfl) rfl) rfl rfl rfl rfl <| WL_op (Run_extract (vs := [(sl v31), (.int .i64 r29.2.1), (.int .i64 r29.2.2)]) (Opd.t rfl) rfl) rfl rfl rfl rfl <| WL_op (Run_extract (vs := [(sl v31), (.int .i64 r29.2.1), (.int .i64 r29.2.2)]) (Opd.t rfl) rfl) rfl rfl rfl rfl <| WL_op (Run_assign (Opd.t rfl)) rfl rfl rfl rfl <| WL_op (Run_assign (Opd.t rfl)) rfl rfl rfl rfl <| WL_op (Run_assign (Opd.t rfl)) rfl rfl rfl rfl <| ?_
    refine WL_nil ?_
    refine At_then ?_
    refine WC_seq ?_
    refine WC_seq ?_
    refine WC_region ?_
    refine WL_op (Run_move (Opd.t rfl)) rfl rfl rfl rfl <| ?_
    obtain ⟨b34, e35, hm⟩ := letv_some hm
    refine WL_op (Run.eqB (Run_neI (Opd.t rfl) Opd.c) e35) rfl rfl rfl rfl <| WL_op (Run_move (Opd.t rfl)) rfl rfl rfl rfl <| WL_opG rfl rfl rfl rfl guard_neg (Run_move (Opd.t rfl)) rfl rfl rfl <| WL_opG rfl rfl rfl rfl guard_neg (Run_lenSlG Tryd.underlying44 (Opd.g rfl id) (fun _ => (hs.own (i := 0) rfl).len)) rfl rfl rfl <| ?_
    obtain ⟨b36, e37, hm⟩ := letv_some hm
    refine WL_opG rfl rfl rfl rfl guard_neg (Run.eqB (Run_eqI (Opd.g rfl id) Opd.c) e37) rfl rfl rfl <| ?_
    obtain ⟨b38, e39, hm⟩ := letv_some hm
    refine WL_op (Run.eqB (Run_or (Opd.t rfl) (Opd.g rfl id)) e39) rfl rfl rfl rfl <| ?_
    refine WL_nil ?_
    refine At_then ?_
    refine WC_cond (Opd.t rfl) (fun hc40 => ?_) (fun hc40 => ?_)
    ·
      replace hm := bif_t hc40 hm
      refine WC_seq ?_
      refine WC_region ?_
      refine WL_op (Run_assign Opd.c) rfl rfl rfl rfl <| ?_
      refine WL_nil ?_
      refine At_then ?_
      refine WC_ret ?_
      refine At_then_ret <| ?_
      refine At_r1 rfl (ResIs.t rfl) ?_
      cases hm
      exact ⟨rfl, (hs.re 7 [] rfl)⟩
    ·
      replace hm := bif_f hc40 hm
      refine WC_skip ?_
      refine At_then ?_
      refine WC_seq ?_
      refine WC_region ?_
      refine WL_op (Run_move (Opd.t rfl)) rfl rfl rfl rfl <| WL_op (Run_move (Opd.t rfl)) rfl rfl rfl rfl <| ?_
      replace hs := hs.freeze (i := 0) rfl
      obtain ⟨r41, hr42, hm⟩ := bind_some' hm
      refine WL_call (f := 27) (first := []) (cap := []) (xs := [(.tmp 45), (.const (.int .i64 0)), (.tmp 46)]) (vs := [(sl v31), (.int .i64 0), (sl (some ⟨b24, 0, none⟩, 3, 3))]) (args := [(sl v31), (.int .i64 0), (sl (some ⟨b24, 0, none⟩, 3, 3))]) Tryd.call27 Opd.f (.cons (Opd.t rfl) (.cons Opd.c (.cons (Opd.t rfl) .nil))) rfl rfl (expr_Parse_ok (hs.re 7 [0, 1, 4, 5, 0, 1, 2, 3, 4, 5, 6] rfl) hr42) ?_
      rintro _ w45 ⟨v43, R44, rfl, hs⟩
      replace hs := Sat.n8 (Γ := Φ) hs rfl
      refine WL_op (Run_move (Opd.t rfl)) rfl rfl rfl rfl <| WL_op (Run_extract (vs := [(.agg #[(.int .i64 r41.1.op), (.int .i64 r41.1.n), (.int .i64 r41.1.at_), (sl v43)]), (.int .i64 r41.2.1), (.int .i64 r41.2.2.1), (.int .i64 r41.2.2.2)]) (Opd.t rfl) rfl) rfl rfl rfl rfl <| WL_op (Run_extract (vs := [(.agg #[(.int .i64 r41.1.op), (.int .i64 r41.1.n), (.int .i64 r41.1.at_), (sl v43)]), (.int .i64 r41.2.1), (.int .i64 r41.2.2.1), (.int .i64 r41.2.2.2)]) (Opd.t rfl) rfl) rfl rfl rfl rfl <| WL_op (Run_extract (vs := [(.agg #[(.int .i64 r41.1.op), (.int .i64 r41.1.n), (.int .i64 r41.1.at_), (sl v43)]), (.int .i64 r41.2.1), (.int .i64 r41.2.2.1), (.int .i64 r41.2.2.2)]) (Opd.t rfl) rfl) rfl rfl rfl rfl <| WL_op (Run_extract (vs := [(.agg #[(.int .i64 r41.1.op), (.int .i64 r41.1.n), (.int .i64 r41.1.at_), (sl v43)]), (.int .i64 r41.2.1), (.int .i64 r41.2.2.1), (.int .i64 r41.2.2.2)]) (Opd.t rfl) rfl) rfl rfl rfl rfl <| ?_
      refine WS_alloc (zs := [(.int .i64 0), (.int .i64 0), (.int .i64 0), (sl (none, 0, 0))]) hs ti24 rfl rfl ?_
      intro b46 w47 hs
      replace hs := Sat.n9 (Γ := Φ) hs rfl
      refine WS_store (us := [(.int .i64 r41.1.op), (.int .i64 r41.1.n), (.int .i64 r41.1.at_), (sl v43)]) (vs' := [(.int .i64 r41.1.op), (.int .i64 r41.1.n), (.int .i64 r41.1.at_), (sl v43)]) hs 0 rfl ti24 (Opd.t rfl) (Opd.t rfl) rfl rfl rfl rfl rfl ?_
      intro w48 hs
      replace hs := Sat.n9 (Γ := Φ) hs rfl
      refine WL_op (Run_assign (Opd.t rfl)) rfl rfl rfl rfl <| WL_op (Run_assign (Opd.t rfl)) rfl rfl rfl rfl <| WL_op (Run_assign (Opd.t rfl)) rfl rfl rfl rfl <| ?_
      refine WL_nil ?_
      refine At_then ?_
      refine WC_seq ?_
      refine WC_region ?_
      refine WL_op (Run_move (Opd.t rfl)) rfl rfl rfl rfl <| WL_op (Run_move (Opd.t rfl)) rfl rfl rfl rfl <| ?_
      obtain ⟨k52, hm⟩ := chk_some hm
      obtain ⟨v50, hv49, h51⟩ := SRd.cutS (A := RS) (M := Ctx.M _) (fun _ => hs.sl (i := 3) rfl) (fun _ => k52)
      refine WL_op (Run_cutSl (lo := none) (hi := (some (.const (.int .i64 0)))) Tryd.underlying40 ti9 (Opd.t rfl) (fun hg => (hs.sl (i := 3) rfl).len) rfl ⟨_, Opd.c⟩ hv49) rfl rfl rfl rfl <| ?_
      replace hs := hs.addS (h51 rfl)
      obtain ⟨r53, hr54, hm⟩ := bind_some' hm
      refine WL_call (f := 27) (first := []) (cap := []) (xs := [(.tmp 53), (.const (.int .i64 0)), (.tmp 55)]) (vs := [(sl v31), (.int .i64 0), (sl v50)]) (args := [(sl v31), (.int .i64 0), (sl v50)]) Tryd.call27 Opd.f (.cons (Opd.t rfl) (.cons Opd.c (.cons (Opd.t rfl) .nil))) rfl rfl (expr_Parse_ok (hs.re 10 [3, 0, 7, 8, 0, 1, 2, 3, 4, 5, 6, 7, 8, 9] rfl) hr54) ?_
      rintro _ w57 ⟨v55, R56, rfl, hs⟩
      replace hs := Sat.n11 (Γ := Φ) hs rfl
      refine WL_op (Run_move (Opd.t rfl)) rfl rfl rfl rfl <| WL_op (Run_extract (vs := [(.agg #[(.int .i64 r53.1.op), (.int .i64 r53.1.n), (.int .i64 r53.1.at_), (sl v55)]), (.int .i64 r53.2.1), (.int .i64 r53.2.2.1), (.int .i64 r53.2.2.2)]) (Opd.t rfl) rfl) rfl rfl rfl rfl <| WL_op (Run_extract (vs := [(.agg #[(.int .i64 r53.1.op), (.int .i64 r53.1.n), (.int .i64 r53.1.at_), (sl v55)]), (.int .i64 r53.2.1), (.int .i64 r53.2.2.1), (.int .i64 r53.2.2.2)]) (Opd.t rfl) rfl) rfl rfl rfl rfl <| WL_op (Run_extract (vs := [(.agg #[(.int .i64 r53.1.op), (.int .i64 r53.1.n), (.int .i64 r53.1.at_), (sl v55)]), (.int .i64 r53.2.1), (.int .i64 r53.2.2.1), (.int .i64 r53.2.2.2)]) (Opd.t rfl) rfl) rfl rfl rfl rfl <| WL_op (Run_extract (vs := [(.agg #[(.int .i64 r53.1.op), (.int .i64 r53.1.n), (.int .i64 r53.1.at_), (sl v55)]), (.int .i64 r53.2.1), (.int .i64 r53.2.2.1), (.int .i64 r53.2.2.2)]) (Opd.t rfl) rfl) rfl rfl rfl rfl <| ?_
      refine WS_alloc (zs := [(.int .i64 0), (.int .i64 0), (.int .i64 0), (sl (none, 0, 0))]) hs ti24 rfl rfl ?_
      intro b58 w59 hs
      replace hs := Sat.n12 (Γ := Φ) hs rfl
      refine WS_store (us := [(.int .i64 r53.1.op), (.int .i64 r53.1.n), (.int .i64 r53.1.at_), (sl v55)]) (vs' := [(.int .i64 r53.1.op), (.int .i64 r53.1.n), (.int .i64 r53.1.at_), (sl v55)]) hs 0 rfl ti24 (Opd.t rfl) (Opd.t rfl) rfl rfl rfl rfl rfl ?_
      intro w60 hs
      replace hs := Sat.n12 (Γ := Φ) hs rfl
      refine WL_op (Run_assign (Opd.t rfl)) rfl rfl rfl rfl <| WL_op (Run_assign (Opd.t rfl)) rfl rfl rfl rfl <| WL_op (Run_assign (Opd.t rfl)) rfl rfl rfl rfl <| ?_
      refine WL_nil ?_
      refine At_then ?_
      refine WC_seq ?_
      refine WC_region ?_
      refine WL_op (Run_assign Opd.c) rfl rfl rfl rfl <| ?_
      refine WL_nil ?_
      refine At_then ?_
      refine WC_seq ?_
      refine WC_seq ?_
      refine WC_region ?_
      refine WL_op (Run_assign Opd.c) rfl rfl rfl rfl <| ?_
      refine WL_nil ?_
      refine At_then ?_
      refine WC_block ?_
      refine WC_loop (σ := Int × Int) (γ := Unit) (F := (scrutinylaw13_ExprNames_L1 e r5 r29 r41 r53)) (N := FUEL) (s0 := ((-1), 0)) (r := r) (fun ⟨first62, i63⟩ (_ : Unit) w61 => Sat (box b3 24 [(.int .i64 e.op), (.int .i64 e.n), (.int .i64 e.at_), (sl v1)] :: imm (RSl RExpr) [sl v1] e.l :: imm (RSl (RP (RI .i64) (RP RS (RP (RI .i64) (RI .i64))))) [sl v31] r29.1 :: box b46 24 [(.int .i64 r41.1.op), (.int .i64 r41.1.n), (.int .i64 r41.1.at_), (sl v43)] :: osl RExpr 24 (sl v43) r41.1.l R44 :: gl 0 (keysL.map S) :: gl 1 (textsL.map S) :: gl 2 (pow10L.map (Value.int .u64)) :: Φ) w61) (fun ⟨first62, i63⟩ (_ : Unit) => [(1, true, (.pointer (some ⟨b3, 0, none⟩))), (3, true, (.bool r5)), (5, true, (sl v31)), (8, true, (.pointer (some ⟨b46, 0, none⟩))), (10, true, (.int .i64 r41.2.2.1)), (14, true, (.int .i64 r53.2.2.1)), (15, true, (.int .i64 r53.2.2.2)), (16, true, (.int .i64 first62)), (17, true, (.int .i64 i63))]) hm () (hs.re 12 [7, 8, 5, 3, 4, 9, 10, 11] rfl) rfl ?_
      rintro again64 ⟨first62, i63⟩ _ w61 hm hs
      unfold scrutinylaw13_ExprNames_L1 at hm
      dsimp only at hm
      refine WC_seq ?_
      refine WC_seq ?_
      refine WC_region ?_
      refine WL_op (Run_move (Opd.t rfl)) rfl rfl rfl rfl <| WL_op (Run_move (Opd.t rfl)) rfl rfl rfl rfl <| WL_op (Run_lenSlG Tryd.underlying44 (Opd.t rfl) (fun hg => (hs.sl (i := 2) rfl).len)) rfl rfl rfl rfl <| WL_op (Run_ltI (Opd.t rfl) (Opd.t rfl)) rfl rfl rfl rfl <| ?_
      refine WL_nil ?_
      refine At_then ?_
      refine WC_cond (Opd.t rfl) (fun hc65 => ?_) (fun hc65 => ?_)
      ·
        replace hm := bif_t hc65 hm
        refine WC_skip ?_
        refine At_then ?_
        refine WC_seq ?_
        refine WC_block ?_
        refine WC_seq ?_
        refine WC_region ?_
        refine WL_op (Run_move (Opd.t rfl)) rfl rfl rfl rfl <| WL_op (Run_move (Opd.t rfl)) rfl rfl rfl rfl <| ?_
        obtain ⟨e66, he67, hm⟩ := bind_some' hm
        refine WL_op (Run_idxAddr (p := (elA (sl v31) i63 4)) Tryd.underlying44 ti60 (Opd.t rfl) (Opd.t rfl) (fun hg => (SRd.atA (A := (RP (RI .i64) (RP RS (RP (RI .i64) (RI .i64))))) (v := (sl v31)) (hs.sl (i := 2) rfl) he67).1)) rfl rfl rfl rfl <| WL_op (Run_fieldAddr fo60_0 (Opd.t rfl)) rfl rfl rfl rfl <| WL_op (Run_load1 (v := (.int .i64 e66.1)) Tryd.underlying3 rfl (Opd.t rfl) (fun hg => ((SRd.cellsF (A := (RP (RI .i64) (RP RS (RP (RI .i64) (RI .i64))))) (v := (sl v31)) (hs.sl (i := 2) rfl) he67 (fun _ h => openT60 h)).sub (us := [(.int .i64 e66.1)]) 0 rfl).sub 0 rfl)) rfl rfl rfl rfl <| ?_
        obtain ⟨b68, e69, hm⟩ := letv_some hm
        refine WL_op (Run.eqB (Run_eqI (Opd.t rfl) Opd.c) e69) rfl rfl rfl rfl <| WL_op (Run_move (Opd.t rfl)) rfl rfl rfl rfl <| WL_opG rfl rfl rfl rfl guard_pos (Run_move (Opd.t rfl)) rfl rfl rfl <| WL_opG rfl rfl rfl rfl guard_pos (Run_move (Opd.t rfl)) rfl rfl rfl <| ?_
        obtain ⟨e70, he71, -, hm⟩ := callG_some hm
        refine WL_opG rfl rfl rfl rfl guard_pos (Run_idxAddr (p := (elA (sl v31) i63 4)) Tryd.underlying44 ti60 (Opd.g rfl id) (Opd.g rfl id) (fun hg => (SRd.atA (A := (RP (RI .i64) (RP RS (RP (RI .i64) (RI .i64))))) (v := (sl v31)) (hs.sl (i := 2) rfl) (he71 hg)).1)) rfl rfl rfl <| WL_opG rfl rfl rfl rfl guard_pos (Run_fieldAddr fo60_1 (Opd.g rfl id)) rfl rfl rfl <| WL_opG rfl rfl rfl rfl guard_pos (Run_load1 (v := (S e70.2.1)) Tryd.underlying9 rfl (Opd.g rfl id) (fun hg => ((SRd.cellsF (A := (RP (RI .i64) (RP RS (RP (RI .i64) (RI .i64))))) (v := (sl v31)) (hs.sl (i := 2) rfl) (he71 hg) (fun _ h => openT60 h)).sub (us := [(S e70.2.1)]) 1 rfl).sub 0 rfl)) rfl rfl rfl <| ?_
        obtain ⟨r72, hr73, -, hm⟩ := callG_some hm
        refine WL_callG rfl rfl rfl guard_pos (f := 13) (first := []) (cap := []) (xs := [(.tmp 78)]) (vs := [(S e70.2.1)]) (args := [(S e70.2.1)]) Tryd.call13 Opd.f (.cons (Opd.g rfl id) .nil) rfl rfl (fun hg => scrutinyref13_Key_ok (hs.re 8 [0, 1, 2, 3, 4, 5, 6, 7] rfl) (hr73 hg)) ?_
        intro v75 w74 hv76 hz77
        replace hs := Sat.ofG (fun hg => (hv76 hg).2.re 8 [0, 1, 2, 3, 4, 5, 6, 7] rfl) hz77 hs
        refine WL_sub1 (v := (.bool r72)) (fun hg => (hv76 hg).1) ?_
        replace hs := Sat.n8 (Γ := Φ) hs rfl
        obtain ⟨b78, e79, hm⟩ := letv_some hm
        refine WL_opG rfl rfl rfl rfl guard_pos (Run.eqB (Run_notB (Opd.g rfl id)) e79) rfl rfl rfl <| ?_
        obtain ⟨b80, e81, hm⟩ := letv_some hm
        refine WL_op (Run.eqB (Run_and (Opd.t rfl) (Opd.g rfl id)) e81) rfl rfl rfl rfl <| WL_op (Run_move (Opd.t rfl)) rfl rfl rfl rfl <| WL_opG rfl rfl rfl rfl guard_pos (Run_move (Opd.t rfl)) rfl rfl rfl <| ?_
        obtain ⟨b82, e83, hm⟩ := letv_some hm
        refine WL_opG rfl rfl rfl rfl guard_pos (Run.eqB (Run_ltI (Opd.g rfl id) Opd.c) e83) rfl rfl rfl <| ?_
        obtain ⟨b84, e85, hm⟩ := letv_some hm
        refine WL_op (Run.eqB (Run_and (Opd.t rfl) (Opd.g rfl id)) e85) rfl rfl rfl rfl <| ?_
        refine WL_nil ?_
        refine At_then ?_
        refine WC_cond (Opd.t rfl) (fun hc86 => ?_) (fun hc86 => ?_)
        ·
          replace hm := bif_t hc86 hm
          refine WC_region ?_
          refine WL_op (Run_move (Opd.t rfl)) rfl rfl rfl rfl <| WL_op (Run_move (Opd.t rfl)) rfl rfl rfl rfl <| ?_
          obtain ⟨e87, he88, hm⟩ := bind_some' hm
          refine WL_op (Run_idxAddr (p := (elA (sl v31) i63 4)) Tryd.underlying44 ti60 (Opd.t rfl) (Opd.t rfl) (fun hg => (SRd.atA (A := (RP (RI .i64) (RP RS (RP (RI .i64) (RI .i64))))) (v := (sl v31)) (hs.sl (i := 2) rfl) he88).1)) rfl rfl rfl rfl <| WL_op (Run_fieldAddr fo60_3 (Opd.t rfl)) rfl rfl rfl rfl <| WL_op (Run_load1 (v := (.int .i64 e87.2.2.2)) Tryd.underlying3 rfl (Opd.t rfl) (fun hg => ((SRd.cellsF (A := (RP (RI .i64) (RP RS (RP (RI .i64) (RI .i64))))) (v := (sl v31)) (hs.sl (i := 2) rfl) he88 (fun _ h => openT60 h)).sub (us := [(.int .i64 e87.2.2.2)]) 3 rfl).sub 0 rfl)) rfl rfl rfl rfl <| WL_op (Run_assign (Opd.t rfl)) rfl rfl rfl rfl <| ?_
          refine WL_nil ?_
          refine At_blk_normal ?_
          refine At_then ?_
          refine WC_region ?_
          refine WL_op (Run_move (Opd.t rfl)) rfl rfl rfl rfl <| WL_op (Run_add (Opd.t rfl) Opd.c) rfl rfl rfl rfl <| WL_op (Run_assign (Opd.t rfl)) rfl rfl rfl rfl <| ?_
          refine WL_nil ?_
          exact At_again (e87.2.2.2, (IntKind.i64.wrap (i63 + 1))) () hm (hs.re 8 [0, 1, 2, 3, 4, 5, 6, 7] rfl) rfl
        ·
          replace hm := bif_f hc86 hm
          refine WC_skip ?_
          refine At_blk_normal ?_
          refine At_then ?_
          refine WC_region ?_
          refine WL_op (Run_move (Opd.t rfl)) rfl rfl rfl rfl <| WL_op (Run_add (Opd.t rfl) Opd.c) rfl rfl rfl rfl <| WL_op (Run_assign (Opd.t rfl)) rfl rfl rfl rfl <| ?_
          refine WL_nil ?_
          exact At_again (first62, (IntKind.i64.wrap (i63 + 1))) () hm (hs.re 8 [0, 1, 2, 3, 4, 5, 6, 7] rfl) rfl
      ·
        replace hm := bif_f hc65 hm
        refine WC_exit ?_
        refine At_then_exit <| At_then_exit <| At_blk_here <| ?_
        refine At_then ?_
        refine WC_seq ?_
        refine WC_region ?_
        refine WL_op (Run_move (Opd.t rfl)) rfl rfl rfl rfl <| WL_op (Run_move (Opd.t rfl)) rfl rfl rfl rfl <| WL_opG rfl rfl rfl rfl guard_pos (Run_move (Opd.t rfl)) rfl rfl rfl <| ?_
        obtain ⟨b89, e90, hm⟩ := letv_some hm
        refine WL_opG rfl rfl rfl rfl guard_pos (Run.eqB (Run_eqI (Opd.g rfl id) Opd.c) e90) rfl rfl rfl <| ?_
        obtain ⟨b91, e92, hm⟩ := letv_some hm
        refine WL_op (Run.eqB (Run_and (Opd.t rfl) (Opd.g rfl id)) e92) rfl rfl rfl rfl <| WL_op (Run_move (Opd.t rfl)) rfl rfl rfl rfl <| WL_opG rfl rfl rfl rfl guard_pos (Run_loadA (vs := [(.int .i64 r41.1.op), (.int .i64 r41.1.n), (.int .i64 r41.1.at_), (sl v43)]) Tryd.underlying24 rfl ti24 (Opd.t rfl) (fun _ => (hs.box (i := 3) rfl).part 0 rfl) rfl) rfl rfl rfl <| WL_opG rfl rfl rfl rfl guard_pos (Run_loadA (vs := [(.int .i64 e.op), (.int .i64 e.n), (.int .i64 e.at_), (sl v1)]) Tryd.underlying24 rfl ti24 (Opd.t rfl) (fun _ => (hs.box (i := 0) rfl).part 0 rfl) rfl) rfl rfl rfl <| ?_
        replace hs := hs.freeze (i := 4) rfl
        obtain ⟨r93, hr94, -, hm⟩ := callG_some hm
        refine WL_callG rfl rfl rfl guard_pos (f := 15) (first := []) (cap := []) (xs := [(.tmp 97), (.tmp 98)]) (vs := [(.agg #[(.int .i64 r41.1.op), (.int .i64 r41.1.n), (.int .i64 r41.1.at_), (sl v43)]), (.agg #[(.int .i64 e.op), (.int .i64 e.n), (.int .i64 e.at_), (sl v1)])]) (args := [(.agg #[(.int .i64 r41.1.op), (.int .i64 r41.1.n), (.int .i64 r41.1.at_), (sl v43)]), (.agg #[(.int .i64 e.op), (.int .i64 e.n), (.int .i64 e.at_), (sl v1)])]) Tryd.call15 Opd.f (.cons (Opd.g rfl id) (.cons (Opd.g rfl id) .nil)) rfl rfl (fun hg => scrutinyref13_Same_ok (hs.re 8 [4, 1, 0, 1, 2, 3, 4, 5, 6, 7] rfl) (hr94 hg)) ?_
        intro v96 w95 hv97 hz98
        replace hs := Sat.ofG (fun hg => (hv97 hg).2.re 8 [0, 1, 2, 3, 4, 5, 6, 7] rfl) hz98 hs
        refine WL_sub1 (v := (.bool r93)) (fun hg => (hv97 hg).1) ?_
        replace hs := Sat.n8 (Γ := Φ) hs rfl
        obtain ⟨b99, e100, hm⟩ := letv_some hm
        refine WL_op (Run.eqB (Run_and (Opd.t rfl) (Opd.g rfl id)) e100) rfl rfl rfl rfl <| WL_op (Run_move (Opd.t rfl)) rfl rfl rfl rfl <| WL_opG rfl rfl rfl rfl guard_pos (Run_move (Opd.t rfl)) rfl rfl rfl <| ?_
        obtain ⟨b101, e102, hm⟩ := letv_some hm
        refine WL_opG rfl rfl rfl rfl guard_pos (Run.eqB (Run_eqI (Opd.g rfl id) Opd.c) e102) rfl rfl rfl <| WL_opG rfl rfl rfl rfl guard_pos (Run_move (Opd.t rfl)) rfl rfl rfl <| ?_
        obtain ⟨b103, e104, hm⟩ := letv_some hm
        refine WL_opG rfl rfl rfl rfl guard_pos (Run.eqB (Run_geI (Opd.g rfl id) Opd.c) e104) rfl rfl rfl <| ?_
        obtain ⟨b105, e106, hm⟩ := letv_some hm
        refine WL_opG rfl rfl rfl rfl guard_pos (Run.eqB (Run_eqB Tryd.underlying4 (Opd.g rfl id) (Opd.g rfl id)) e106) rfl rfl rfl <| ?_
        obtain ⟨b107, e108, hm⟩ := letv_some hm
        refine WL_op (Run.eqB (Run_and (Opd.t rfl) (Opd.g rfl id)) e108) rfl rfl rfl rfl <| WL_op (Run_move (Opd.t rfl)) rfl rfl rfl rfl <| WL_opG rfl rfl rfl rfl guard_pos (Run_move (Opd.t rfl)) rfl rfl rfl <| ?_
        obtain ⟨b109, e110, hm⟩ := letv_some hm
        refine WL_opG rfl rfl rfl rfl guard_pos (Run.eqB (Run_ltI (Opd.g rfl id) Opd.c) e110) rfl rfl rfl <| WL_opG rfl rfl rfl rfl guard_pos (Run_move (Opd.g rfl id)) rfl rfl rfl <| WL_opG rfl rfl rfl rfl guard_neg' (Run_move (Opd.t rfl)) rfl rfl rfl <| WL_opG rfl rfl rfl rfl guard_neg' (Run_move (Opd.t rfl)) rfl rfl rfl <| ?_
        obtain ⟨b111, e112, hm⟩ := letv_some hm
        refine WL_opG rfl rfl rfl rfl guard_neg' (Run.eqB (Run_eqI (Opd.g rfl id) (Opd.g rfl id)) e112) rfl rfl rfl <| ?_
        obtain ⟨b113, e114, hm⟩ := letv_some hm
        refine WL_opG rfl rfl rfl rfl guard_pos (Run.eqB (Run_or (Opd.g rfl id) (Opd.g rfl id)) e114) rfl rfl rfl <| ?_
        obtain ⟨b115, e116, hm⟩ := letv_some hm
        refine WL_op (Run.eqB (Run_and (Opd.t rfl) (Opd.g rfl id)) e116) rfl rfl rfl rfl <| WL_op (Run_assign (Opd.t rfl)) rfl rfl rfl rfl <| ?_
        refine WL_nil ?_
        refine At_then ?_
        refine WC_ret ?_
        refine At_r1 rfl (ResIs.t rfl) ?_
        cases hm
        exact ⟨rfl, (hs.re 8 [] rfl)⟩

end Go.Proofs.YtmeombbmhpcacaaDoor
