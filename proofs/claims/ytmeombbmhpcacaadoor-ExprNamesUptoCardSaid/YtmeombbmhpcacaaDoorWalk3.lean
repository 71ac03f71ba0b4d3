/- Printed by a program: the walks. -/
import Derived.Test.YtmeombbmhpcacaaDoorWalk2
namespace Go.Proofs.YtmeombbmhpcacaaDoor
open Go.Proofs

set_option maxRecDepth 100000 in
set_option maxHeartbeats 4000000 in
theorem expr_read_one_ok {k_expr_read_lower : ((List (Int × Str × Int × Int)) × Int × (List Str) × Int × Int × Int) → Option (Ex × Int × Int × Int × Int)} (ih_expr_read_lower : ∀ {Φ : Ctx} {w : World} {l : (List (Int × Str × Int × Int))} {at_ : Int} {names : (List Str)} {deep : Int} {bad : Int} {place : Int} {b : Nat} {v2 : SLV} {v4 : SLV} {r : (Ex × Int × Int × Int × Int)}, Sat (box b 71 [(sl v2), (.int .i64 at_), (sl v4), (.int .i64 deep), (.int .i64 bad), (.int .i64 place)] :: imm (RSl (RP (RI .i64) (RP RS (RP (RI .i64) (RI .i64))))) [sl v2] l :: imm (RSl RS) [sl v4] names :: gl 0 (keysL.map S) :: gl 1 (textsL.map S) :: Φ) w → k_expr_read_lower (l, at_, names, deep, bad, place) = some r → CallsR Tryd.prog 42 [(.pointer (some ⟨b, 0, none⟩)), (.func (.func 43) #[] #[])] w (fun v w' => ∃ v3 : SLV, ∃ R4 : List Nat, v = (.agg #[(.int .i64 r.1.op), (.int .i64 r.1.n), (.int .i64 r.1.at_), (sl v3)]) ∧ Sat (osl RExpr 24 (sl v3) r.1.l R4 :: box b 71 [(sl v2), (.int .i64 r.2.1), (sl v4), (.int .i64 r.2.2.1), (.int .i64 r.2.2.2.1), (.int .i64 r.2.2.2.2)] :: imm (RSl (RP (RI .i64) (RP RS (RP (RI .i64) (RI .i64))))) [sl v2] l :: imm (RSl RS) [sl v4] names :: Φ) w')) {Φ : Ctx} {w : World} {l : (List (Int × Str × Int × Int))} {at_ : Int} {names : (List Str)} {deep : Int} {bad : Int} {place : Int} {b : Nat} {v2 : SLV} {v4 : SLV} {r : (Ex × Int × Int × Int × Int)} (hs : Sat (box b 71 [(sl v2), (.int .i64 at_), (sl v4), (.int .i64 deep), (.int .i64 bad), (.int .i64 place)] :: imm (RSl (RP (RI .i64) (RP RS (RP (RI .i64) (RI .i64))))) [sl v2] l :: imm (RSl RS) [sl v4] names :: gl 0 (keysL.map S) :: gl 1 (textsL.map S) :: Φ) w) (hm : expr_read_one k_expr_read_lower l at_ names deep bad place = some r) :
    CallsR Tryd.prog 77 [(.pointer (some ⟨b, 0, none⟩))] w (fun v w' => ∃ v3 : SLV, ∃ R4 : List Nat, v = (.agg #[(.int .i64 r.1.op), (.int .i64 r.1.n), (.int .i64 r.1.at_), (sl v3)]) ∧ Sat (osl RExpr 24 (sl v3) r.1.l R4 :: box b 71 [(sl v2), (.int .i64 r.2.1), (sl v4), (.int .i64 r.2.2.1), (.int .i64 r.2.2.2.1), (.int .i64 r.2.2.2.2)] :: imm (RSl (RP (RI .i64) (RP RS (RP (RI .i64) (RI .i64))))) [sl v2] l :: imm (RSl RS) [sl v4] names :: Φ) w') := by
  refine CallsX_enter Tryd.func77 rfl Tryd.ntmps77 rfl ?_
  unfold expr_read_one at hm
  refine WC_seq ?_
  refine WC_region ?_
  refine WS_alloc (zs := [(.int .i64 0), (.int .i64 0), (.int .i64 0), (sl (none, 0, 0))]) hs ti24 rfl rfl ?_
  intro b9 w10 hs
  replace hs := Sat.n6 (Γ := Φ) hs rfl
  refine WL_nil ?_
  refine At_then ?_
  refine WC_seq ?_
  refine WC_seq ?_
  refine WC_region ?_
  refine WL_op (Run_move (Opd.t rfl)) rfl rfl rfl rfl <| WL_op (Run_nilP (Opd.t rfl)) rfl rfl rfl rfl <| WL_op (Run_fieldAddr fo71_4 (Opd.t rfl)) rfl rfl rfl rfl <| WL_op (Run_load1 (v := (.int .i64 bad)) Tryd.underlying34 rfl (Opd.t rfl) (fun _ => (hs.box (i := 1) rfl).part 4 rfl)) rfl rfl rfl rfl <| WL_op (Run_neI (Opd.t rfl) Opd.c) rfl rfl rfl rfl <| ?_
  refine WL_nil ?_
  refine At_then ?_
  refine WC_cond (Opd.t rfl) (fun hc11 => ?_) (fun hc11 => ?_)
  ·
    replace hm := bif_t hc11 hm
    refine WC_seq ?_
    refine WC_region ?_
    refine WL_op (Run_build (parts := []) (v := (.agg #[(.int .i64 0), (.int .i64 0), (.int .i64 0), (sl (none, 0, 0))])) .nil (fun _ => by kernel_rfl)) rfl rfl rfl rfl <| ?_
    refine WS_store (us := [(.int .i64 0), (.int .i64 0), (.int .i64 0), (sl (none, 0, 0))]) (vs' := [(.int .i64 0), (.int .i64 0), (.int .i64 0), (sl (none, 0, 0))]) hs 0 rfl ti24 (Opd.t rfl) (Opd.t rfl) rfl rfl rfl rfl rfl ?_
    intro w12 hs
    replace hs := Sat.n6 (Γ := Φ) hs rfl
    refine WL_nil ?_
    refine At_then ?_
    refine WC_ret ?_
    refine At_then_ret <| ?_
    refine At_r1 rfl (ResIs.cA (vs := [(.int .i64 0), (.int .i64 0), (.int .i64 0), (sl (none, 0, 0))]) rfl Tryd.underlying24 rfl ti24 ((hs.box (i := 0) rfl).part 0 rfl) rfl) ?_
    replace hs := hs.addNil RExpr 24
    cases hm
    exact ⟨(none, 0, 0), [], rfl, (hs.re 7 [0, 2, 3, 4] rfl)⟩
  ·
    replace hm := bif_f hc11 hm
    refine WC_skip ?_
    refine At_then ?_
    refine WC_seq ?_
    refine WC_region ?_
    refine WL_op (Run_move (Opd.t rfl)) rfl rfl rfl rfl <| ?_
    obtain ⟨r13, hr14, hm⟩ := bind_some' hm
    refine WL_call (f := 51) (first := []) (cap := []) (xs := [(.tmp 14)]) (vs := [(.pointer (some ⟨b, 0, none⟩))]) (args := [(.pointer (some ⟨b, 0, none⟩))]) Tryd.call51 Opd.f (.cons (Opd.t rfl) .nil) rfl rfl (expr_read_next_ok (hs.re 6 [1, 2, 3, 0, 2, 3, 4, 5] rfl) hr14) ?_
    rintro _ w15 ⟨rfl, hs⟩
    replace hs := Sat.n8 (Γ := Φ) hs rfl
    refine WS_alloc (zs := [(.int .i64 0), (S []), (.int .i64 0), (.int .i64 0)]) hs ti60 rfl rfl ?_
    intro b16 w17 hs
    replace hs := Sat.n9 (Γ := Φ) hs rfl
    refine WS_store (us := [(.int .i64 r13.1), (S r13.2.1), (.int .i64 r13.2.2.1), (.int .i64 r13.2.2.2)]) (vs' := [(.int .i64 r13.1), (S r13.2.1), (.int .i64 r13.2.2.1), (.int .i64 r13.2.2.2)]) hs 0 rfl ti60 (Opd.t rfl) (Opd.t rfl) rfl rfl rfl rfl rfl ?_
    intro w18 hs
    replace hs := Sat.n9 (Γ := Φ) hs rfl
    refine WL_nil ?_
    refine At_then ?_
    refine WC_seq ?_
    refine WC_region ?_
    refine WL_op (Run_move (Opd.t rfl)) rfl rfl rfl rfl <| ?_
    refine WS_lit (A := (RI .i64)) (xs := [13, 14]) (zs := [(.int .i64 0)]) (cells := [(.int .i64 13), (.int .i64 14)]) (parts := [(0, (.const (.int .i64 13))), (1, (.const (.int .i64 14)))]) hs Tryd.underlying25 ti3 rfl rfl rfl (.cons Opd.c (.cons Opd.c .nil)) (by kernel_rfl) rfl (ARd.cons (A := (RI .i64)) (c := [(.int .i64 13)]) (x := 13) rfl (ARd.cons (A := (RI .i64)) (c := [(.int .i64 14)]) (x := 14) rfl ARd.nil)) rfl ?_
    intro b19 w20 hs
    replace hs := Sat.n10 (Γ := Φ) hs rfl
    replace hs := hs.freeze (i := 0) rfl
    obtain ⟨r21, hr22, hm⟩ := bind_some' hm
    refine WL_call (f := 50) (first := []) (cap := []) (xs := [(.tmp 17), (.tmp 18)]) (vs := [(.pointer (some ⟨b, 0, none⟩)), (sl (some ⟨b19, 0, none⟩, 2, 2))]) (args := [(.pointer (some ⟨b, 0, none⟩)), (sl (some ⟨b19, 0, none⟩, 2, 2))]) Tryd.call50 Opd.f (.cons (Opd.t rfl) (.cons (Opd.t rfl) .nil)) rfl rfl (expr_read_is_ok (hs.re 10 [2, 0, 3, 4, 8, 9, 0, 1, 3, 4, 5, 6, 7, 8, 9] rfl) hr22) ?_
    rintro _ w23 ⟨rfl, hs⟩
    replace hs := Sat.n12 (Γ := Φ) hs rfl
    refine WL_op (Run_move (Opd.t rfl)) rfl rfl rfl rfl <| WL_op (Run_extract (vs := [(.int .i64 r21.1), (.bool r21.2)]) (Opd.t rfl) rfl) rfl rfl rfl rfl <| WL_op (Run_extract (vs := [(.int .i64 r21.1), (.bool r21.2)]) (Opd.t rfl) rfl) rfl rfl rfl rfl <| WL_op (Run_assign (Opd.t rfl)) rfl rfl rfl rfl <| WL_op (Run_assign (Opd.t rfl)) rfl rfl rfl rfl <| ?_
    refine WL_nil ?_
    refine At_then ?_
    refine WC_seq ?_
    refine WC_block ?_
    refine WC_seq ?_
    refine WC_region ?_
    refine WL_op (Run_move (Opd.t rfl)) rfl rfl rfl rfl <| WL_op (Run_assign (Opd.t rfl)) rfl rfl rfl rfl <| ?_
    refine WL_nil ?_
    refine At_then ?_
    refine WC_cond (Opd.t rfl) (fun hc24 => ?_) (fun hc24 => ?_)
    ·
      replace hm := bif_t hc24 hm
      refine WC_seq ?_
      refine WC_region ?_
      refine WL_op (Run_move (Opd.t rfl)) rfl rfl rfl rfl <| WL_op (Run_nilP (Opd.t rfl)) rfl rfl rfl rfl <| WL_op (Run_fieldAddr fo71_1 (Opd.t rfl)) rfl rfl rfl rfl <| WL_op (Run_load1 (v := (.int .i64 at_)) Tryd.underlying3 rfl (Opd.t rfl) (fun _ => (hs.box (i := 0) rfl).part 1 rfl)) rfl rfl rfl rfl <| WL_op (Run_add (Opd.t rfl) Opd.c) rfl rfl rfl rfl <| WL_op (Run_nilP (Opd.t rfl)) rfl rfl rfl rfl <| WL_op (Run_fieldAddr fo71_1 (Opd.t rfl)) rfl rfl rfl rfl <| ?_
      refine WS_store (us := [(.int .i64 (IntKind.i64.wrap (at_ + 1)))]) (vs' := [(sl v2), (.int .i64 (IntKind.i64.wrap (at_ + 1))), (sl v4), (.int .i64 deep), (.int .i64 bad), (.int .i64 place)]) hs 0 rfl ti3 (Opd.t rfl) (Opd.t rfl) rfl rfl rfl rfl rfl ?_
      intro w25 hs
      replace hs := Sat.n12 (Γ := Φ) hs rfl
      refine WL_nil ?_
      refine At_then ?_
      refine WC_seq ?_
      refine WC_region ?_
      refine WL_op (Run_move (Opd.t rfl)) rfl rfl rfl rfl <| WL_op (Run_fieldAddr fo60_3 (Opd.t rfl)) rfl rfl rfl rfl <| WL_op (Run_load1 (v := (.int .i64 r13.2.2.2)) Tryd.underlying3 rfl (Opd.t rfl) (fun _ => (hs.box (i := 4) rfl).part 3 rfl)) rfl rfl rfl rfl <| WL_op (Run_build (parts := [(0, (.tmp 31)), (2, (.tmp 33))]) (v := (.agg #[(.int .i64 r21.1), (.int .i64 0), (.int .i64 r13.2.2.2), (sl (none, 0, 0))])) (.cons (Opd.t rfl) (.cons (Opd.t rfl) .nil)) (fun _ => by kernel_rfl)) rfl rfl rfl rfl <| ?_
      refine WS_store (us := [(.int .i64 r21.1), (.int .i64 0), (.int .i64 r13.2.2.2), (sl (none, 0, 0))]) (vs' := [(.int .i64 r21.1), (.int .i64 0), (.int .i64 r13.2.2.2), (sl (none, 0, 0))]) hs 7 rfl ti24 (Opd.t rfl) (Opd.t rfl) rfl rfl rfl rfl rfl ?_
      intro w26 hs
      replace hs := Sat.n12 (Γ := Φ) hs rfl
      refine WL_nil ?_
      refine At_then ?_
      refine WC_ret ?_
      refine At_blk_ret <| At_then_ret <| ?_
      refine At_r1 rfl (ResIs.cA (vs := [(.int .i64 r21.1), (.int .i64 0), (.int .i64 r13.2.2.2), (sl (none, 0, 0))]) rfl Tryd.underlying24 rfl ti24 ((hs.box (i := 7) rfl).part 0 rfl) rfl) ?_
      replace hs := hs.addNil RExpr 24
      cases hm
      exact ⟨(none, 0, 0), [], rfl, (hs.re 13 [0, 1, 2, 3] rfl)⟩
    ·
      replace hm := bif_f hc24 hm
      refine WC_seq ?_
      refine WC_region ?_
      refine WL_op (Run_fieldAddr fo60_0 (Opd.t rfl)) rfl rfl rfl rfl <| WL_op (Run_load1 (v := (.int .i64 r13.1)) Tryd.underlying3 rfl (Opd.t rfl) (fun _ => (hs.box (i := 4) rfl).part 0 rfl)) rfl rfl rfl rfl <| WL_op (Run_eqI (Opd.t rfl) Opd.c) rfl rfl rfl rfl <| WL_op (Run_assign (Opd.t rfl)) rfl rfl rfl rfl <| ?_
      refine WL_nil ?_
      refine At_then ?_
      refine WC_cond (Opd.t rfl) (fun hc27 => ?_) (fun hc27 => ?_)
      ·
        replace hm := bif_t hc27 hm
        refine WC_seq ?_
        refine WC_region ?_
        refine WL_op (Run_move (Opd.t rfl)) rfl rfl rfl rfl <| WL_op (Run_nilP (Opd.t rfl)) rfl rfl rfl rfl <| WL_op (Run_fieldAddr fo71_1 (Opd.t rfl)) rfl rfl rfl rfl <| WL_op (Run_load1 (v := (.int .i64 at_)) Tryd.underlying3 rfl (Opd.t rfl) (fun _ => (hs.box (i := 0) rfl).part 1 rfl)) rfl rfl rfl rfl <| WL_op (Run_add (Opd.t rfl) Opd.c) rfl rfl rfl rfl <| WL_op (Run_nilP (Opd.t rfl)) rfl rfl rfl rfl <| WL_op (Run_fieldAddr fo71_1 (Opd.t rfl)) rfl rfl rfl rfl <| ?_
        refine WS_store (us := [(.int .i64 (IntKind.i64.wrap (at_ + 1)))]) (vs' := [(sl v2), (.int .i64 (IntKind.i64.wrap (at_ + 1))), (sl v4), (.int .i64 deep), (.int .i64 bad), (.int .i64 place)]) hs 0 rfl ti3 (Opd.t rfl) (Opd.t rfl) rfl rfl rfl rfl rfl ?_
        intro w28 hs
        replace hs := Sat.n12 (Γ := Φ) hs rfl
        refine WL_nil ?_
        refine At_then ?_
        refine WC_seq ?_
        refine WC_region ?_
        refine WL_op (Run_fieldAddr fo60_2 (Opd.t rfl)) rfl rfl rfl rfl <| WL_op (Run_load1 (v := (.int .i64 r13.2.2.1)) Tryd.underlying3 rfl (Opd.t rfl) (fun _ => (hs.box (i := 4) rfl).part 2 rfl)) rfl rfl rfl rfl <| WL_op (Run_fieldAddr fo60_3 (Opd.t rfl)) rfl rfl rfl rfl <| WL_op (Run_load1 (v := (.int .i64 r13.2.2.2)) Tryd.underlying3 rfl (Opd.t rfl) (fun _ => (hs.box (i := 4) rfl).part 3 rfl)) rfl rfl rfl rfl <| WL_op (Run_build (parts := [(0, (.const (.int .i64 1))), (1, (.tmp 47)), (2, (.tmp 49))]) (v := (.agg #[(.int .i64 1), (.int .i64 r13.2.2.1), (.int .i64 r13.2.2.2), (sl (none, 0, 0))])) (.cons Opd.c (.cons (Opd.t rfl) (.cons (Opd.t rfl) .nil))) (fun _ => by kernel_rfl)) rfl rfl rfl rfl <| ?_
        refine WS_store (us := [(.int .i64 1), (.int .i64 r13.2.2.1), (.int .i64 r13.2.2.2), (sl (none, 0, 0))]) (vs' := [(.int .i64 1), (.int .i64 r13.2.2.1), (.int .i64 r13.2.2.2), (sl (none, 0, 0))]) hs 7 rfl ti24 (Opd.t rfl) (Opd.t rfl) rfl rfl rfl rfl rfl ?_
        intro w29 hs
        replace hs := Sat.n12 (Γ := Φ) hs rfl
        refine WL_nil ?_
        refine At_then ?_
        refine WC_ret ?_
        refine At_blk_ret <| At_then_ret <| ?_
        refine At_r1 rfl (ResIs.cA (vs := [(.int .i64 1), (.int .i64 r13.2.2.1), (.int .i64 r13.2.2.2), (sl (none, 0, 0))]) rfl Tryd.underlying24 rfl ti24 ((hs.box (i := 7) rfl).part 0 rfl) rfl) ?_
        replace hs := hs.addNil RExpr 24
        cases hm
        exact ⟨(none, 0, 0), [], rfl, (hs.re 13 [0, 1, 2, 3] rfl)⟩
      ·
        replace hm := bif_f hc27 hm
        refine WC_seq ?_
        refine WC_region ?_
        refine WL_op (Run_fieldAddr fo60_0 (Opd.t rfl)) rfl rfl rfl rfl <| WL_op (Run_load1 (v := (.int .i64 r13.1)) Tryd.underlying3 rfl (Opd.t rfl) (fun _ => (hs.box (i := 4) rfl).part 0 rfl)) rfl rfl rfl rfl <| ?_
        obtain ⟨b30, e31, hm⟩ := letv_some hm
        refine WL_op (Run.eqB (Run_eqI (Opd.t rfl) Opd.c) e31) rfl rfl rfl rfl <| WL_op (Run_move (Opd.t rfl)) rfl rfl rfl rfl <| WL_opG rfl rfl rfl rfl guard_pos (Run_fieldAddr fo60_1 (Opd.t rfl)) rfl rfl rfl <| WL_opG rfl rfl rfl rfl guard_pos (Run_load1 (v := (S r13.2.1)) Tryd.underlying9 rfl (Opd.g rfl id) (fun _ => (hs.box (i := 4) rfl).part 1 rfl)) rfl rfl rfl <| ?_
        obtain ⟨r32, hr33, -, hm⟩ := callG_some hm
        refine WL_callG rfl rfl rfl guard_pos (f := 12) (first := []) (cap := []) (xs := [(.tmp 57)]) (vs := [(S r13.2.1)]) (args := [(S r13.2.1)]) Tryd.call12 Opd.f (.cons (Opd.g rfl id) .nil) rfl rfl (fun hg => expr_Key_ok (hs.re 12 [10, 0, 1, 2, 3, 4, 5, 6, 7, 8, 9, 10, 11] rfl) (hr33 hg)) ?_
        intro v35 w34 hv36 hz37
        replace hs := Sat.ofG (fun hg => (hv36 hg).2.re 12 [0, 1, 2, 3, 4, 5, 6, 7, 8, 9, 10, 11] rfl) hz37 hs
        refine WL_sub1 (v := (.bool r32)) (fun hg => (hv36 hg).1) ?_
        replace hs := Sat.n12 (Γ := Φ) hs rfl
        obtain ⟨b38, e39, hm⟩ := letv_some hm
        refine WL_opG rfl rfl rfl rfl guard_pos (Run.eqB (Run_notB (Opd.g rfl id)) e39) rfl rfl rfl <| ?_
        obtain ⟨b40, e41, hm⟩ := letv_some hm
        refine WL_op (Run.eqB (Run_and (Opd.t rfl) (Opd.g rfl id)) e41) rfl rfl rfl rfl <| WL_op (Run_assign (Opd.t rfl)) rfl rfl rfl rfl <| ?_
        refine WL_nil ?_
        refine At_then ?_
        refine WC_cond (Opd.t rfl) (fun hc42 => ?_) (fun hc42 => ?_)
        ·
          replace hm := bif_t hc42 hm
          refine WC_seq ?_
          refine WC_region_mixed [0, 1, 2, 4, 0, 16, 40, 127] (.q 0 0 (.q 1 1 (.q 2 3 (.q 3 7 (.q 4 15 (.q 5 31 (.l 6 63 (.q 7 127 .nil)))))))) (by kernel_rfl) (by kernel_rfl) ?_
          intro w43 hx44
          replace hs := hs.ext hx44
          refine WD_pure (fun _ => (Run_move (Opd.t rfl))) rfl rfl rfl rfl <| WD_pure (fun _ => (Run_nilP (Opd.t rfl))) rfl rfl rfl rfl <| WD_pure (fun _ => (Run_fieldAddr fo71_2 (Opd.t rfl))) rfl rfl rfl rfl <| WD_op (fun w => CellsAt w ⟨b, 2, none⟩ [(sl v4)]) ((hs.box (i := 0) rfl).part 2 rfl) (fun _ hJ => (Run_load1 (v := (sl v4)) Tryd.underlying40 rfl (Opd.t rfl) (fun _ => hJ))) rfl rfl rfl rfl <| WD_pure (fun _ => (Run_fieldAddr fo60_1 (Opd.t rfl))) rfl rfl rfl rfl <| WD_op (fun w => CellsAt w ⟨b16, 1, none⟩ [(S r13.2.1)]) ((hs.box (i := 4) rfl).part 1 rfl) (fun _ hJ => (Run_load1 (v := (S r13.2.1)) Tryd.underlying9 rfl (Opd.t rfl) (fun _ => hJ))) rfl rfl rfl rfl <| ?_
          refine WD_loud (pend' := []) rfl (by kernel_rfl) ?_
          obtain ⟨r45, hr46, hm⟩ := bind_some' hm
          refine WL_call (f := 44) (first := []) (cap := []) (xs := [(.tmp 64), (.tmp 66)]) (vs := [(sl v4), (S r13.2.1)]) (args := [(sl v4), (S r13.2.1)]) Tryd.call44 Opd.f (.cons (Opd.t rfl) (.cons (Opd.t rfl) .nil)) rfl rfl (slices_Index_string_string_ok (hs.re 12 [2, 0, 1, 2, 3, 4, 5, 6, 7, 8, 9, 10, 11] rfl) hr46) ?_
          rintro _ w47 ⟨rfl, hs⟩
          replace hs := Sat.n12 (Γ := Φ) hs rfl
          refine WL_nil ?_
          refine At_QK allJ_nil ?_
          refine WD_pure (fun _ => (Run_assign (Opd.t rfl))) rfl rfl rfl rfl <| ?_
          refine WD_nil ?_
          refine At_then ?_
          refine WC_seq ?_
          refine WC_seq ?_
          refine WC_region ?_
          refine WL_op (Run_move (Opd.t rfl)) rfl rfl rfl rfl <| WL_op (Run_ltI (Opd.t rfl) Opd.c) rfl rfl rfl rfl <| ?_
          refine WL_nil ?_
          refine At_then ?_
          refine WC_cond (Opd.t rfl) (fun hc48 => ?_) (fun hc48 => ?_)
          ·
            replace hm := bif_t hc48 hm
            refine WC_seq ?_
            refine WC_region ?_
            refine WL_op (Run_move (Opd.t rfl)) rfl rfl rfl rfl <| ?_
            obtain ⟨r49, hr50, hm⟩ := bind_some' hm
            refine WL_call (f := 46) (first := []) (cap := []) (xs := [(.tmp 70), (.const (.int .i64 3))]) (vs := [(.pointer (some ⟨b, 0, none⟩)), (.int .i64 3)]) (args := [(.pointer (some ⟨b, 0, none⟩)), (.int .i64 3)]) Tryd.call46 Opd.f (.cons (Opd.t rfl) (.cons Opd.c .nil)) rfl rfl (expr_read_fail_ok (hs.re 12 [0, 1, 2, 1, 2, 3, 4, 5, 6, 7, 8, 9, 10, 11] rfl) hr50) ?_
            rintro _ w53 ⟨v51, R52, rfl, hs⟩
            replace hs := Sat.n15 (Γ := Φ) hs rfl
            refine WS_store (us := [(.int .i64 r49.1.op), (.int .i64 r49.1.n), (.int .i64 r49.1.at_), (sl v51)]) (vs' := [(.int .i64 r49.1.op), (.int .i64 r49.1.n), (.int .i64 r49.1.at_), (sl v51)]) hs 10 rfl ti24 (Opd.t rfl) (Opd.t rfl) rfl rfl rfl rfl rfl ?_
            intro w54 hs
            replace hs := Sat.n15 (Γ := Φ) hs rfl
            refine WL_nil ?_
            refine At_then ?_
            refine WC_ret ?_
            refine At_then_ret <| At_blk_ret <| At_then_ret <| ?_
            refine At_r1 rfl (ResIs.cA (vs := [(.int .i64 r49.1.op), (.int .i64 r49.1.n), (.int .i64 r49.1.at_), (sl v51)]) rfl Tryd.underlying24 rfl ti24 ((hs.box (i := 10) rfl).part 0 rfl) rfl) ?_
            cases hm
            exact ⟨v51, R52, rfl, (hs.re 15 [0, 1, 2, 3] rfl)⟩
          ·
            replace hm := bif_f hc48 hm
            refine WC_skip ?_
            refine At_then ?_
            refine WC_seq ?_
            refine WC_region ?_
            refine WL_op (Run_move (Opd.t rfl)) rfl rfl rfl rfl <| WL_op (Run_nilP (Opd.t rfl)) rfl rfl rfl rfl <| WL_op (Run_fieldAddr fo71_1 (Opd.t rfl)) rfl rfl rfl rfl <| WL_op (Run_load1 (v := (.int .i64 at_)) Tryd.underlying3 rfl (Opd.t rfl) (fun _ => (hs.box (i := 0) rfl).part 1 rfl)) rfl rfl rfl rfl <| WL_op (Run_add (Opd.t rfl) Opd.c) rfl rfl rfl rfl <| WL_op (Run_nilP (Opd.t rfl)) rfl rfl rfl rfl <| WL_op (Run_fieldAddr fo71_1 (Opd.t rfl)) rfl rfl rfl rfl <| ?_
            refine WS_store (us := [(.int .i64 (IntKind.i64.wrap (at_ + 1)))]) (vs' := [(sl v2), (.int .i64 (IntKind.i64.wrap (at_ + 1))), (sl v4), (.int .i64 deep), (.int .i64 bad), (.int .i64 place)]) hs 0 rfl ti3 (Opd.t rfl) (Opd.t rfl) rfl rfl rfl rfl rfl ?_
            intro w55 hs
            replace hs := Sat.n12 (Γ := Φ) hs rfl
            refine WL_nil ?_
            refine At_then ?_
            refine WC_seq ?_
            refine WC_region ?_
            refine WL_op (Run_move (Opd.t rfl)) rfl rfl rfl rfl <| WL_op (Run_fieldAddr fo60_3 (Opd.t rfl)) rfl rfl rfl rfl <| WL_op (Run_load1 (v := (.int .i64 r13.2.2.2)) Tryd.underlying3 rfl (Opd.t rfl) (fun _ => (hs.box (i := 4) rfl).part 3 rfl)) rfl rfl rfl rfl <| WL_op (Run_build (parts := [(0, (.const (.int .i64 2))), (1, (.tmp 79)), (2, (.tmp 81))]) (v := (.agg #[(.int .i64 2), (.int .i64 r45), (.int .i64 r13.2.2.2), (sl (none, 0, 0))])) (.cons Opd.c (.cons (Opd.t rfl) (.cons (Opd.t rfl) .nil))) (fun _ => by kernel_rfl)) rfl rfl rfl rfl <| ?_
            refine WS_store (us := [(.int .i64 2), (.int .i64 r45), (.int .i64 r13.2.2.2), (sl (none, 0, 0))]) (vs' := [(.int .i64 2), (.int .i64 r45), (.int .i64 r13.2.2.2), (sl (none, 0, 0))]) hs 7 rfl ti24 (Opd.t rfl) (Opd.t rfl) rfl rfl rfl rfl rfl ?_
            intro w56 hs
            replace hs := Sat.n12 (Γ := Φ) hs rfl
            refine WL_nil ?_
            refine At_then ?_
            refine WC_ret ?_
            refine At_blk_ret <| At_then_ret <| ?_
            refine At_r1 rfl (ResIs.cA (vs := [(.int .i64 2), (.int .i64 r45), (.int .i64 r13.2.2.2), (sl (none, 0, 0))]) rfl Tryd.underlying24 rfl ti24 ((hs.box (i := 7) rfl).part 0 rfl) rfl) ?_
            replace hs := hs.addNil RExpr 24
            cases hm
            exact ⟨(none, 0, 0), [], rfl, (hs.re 13 [0, 1, 2, 3] rfl)⟩
        ·
          replace hm := bif_f hc42 hm
          refine WC_seq ?_
          refine WC_region ?_
          refine WL_op (Run_fieldAddr fo60_0 (Opd.t rfl)) rfl rfl rfl rfl <| WL_op (Run_load1 (v := (.int .i64 r13.1)) Tryd.underlying3 rfl (Opd.t rfl) (fun _ => (hs.box (i := 4) rfl).part 0 rfl)) rfl rfl rfl rfl <| ?_
          obtain ⟨b57, e58, hm⟩ := letv_some hm
          refine WL_op (Run.eqB (Run_eqI (Opd.t rfl) Opd.c) e58) rfl rfl rfl rfl <| WL_op (Run_move (Opd.t rfl)) rfl rfl rfl rfl <| WL_opG rfl rfl rfl rfl guard_pos (Run_fieldAddr fo60_1 (Opd.t rfl)) rfl rfl rfl <| WL_opG rfl rfl rfl rfl guard_pos (Run_load1 (v := (S r13.2.1)) Tryd.underlying9 rfl (Opd.g rfl id) (fun _ => (hs.box (i := 4) rfl).part 1 rfl)) rfl rfl rfl <| ?_
          obtain ⟨b59, e60, hm⟩ := letv_some hm
          refine WL_opG rfl rfl rfl rfl guard_pos (Run.eqB (Run_eqS (Opd.g rfl id) Opd.c) e60) rfl rfl rfl <| ?_
          obtain ⟨b61, e62, hm⟩ := letv_some hm
          refine WL_op (Run.eqB (Run_and (Opd.t rfl) (Opd.g rfl id)) e62) rfl rfl rfl rfl <| WL_op (Run_assign (Opd.t rfl)) rfl rfl rfl rfl <| ?_
          refine WL_nil ?_
          refine At_then ?_
          refine WC_cond (Opd.t rfl) (fun hc63 => ?_) (fun hc63 => ?_)
          ·
            replace hm := bif_t hc63 hm
            refine WC_seq ?_
            refine WC_region ?_
            refine WL_op (Run_move (Opd.t rfl)) rfl rfl rfl rfl <| WL_op (Run_nilP (Opd.t rfl)) rfl rfl rfl rfl <| WL_op (Run_fieldAddr fo71_1 (Opd.t rfl)) rfl rfl rfl rfl <| WL_op (Run_load1 (v := (.int .i64 at_)) Tryd.underlying3 rfl (Opd.t rfl) (fun _ => (hs.box (i := 0) rfl).part 1 rfl)) rfl rfl rfl rfl <| WL_op (Run_add (Opd.t rfl) Opd.c) rfl rfl rfl rfl <| WL_op (Run_nilP (Opd.t rfl)) rfl rfl rfl rfl <| WL_op (Run_fieldAddr fo71_1 (Opd.t rfl)) rfl rfl rfl rfl <| ?_
            refine WS_store (us := [(.int .i64 (IntKind.i64.wrap (at_ + 1)))]) (vs' := [(sl v2), (.int .i64 (IntKind.i64.wrap (at_ + 1))), (sl v4), (.int .i64 deep), (.int .i64 bad), (.int .i64 place)]) hs 0 rfl ti3 (Opd.t rfl) (Opd.t rfl) rfl rfl rfl rfl rfl ?_
            intro w64 hs
            replace hs := Sat.n12 (Γ := Φ) hs rfl
            refine WL_nil ?_
            refine At_then ?_
            refine WC_seq ?_
            refine WC_region ?_
            refine WL_op (Run_move (Opd.t rfl)) rfl rfl rfl rfl <| ?_
            obtain ⟨r65, hr66, hm⟩ := bind_some' hm
            refine WL_call (f := 42) (first := []) (cap := []) (xs := [(.tmp 99), (.func 43)]) (vs := [(.pointer (some ⟨b, 0, none⟩)), (.func (.func 43) #[] #[])]) (args := [(.pointer (some ⟨b, 0, none⟩)), (.func (.func 43) #[] #[])]) Tryd.call42 Opd.f (.cons (Opd.t rfl) (.cons Opd.f .nil)) rfl rfl (ih_expr_read_lower (hs.re 12 [0, 1, 2, 10, 11, 1, 2, 3, 4, 5, 6, 7, 8, 9, 10, 11] rfl) hr66) ?_
            rintro _ w69 ⟨v67, R68, rfl, hs⟩
            replace hs := Sat.n15 (Γ := Φ) hs rfl
            refine WS_alloc (zs := [(.int .i64 0), (.int .i64 0), (.int .i64 0), (sl (none, 0, 0))]) hs ti24 rfl rfl ?_
            intro b70 w71 hs
            replace hs := Sat.n16 (Γ := Φ) hs rfl
            refine WS_store (us := [(.int .i64 r65.1.op), (.int .i64 r65.1.n), (.int .i64 r65.1.at_), (sl v67)]) (vs' := [(.int .i64 r65.1.op), (.int .i64 r65.1.n), (.int .i64 r65.1.at_), (sl v67)]) hs 0 rfl ti24 (Opd.t rfl) (Opd.t rfl) rfl rfl rfl rfl rfl ?_
            intro w72 hs
            replace hs := Sat.n16 (Γ := Φ) hs rfl
            refine WL_nil ?_
            refine At_then ?_
            refine WC_seq ?_
            refine WC_seq ?_
            refine WC_region ?_
            refine WL_op (Run_move (Opd.t rfl)) rfl rfl rfl rfl <| WL_op (Run_nilP (Opd.t rfl)) rfl rfl rfl rfl <| WL_op (Run_fieldAddr fo71_4 (Opd.t rfl)) rfl rfl rfl rfl <| WL_op (Run_load1 (v := (.int .i64 r65.2.2.2.1)) Tryd.underlying34 rfl (Opd.t rfl) (fun _ => (hs.box (i := 2) rfl).part 4 rfl)) rfl rfl rfl rfl <| ?_
            obtain ⟨b73, e74, hm⟩ := letv_some hm
            refine WL_op (Run.eqB (Run_eqI (Opd.t rfl) Opd.c) e74) rfl rfl rfl rfl <| WL_op (Run_move (Opd.t rfl)) rfl rfl rfl rfl <| WL_opG rfl rfl rfl rfl guard_pos (Run_move (Opd.t rfl)) rfl rfl rfl <| ?_
            obtain ⟨r75, hr76, -, hm⟩ := callG_some hm
            refine WL_callG rfl rfl rfl guard_pos (f := 51) (first := []) (cap := []) (xs := [(.tmp 107)]) (vs := [(.pointer (some ⟨b, 0, none⟩))]) (args := [(.pointer (some ⟨b, 0, none⟩))]) Tryd.call51 Opd.f (.cons (Opd.g rfl id) .nil) rfl rfl (fun hg => expr_read_next_ok (hs.re 16 [2, 3, 4, 0, 1, 3, 4, 5, 6, 7, 8, 9, 10, 11, 12, 13, 14, 15] rfl) (hr76 hg)) ?_
            intro v78 w77 hv79 hz80
            replace hs := Sat.ofG (fun hg => (hv79 hg).2.re 18 [3, 4, 0, 5, 6, 7, 8, 9, 10, 11, 12, 13, 14, 15, 16, 17] rfl) hz80 hs
            refine WL_sub1 (v := (.agg #[(.int .i64 r75.1), (S r75.2.1), (.int .i64 r75.2.2.1), (.int .i64 r75.2.2.2)])) (fun hg => (hv79 hg).1) ?_
            replace hs := Sat.n16 (Γ := Φ) hs rfl
            refine WL_opG rfl rfl rfl rfl guard_pos (Run_field (cs := [(.int .i64 r75.1), (S r75.2.1), (.int .i64 r75.2.2.1), (.int .i64 r75.2.2.2)]) Tryd.underlying60 rfl rfl rfl Tryd.underlying3 ti3 (Opd.g rfl id) rfl) rfl rfl rfl <| ?_
            obtain ⟨b81, e82, hm⟩ := letv_some hm
            refine WL_opG rfl rfl rfl rfl guard_pos (Run.eqB (Run_neI (Opd.g rfl id) Opd.c) e82) rfl rfl rfl <| WL_opG rfl rfl rfl rfl guard_pos (Run_move (Opd.g rfl id)) rfl rfl rfl <| WL_opG rfl rfl rfl rfl guard_neg' (Run_move (Opd.t rfl)) rfl rfl rfl <| ?_
            obtain ⟨r83, hr84, -, hm⟩ := callG_some hm
            refine WL_callG rfl rfl rfl guard_neg' (f := 51) (first := []) (cap := []) (xs := [(.tmp 112)]) (vs := [(.pointer (some ⟨b, 0, none⟩))]) (args := [(.pointer (some ⟨b, 0, none⟩))]) Tryd.call51 Opd.f (.cons (Opd.g rfl id) .nil) rfl rfl (fun hg => expr_read_next_ok (hs.re 16 [2, 3, 4, 0, 1, 3, 4, 5, 6, 7, 8, 9, 10, 11, 12, 13, 14, 15] rfl) (hr84 hg)) ?_
            intro v86 w85 hv87 hz88
            replace hs := Sat.ofG (fun hg => (hv87 hg).2.re 18 [3, 4, 0, 5, 6, 7, 8, 9, 10, 11, 12, 13, 14, 15, 16, 17] rfl) hz88 hs
            refine WL_sub1 (v := (.agg #[(.int .i64 r83.1), (S r83.2.1), (.int .i64 r83.2.2.1), (.int .i64 r83.2.2.2)])) (fun hg => (hv87 hg).1) ?_
            replace hs := Sat.n16 (Γ := Φ) hs rfl
            refine WL_opG rfl rfl rfl rfl guard_neg' (Run_field (cs := [(.int .i64 r83.1), (S r83.2.1), (.int .i64 r83.2.2.1), (.int .i64 r83.2.2.2)]) Tryd.underlying60 rfl rfl rfl Tryd.underlying9 ti9 (Opd.g rfl id) rfl) rfl rfl rfl <| ?_
            obtain ⟨b89, e90, hm⟩ := letv_some hm
            refine WL_opG rfl rfl rfl rfl guard_neg' (Run.eqB (Run_neS (Opd.g rfl id) Opd.c) e90) rfl rfl rfl <| ?_
            obtain ⟨b91, e92, hm⟩ := letv_some hm
            refine WL_opG rfl rfl rfl rfl guard_pos (Run.eqB (Run_or (Opd.g rfl id) (Opd.g rfl id)) e92) rfl rfl rfl <| ?_
            obtain ⟨b93, e94, hm⟩ := letv_some hm
            refine WL_op (Run.eqB (Run_and (Opd.t rfl) (Opd.g rfl id)) e94) rfl rfl rfl rfl <| ?_
            refine WL_nil ?_
            refine At_then ?_
            refine WC_cond (Opd.t rfl) (fun hc95 => ?_) (fun hc95 => ?_)
            ·
              replace hm := bif_t hc95 hm
              refine WC_seq ?_
              refine WC_region ?_
              refine WL_op (Run_move (Opd.t rfl)) rfl rfl rfl rfl <| ?_
              obtain ⟨r96, hr97, hm⟩ := bind_some' hm
              refine WL_call (f := 46) (first := []) (cap := []) (xs := [(.tmp 118), (.const (.int .i64 2))]) (vs := [(.pointer (some ⟨b, 0, none⟩)), (.int .i64 2)]) (args := [(.pointer (some ⟨b, 0, none⟩)), (.int .i64 2)]) Tryd.call46 Opd.f (.cons (Opd.t rfl) (.cons Opd.c .nil)) rfl rfl (expr_read_fail_ok (hs.re 16 [2, 3, 4, 0, 1, 3, 4, 5, 6, 7, 8, 9, 10, 11, 12, 13, 14, 15] rfl) hr97) ?_
              rintro _ w100 ⟨v98, R99, rfl, hs⟩
              replace hs := Sat.n19 (Γ := Φ) hs rfl
              refine WS_store (us := [(.int .i64 r96.1.op), (.int .i64 r96.1.n), (.int .i64 r96.1.at_), (sl v98)]) (vs' := [(.int .i64 r96.1.op), (.int .i64 r96.1.n), (.int .i64 r96.1.at_), (sl v98)]) hs 14 rfl ti24 (Opd.t rfl) (Opd.t rfl) rfl rfl rfl rfl rfl ?_
              intro w101 hs
              replace hs := Sat.n19 (Γ := Φ) hs rfl
              refine WL_nil ?_
              refine At_then ?_
              refine WC_ret ?_
              refine At_then_ret <| At_blk_ret <| At_then_ret <| ?_
              refine At_r1 rfl (ResIs.cA (vs := [(.int .i64 r96.1.op), (.int .i64 r96.1.n), (.int .i64 r96.1.at_), (sl v98)]) rfl Tryd.underlying24 rfl ti24 ((hs.box (i := 14) rfl).part 0 rfl) rfl) ?_
              cases hm
              exact ⟨v98, R99, rfl, (hs.re 19 [0, 1, 2, 3] rfl)⟩
            ·
              replace hm := bif_f hc95 hm
              refine WC_skip ?_
              refine At_then ?_
              refine WC_seq ?_
              refine WC_seq ?_
              refine WC_region ?_
              refine WL_op (Run_move (Opd.t rfl)) rfl rfl rfl rfl <| WL_op (Run_nilP (Opd.t rfl)) rfl rfl rfl rfl <| WL_op (Run_fieldAddr fo71_4 (Opd.t rfl)) rfl rfl rfl rfl <| WL_op (Run_load1 (v := (.int .i64 r65.2.2.2.1)) Tryd.underlying34 rfl (Opd.t rfl) (fun _ => (hs.box (i := 2) rfl).part 4 rfl)) rfl rfl rfl rfl <| WL_op (Run_eqI (Opd.t rfl) Opd.c) rfl rfl rfl rfl <| ?_
              refine WL_nil ?_
              refine At_then ?_
              refine WC_cond (Opd.t rfl) (fun hc102 => ?_) (fun hc102 => ?_)
              ·
                replace hm := bif_t hc102 hm
                refine WC_region ?_
                refine WL_op (Run_move (Opd.t rfl)) rfl rfl rfl rfl <| WL_op (Run_nilP (Opd.t rfl)) rfl rfl rfl rfl <| WL_op (Run_fieldAddr fo71_1 (Opd.t rfl)) rfl rfl rfl rfl <| WL_op (Run_load1 (v := (.int .i64 r65.2.1)) Tryd.underlying3 rfl (Opd.t rfl) (fun _ => (hs.box (i := 2) rfl).part 1 rfl)) rfl rfl rfl rfl <| WL_op (Run_add (Opd.t rfl) Opd.c) rfl rfl rfl rfl <| WL_op (Run_nilP (Opd.t rfl)) rfl rfl rfl rfl <| WL_op (Run_fieldAddr fo71_1 (Opd.t rfl)) rfl rfl rfl rfl <| ?_
                refine WS_store (us := [(.int .i64 (IntKind.i64.wrap (r65.2.1 + 1)))]) (vs' := [(sl v2), (.int .i64 (IntKind.i64.wrap (r65.2.1 + 1))), (sl v4), (.int .i64 r65.2.2.1), (.int .i64 r65.2.2.2.1), (.int .i64 r65.2.2.2.2)]) hs 2 rfl ti3 (Opd.t rfl) (Opd.t rfl) rfl rfl rfl rfl rfl ?_
                intro w103 hs
                replace hs := Sat.n16 (Γ := Φ) hs rfl
                refine WL_nil ?_
                refine At_then ?_
                refine WC_seq ?_
                refine WC_region ?_
                refine WL_op (Run_loadA (vs := [(.int .i64 r65.1.op), (.int .i64 r65.1.n), (.int .i64 r65.1.at_), (sl v67)]) Tryd.underlying24 rfl ti24 (Opd.t rfl) (fun _ => (hs.box (i := 0) rfl).part 0 rfl) rfl) rfl rfl rfl rfl <| ?_
                refine WS_store (us := [(.int .i64 r65.1.op), (.int .i64 r65.1.n), (.int .i64 r65.1.at_), (sl v67)]) (vs' := [(.int .i64 r65.1.op), (.int .i64 r65.1.n), (.int .i64 r65.1.at_), (sl v67)]) hs 11 rfl ti24 (Opd.t rfl) (Opd.t rfl) rfl rfl rfl rfl rfl ?_
                intro w104 hs
                replace hs := Sat.n16 (Γ := Φ) hs rfl
                refine WL_nil ?_
                refine At_then ?_
                refine WC_ret ?_
                refine At_blk_ret <| At_then_ret <| ?_
                refine At_r1 rfl (ResIs.cA (vs := [(.int .i64 r65.1.op), (.int .i64 r65.1.n), (.int .i64 r65.1.at_), (sl v67)]) rfl Tryd.underlying24 rfl ti24 ((hs.box (i := 11) rfl).part 0 rfl) rfl) ?_
                cases hm
                exact ⟨v67, R68, rfl, (hs.re 16 [1, 2, 3, 4] rfl)⟩
              ·
                replace hm := bif_f hc102 hm
                refine WC_skip ?_
                refine At_then ?_
                refine WC_seq ?_
                refine WC_region ?_
                refine WL_op (Run_loadA (vs := [(.int .i64 r65.1.op), (.int .i64 r65.1.n), (.int .i64 r65.1.at_), (sl v67)]) Tryd.underlying24 rfl ti24 (Opd.t rfl) (fun _ => (hs.box (i := 0) rfl).part 0 rfl) rfl) rfl rfl rfl rfl <| ?_
                refine WS_store (us := [(.int .i64 r65.1.op), (.int .i64 r65.1.n), (.int .i64 r65.1.at_), (sl v67)]) (vs' := [(.int .i64 r65.1.op), (.int .i64 r65.1.n), (.int .i64 r65.1.at_), (sl v67)]) hs 11 rfl ti24 (Opd.t rfl) (Opd.t rfl) rfl rfl rfl rfl rfl ?_
                intro w105 hs
                replace hs := Sat.n16 (Γ := Φ) hs rfl
                refine WL_nil ?_
                refine At_then ?_
                refine WC_ret ?_
                refine At_blk_ret <| At_then_ret <| ?_
                refine At_r1 rfl (ResIs.cA (vs := [(.int .i64 r65.1.op), (.int .i64 r65.1.n), (.int .i64 r65.1.at_), (sl v67)]) rfl Tryd.underlying24 rfl ti24 ((hs.box (i := 11) rfl).part 0 rfl) rfl) ?_
                cases hm
                exact ⟨v67, R68, rfl, (hs.re 16 [1, 2, 3, 4] rfl)⟩
          ·
            replace hm := bif_f hc63 hm
            refine WC_skip ?_
            refine At_blk_normal ?_
            refine At_then ?_
            refine WC_seq ?_
            refine WC_region ?_
            refine WL_op (Run_move (Opd.t rfl)) rfl rfl rfl rfl <| ?_
            obtain ⟨r106, hr107, hm⟩ := bind_some' hm
            refine WL_call (f := 46) (first := []) (cap := []) (xs := [(.tmp 133), (.const (.int .i64 2))]) (vs := [(.pointer (some ⟨b, 0, none⟩)), (.int .i64 2)]) (args := [(.pointer (some ⟨b, 0, none⟩)), (.int .i64 2)]) Tryd.call46 Opd.f (.cons (Opd.t rfl) (.cons Opd.c .nil)) rfl rfl (expr_read_fail_ok (hs.re 12 [0, 1, 2, 1, 2, 3, 4, 5, 6, 7, 8, 9, 10, 11] rfl) hr107) ?_
            rintro _ w110 ⟨v108, R109, rfl, hs⟩
            replace hs := Sat.n15 (Γ := Φ) hs rfl
            refine WS_store (us := [(.int .i64 r106.1.op), (.int .i64 r106.1.n), (.int .i64 r106.1.at_), (sl v108)]) (vs' := [(.int .i64 r106.1.op), (.int .i64 r106.1.n), (.int .i64 r106.1.at_), (sl v108)]) hs 10 rfl ti24 (Opd.t rfl) (Opd.t rfl) rfl rfl rfl rfl rfl ?_
            intro w111 hs
            replace hs := Sat.n15 (Γ := Φ) hs rfl
            refine WL_nil ?_
            refine At_then ?_
            refine WC_ret ?_
            refine At_r1 rfl (ResIs.cA (vs := [(.int .i64 r106.1.op), (.int .i64 r106.1.n), (.int .i64 r106.1.at_), (sl v108)]) rfl Tryd.underlying24 rfl ti24 ((hs.box (i := 10) rfl).part 0 rfl) rfl) ?_
            cases hm
            exact ⟨v108, R109, rfl, (hs.re 15 [0, 1, 2, 3] rfl)⟩

set_option maxRecDepth 100000 in
set_option maxHeartbeats 4000000 in
theorem expr_read_before_s2_ok {k_expr_read_lower : ((List (Int × Str × Int × Int)) × Int × (List Str) × Int × Int × Int) → Option (Ex × Int × Int × Int × Int)} {k_expr_read_lower_s5 : ((List (Int × Str × Int × Int)) × Int × (List Str) × Int × Int × Int) → Option (Ex × Int × Int × Int × Int)} (ih_expr_read_lower : ∀ {Φ : Ctx} {w : World} {l : (List (Int × Str × Int × Int))} {at_ : Int} {names : (List Str)} {deep : Int} {bad : Int} {place : Int} {b : Nat} {v2 : SLV} {v4 : SLV} {r : (Ex × Int × Int × Int × Int)}, Sat (box b 71 [(sl v2), (.int .i64 at_), (sl v4), (.int .i64 deep), (.int .i64 bad), (.int .i64 place)] :: imm (RSl (RP (RI .i64) (RP RS (RP (RI .i64) (RI .i64))))) [sl v2] l :: imm (RSl RS) [sl v4] names :: gl 0 (keysL.map S) :: gl 1 (textsL.map S) :: Φ) w → k_expr_read_lower (l, at_, names, deep, bad, place) = some r → CallsR Tryd.prog 42 [(.pointer (some ⟨b, 0, none⟩)), (.func (.func 43) #[] #[])] w (fun v w' => ∃ v3 : SLV, ∃ R4 : List Nat, v = (.agg #[(.int .i64 r.1.op), (.int .i64 r.1.n), (.int .i64 r.1.at_), (sl v3)]) ∧ Sat (osl RExpr 24 (sl v3) r.1.l R4 :: box b 71 [(sl v2), (.int .i64 r.2.1), (sl v4), (.int .i64 r.2.2.1), (.int .i64 r.2.2.2.1), (.int .i64 r.2.2.2.2)] :: imm (RSl (RP (RI .i64) (RP RS (RP (RI .i64) (RI .i64))))) [sl v2] l :: imm (RSl RS) [sl v4] names :: Φ) w')) (ih_expr_read_lower_s5 : ∀ {Φ : Ctx} {w : World} {l : (List (Int × Str × Int × Int))} {at_ : Int} {names : (List Str)} {deep : Int} {bad : Int} {place : Int} {b : Nat} {v2 : SLV} {v4 : SLV} {r : (Ex × Int × Int × Int × Int)}, Sat (box b 71 [(sl v2), (.int .i64 at_), (sl v4), (.int .i64 deep), (.int .i64 bad), (.int .i64 place)] :: imm (RSl (RP (RI .i64) (RP RS (RP (RI .i64) (RI .i64))))) [sl v2] l :: imm (RSl RS) [sl v4] names :: gl 0 (keysL.map S) :: gl 1 (textsL.map S) :: Φ) w → k_expr_read_lower_s5 (l, at_, names, deep, bad, place) = some r → CallsR Tryd.prog 42 [(.pointer (some ⟨b, 0, none⟩)), (.func (.func 76) #[] #[])] w (fun v w' => ∃ v3 : SLV, ∃ R4 : List Nat, v = (.agg #[(.int .i64 r.1.op), (.int .i64 r.1.n), (.int .i64 r.1.at_), (sl v3)]) ∧ Sat (osl RExpr 24 (sl v3) r.1.l R4 :: box b 71 [(sl v2), (.int .i64 r.2.1), (sl v4), (.int .i64 r.2.2.1), (.int .i64 r.2.2.2.1), (.int .i64 r.2.2.2.2)] :: imm (RSl (RP (RI .i64) (RP RS (RP (RI .i64) (RI .i64))))) [sl v2] l :: imm (RSl RS) [sl v4] names :: Φ) w')) {Φ : Ctx} {w : World} {ops : (List Int)} {l : (List (Int × Str × Int × Int))} {at_ : Int} {names : (List Str)} {deep : Int} {bad : Int} {place : Int} {b : Nat} {v2 : SLV} {v4 : SLV} {v6 : SLV} {r : (Ex × Int × Int × Int × Int)} (hs : Sat (box b 71 [(sl v4), (.int .i64 at_), (sl v6), (.int .i64 deep), (.int .i64 bad), (.int .i64 place)] :: imm (RSl (RI .i64)) [sl v2] ops :: imm (RSl (RP (RI .i64) (RP RS (RP (RI .i64) (RI .i64))))) [sl v4] l :: imm (RSl RS) [sl v6] names :: gl 0 (keysL.map S) :: gl 1 (textsL.map S) :: Φ) w) (hm : expr_read_before_s2 k_expr_read_lower k_expr_read_lower_s5 ops l at_ names deep bad place = some r) :
    CallsR Tryd.prog 71 [(.pointer (some ⟨b, 0, none⟩)), (.func (.func 76) #[] #[]), (.func (.func 77) #[] #[]), (sl v2)] w (fun v w' => ∃ v3 : SLV, ∃ R4 : List Nat, v = (.agg #[(.int .i64 r.1.op), (.int .i64 r.1.n), (.int .i64 r.1.at_), (sl v3)]) ∧ Sat (osl RExpr 24 (sl v3) r.1.l R4 :: box b 71 [(sl v4), (.int .i64 r.2.1), (sl v6), (.int .i64 r.2.2.1), (.int .i64 r.2.2.2.1), (.int .i64 r.2.2.2.2)] :: imm (RSl (RP (RI .i64) (RP RS (RP (RI .i64) (RI .i64))))) [sl v4] l :: imm (RSl RS) [sl v6] names :: Φ) w') := by
  refine CallsX_enter Tryd.func71 rfl Tryd.ntmps71 rfl ?_
  unfold expr_read_before_s2 at hm
  refine WC_seq ?_
  refine WC_region ?_
  refine WS_alloc (zs := [(.int .i64 0), (.int .i64 0), (.int .i64 0), (sl (none, 0, 0))]) hs ti24 rfl rfl ?_
  intro b9 w10 hs
  replace hs := Sat.n7 (Γ := Φ) hs rfl
  refine WL_nil ?_
  refine At_then ?_
  refine WC_seq ?_
  refine WC_region ?_
  refine WL_op (Run_move (Opd.t rfl)) rfl rfl rfl rfl <| WL_op (Run_move (Opd.t rfl)) rfl rfl rfl rfl <| ?_
  obtain ⟨r11, hr12, hm⟩ := bind_some' hm
  refine WL_call (f := 50) (first := []) (cap := []) (xs := [(.tmp 13), (.tmp 14)]) (vs := [(.pointer (some ⟨b, 0, none⟩)), (sl v2)]) (args := [(.pointer (some ⟨b, 0, none⟩)), (sl v2)]) Tryd.call50 Opd.f (.cons (Opd.t rfl) (.cons (Opd.t rfl) .nil)) rfl rfl (expr_read_is_ok (hs.re 7 [1, 2, 3, 4, 5, 6, 0, 2, 3, 4, 5, 6] rfl) hr12) ?_
  rintro _ w13 ⟨rfl, hs⟩
  replace hs := Sat.n9 (Γ := Φ) hs rfl
  refine WL_op (Run_move (Opd.t rfl)) rfl rfl rfl rfl <| WL_op (Run_extract (vs := [(.int .i64 r11.1), (.bool r11.2)]) (Opd.t rfl) rfl) rfl rfl rfl rfl <| WL_op (Run_extract (vs := [(.int .i64 r11.1), (.bool r11.2)]) (Opd.t rfl) rfl) rfl rfl rfl rfl <| WL_op (Run_assign (Opd.t rfl)) rfl rfl rfl rfl <| WL_op (Run_assign (Opd.t rfl)) rfl rfl rfl rfl <| ?_
  refine WL_nil ?_
  refine At_then ?_
  refine WC_seq ?_
  refine WC_seq ?_
  refine WC_region ?_
  refine WL_op (Run_move (Opd.t rfl)) rfl rfl rfl rfl <| WL_op (Run_notB (Opd.t rfl)) rfl rfl rfl rfl <| ?_
  refine WL_nil ?_
  refine At_then ?_
  refine WC_cond (Opd.t rfl) (fun hc14 => ?_) (fun hc14 => ?_)
  ·
    replace hm := bif_t hc14 hm
    refine WC_seq ?_
    refine WC_region ?_
    refine WL_op (Run_move (Opd.t rfl)) rfl rfl rfl rfl <| WL_op (Run_move (Opd.t rfl)) rfl rfl rfl rfl <| ?_
    obtain ⟨r15, hr16, hm⟩ := bind_some' hm
    refine WL_call (f := 77) (first := []) (cap := []) (xs := [(.tmp 21)]) (vs := [(.pointer (some ⟨b, 0, none⟩))]) (args := [(.pointer (some ⟨b, 0, none⟩))]) Tryd.call77 (Opd.t rfl) (.cons (Opd.t rfl) .nil) rfl rfl (expr_read_one_ok (@ih_expr_read_lower) (hs.re 9 [0, 1, 2, 7, 8, 1, 2, 3, 4, 5, 6, 7, 8] rfl) hr16) ?_
    rintro _ w19 ⟨v17, R18, rfl, hs⟩
    replace hs := Sat.n12 (Γ := Φ) hs rfl
    refine WS_store (us := [(.int .i64 r15.1.op), (.int .i64 r15.1.n), (.int .i64 r15.1.at_), (sl v17)]) (vs' := [(.int .i64 r15.1.op), (.int .i64 r15.1.n), (.int .i64 r15.1.at_), (sl v17)]) hs 6 rfl ti24 (Opd.t rfl) (Opd.t rfl) rfl rfl rfl rfl rfl ?_
    intro w20 hs
    replace hs := Sat.n12 (Γ := Φ) hs rfl
    refine WL_nil ?_
    refine At_then ?_
    refine WC_ret ?_
    refine At_then_ret <| ?_
    refine At_r1 rfl (ResIs.cA (vs := [(.int .i64 r15.1.op), (.int .i64 r15.1.n), (.int .i64 r15.1.at_), (sl v17)]) rfl Tryd.underlying24 rfl ti24 ((hs.box (i := 6) rfl).part 0 rfl) rfl) ?_
    cases hm
    exact ⟨v17, R18, rfl, (hs.re 12 [0, 1, 2, 3] rfl)⟩
  ·
    replace hm := bif_f hc14 hm
    refine WC_skip ?_
    refine At_then ?_
    refine WC_seq ?_
    refine WC_region ?_
    refine WL_op (Run_move (Opd.t rfl)) rfl rfl rfl rfl <| ?_
    obtain ⟨r21, hr22, hm⟩ := bind_some' hm
    refine WL_call (f := 51) (first := []) (cap := []) (xs := [(.tmp 23)]) (vs := [(.pointer (some ⟨b, 0, none⟩))]) (args := [(.pointer (some ⟨b, 0, none⟩))]) Tryd.call51 Opd.f (.cons (Opd.t rfl) .nil) rfl rfl (expr_read_next_ok (hs.re 9 [0, 1, 2, 1, 2, 3, 4, 5, 6, 7, 8] rfl) hr22) ?_
    rintro _ w23 ⟨rfl, hs⟩
    replace hs := Sat.n11 (Γ := Φ) hs rfl
    refine WS_alloc (zs := [(.int .i64 0), (S []), (.int .i64 0), (.int .i64 0)]) hs ti60 rfl rfl ?_
    intro b24 w25 hs
    replace hs := Sat.n12 (Γ := Φ) hs rfl
    refine WS_store (us := [(.int .i64 r21.1), (S r21.2.1), (.int .i64 r21.2.2.1), (.int .i64 r21.2.2.2)]) (vs' := [(.int .i64 r21.1), (S r21.2.1), (.int .i64 r21.2.2.1), (.int .i64 r21.2.2.2)]) hs 0 rfl ti60 (Opd.t rfl) (Opd.t rfl) rfl rfl rfl rfl rfl ?_
    intro w26 hs
    replace hs := Sat.n12 (Γ := Φ) hs rfl
    refine WL_nil ?_
    refine At_then ?_
    refine WC_seq ?_
    refine WC_region ?_
    refine WL_op (Run_move (Opd.t rfl)) rfl rfl rfl rfl <| WL_op (Run_nilP (Opd.t rfl)) rfl rfl rfl rfl <| WL_op (Run_fieldAddr fo71_1 (Opd.t rfl)) rfl rfl rfl rfl <| WL_op (Run_load1 (v := (.int .i64 at_)) Tryd.underlying3 rfl (Opd.t rfl) (fun _ => (hs.box (i := 1) rfl).part 1 rfl)) rfl rfl rfl rfl <| WL_op (Run_add (Opd.t rfl) Opd.c) rfl rfl rfl rfl <| WL_op (Run_nilP (Opd.t rfl)) rfl rfl rfl rfl <| WL_op (Run_fieldAddr fo71_1 (Opd.t rfl)) rfl rfl rfl rfl <| ?_
    refine WS_store (us := [(.int .i64 (IntKind.i64.wrap (at_ + 1)))]) (vs' := [(sl v4), (.int .i64 (IntKind.i64.wrap (at_ + 1))), (sl v6), (.int .i64 deep), (.int .i64 bad), (.int .i64 place)]) hs 1 rfl ti3 (Opd.t rfl) (Opd.t rfl) rfl rfl rfl rfl rfl ?_
    intro w27 hs
    replace hs := Sat.n12 (Γ := Φ) hs rfl
    refine WL_nil ?_
    refine At_then ?_
    refine WC_seq ?_
    refine WC_region_mixed [0, 0, 2, 0, 0, 24, 32, 69, 255] (.q 0 0 (.q 1 1 (.q 2 3 (.q 3 7 (.q 4 15 (.l 5 31 (.l 6 63 (.q 7 127 (.l 8 255 .nil))))))))) (by kernel_rfl) (by kernel_rfl) ?_
    intro w28 hx29
    replace hs := hs.ext hx29
    refine WD_pure (fun _ => (Run_move (Opd.t rfl))) rfl rfl rfl rfl <| WD_pure (fun _ => (Run_fieldAddr fo60_3 (Opd.t rfl))) rfl rfl rfl rfl <| WD_op (fun w => CellsAt w ⟨b24, 3, none⟩ [(.int .i64 r21.2.2.2)]) ((hs.box (i := 0) rfl).part 3 rfl) (fun _ hJ => (Run_load1 (v := (.int .i64 r21.2.2.2)) Tryd.underlying3 rfl (Opd.t rfl) (fun _ => hJ))) rfl rfl rfl rfl <| WD_pure (fun _ => (Run_move (Opd.t rfl))) rfl rfl rfl rfl <| WD_pure (fun _ => (Run_move (Opd.t rfl))) rfl rfl rfl rfl <| ?_
    refine WD_loud (pend' := [(2, fun w => CellsAt w ⟨b24, 3, none⟩ [(.int .i64 r21.2.2.2)])]) rfl (by kernel_rfl) ?_
    obtain ⟨r30, hr31, hm⟩ := bind_some' hm
    refine WL_call (f := 42) (first := []) (cap := []) (xs := [(.tmp 35), (.tmp 36)]) (vs := [(.pointer (some ⟨b, 0, none⟩)), (.func (.func 76) #[] #[])]) (args := [(.pointer (some ⟨b, 0, none⟩)), (.func (.func 76) #[] #[])]) Tryd.call42 Opd.f (.cons (Opd.t rfl) (.cons (Opd.t rfl) .nil)) rfl rfl (ih_expr_read_lower_s5 (hs.re 12 [1, 2, 3, 10, 11, 0, 2, 3, 4, 5, 6, 7, 8, 9, 10, 11] rfl) hr31) ?_
    rintro _ w34 ⟨v32, R33, rfl, hs⟩
    replace hs := Sat.n15 (Γ := Φ) hs rfl
    refine WL_nil ?_
    refine At_QK (allJ_cons ((hs.box (i := 4) rfl).part 3 rfl) allJ_nil) ?_
    refine WD_loud (pend' := [(2, fun w => CellsAt w ⟨b24, 3, none⟩ [(.int .i64 r21.2.2.2)])]) rfl (by kernel_rfl) ?_
    replace hs := hs.freeze (i := 0) rfl
    refine WS_lit (A := RExpr) (xs := [r30.1]) (zs := [(.int .i64 0), (.int .i64 0), (.int .i64 0), (sl (none, 0, 0))]) (cells := [(.int .i64 r30.1.op), (.int .i64 r30.1.n), (.int .i64 r30.1.at_), (sl v32)]) (parts := [(0, (.tmp 37))]) hs Tryd.underlying22 ti24 rfl rfl rfl (.cons (Opd.t rfl) .nil) (by kernel_rfl) rfl (ARd.cons (A := RExpr) (c := [(.int .i64 r30.1.op), (.int .i64 r30.1.n), (.int .i64 r30.1.at_), (sl v32)]) (x := r30.1) (RExpr_closeE (⟨_, rfl, (hs.sl (i := 0) rfl)⟩)) ARd.nil) rfl ?_
    intro b35 w36 hs
    replace hs := Sat.n16 (Γ := Φ) hs rfl
    refine WL_nil ?_
    refine At_QK (allJ_cons ((hs.box (i := 5) rfl).part 3 rfl) allJ_nil) ?_
    refine WD_pure (fun _ => (Run_build (parts := [(0, (.tmp 32)), (2, (.tmp 34)), (3, (.tmp 38))]) (v := (.agg #[(.int .i64 r11.1), (.int .i64 0), (.int .i64 r21.2.2.2), (sl (some ⟨b35, 0, none⟩, 1, 1))])) (.cons (Opd.t rfl) (.cons (Opd.t rfl) (.cons (Opd.t rfl) .nil))) (fun _ => by kernel_rfl))) rfl rfl rfl rfl <| ?_
    refine WD_loud (pend' := []) rfl (by kernel_rfl) ?_
    refine WS_store (us := [(.int .i64 r11.1), (.int .i64 0), (.int .i64 r21.2.2.2), (sl (some ⟨b35, 0, none⟩, 1, 1))]) (vs' := [(.int .i64 r11.1), (.int .i64 0), (.int .i64 r21.2.2.2), (sl (some ⟨b35, 0, none⟩, 1, 1))]) hs 10 rfl ti24 (Opd.t rfl) (Opd.t rfl) rfl rfl rfl rfl rfl ?_
    intro w37 hs
    replace hs := Sat.n16 (Γ := Φ) hs rfl
    refine WL_nil ?_
    refine At_QK allJ_nil ?_
    refine WD_nil ?_
    refine At_then ?_
    refine WC_ret ?_
    refine At_r1 rfl (ResIs.cA (vs := [(.int .i64 r11.1), (.int .i64 0), (.int .i64 r21.2.2.2), (sl (some ⟨b35, 0, none⟩, 1, 1))]) rfl Tryd.underlying24 rfl ti24 ((hs.box (i := 10) rfl).part 0 rfl) rfl) ?_
    cases hm
    exact ⟨(some ⟨b35, 0, none⟩, 1, 1), [b35], rfl, (hs.re 16 [0, 2, 3, 4] rfl)⟩

set_option maxRecDepth 100000 in
set_option maxHeartbeats 4000000 in
theorem expr_read_neg_ok {k_expr_read_lower : ((List (Int × Str × Int × Int)) × Int × (List Str) × Int × Int × Int) → Option (Ex × Int × Int × Int × Int)} {k_expr_read_lower_s5 : ((List (Int × Str × Int × Int)) × Int × (List Str) × Int × Int × Int) → Option (Ex × Int × Int × Int × Int)} (ih_expr_read_lower : ∀ {Φ : Ctx} {w : World} {l : (List (Int × Str × Int × Int))} {at_ : Int} {names : (List Str)} {deep : Int} {bad : Int} {place : Int} {b : Nat} {v2 : SLV} {v4 : SLV} {r : (Ex × Int × Int × Int × Int)}, Sat (box b 71 [(sl v2), (.int .i64 at_), (sl v4), (.int .i64 deep), (.int .i64 bad), (.int .i64 place)] :: imm (RSl (RP (RI .i64) (RP RS (RP (RI .i64) (RI .i64))))) [sl v2] l :: imm (RSl RS) [sl v4] names :: gl 0 (keysL.map S) :: gl 1 (textsL.map S) :: Φ) w → k_expr_read_lower (l, at_, names, deep, bad, place) = some r → CallsR Tryd.prog 42 [(.pointer (some ⟨b, 0, none⟩)), (.func (.func 43) #[] #[])] w (fun v w' => ∃ v3 : SLV, ∃ R4 : List Nat, v = (.agg #[(.int .i64 r.1.op), (.int .i64 r.1.n), (.int .i64 r.1.at_), (sl v3)]) ∧ Sat (osl RExpr 24 (sl v3) r.1.l R4 :: box b 71 [(sl v2), (.int .i64 r.2.1), (sl v4), (.int .i64 r.2.2.1), (.int .i64 r.2.2.2.1), (.int .i64 r.2.2.2.2)] :: imm (RSl (RP (RI .i64) (RP RS (RP (RI .i64) (RI .i64))))) [sl v2] l :: imm (RSl RS) [sl v4] names :: Φ) w')) (ih_expr_read_lower_s5 : ∀ {Φ : Ctx} {w : World} {l : (List (Int × Str × Int × Int))} {at_ : Int} {names : (List Str)} {deep : Int} {bad : Int} {place : Int} {b : Nat} {v2 : SLV} {v4 : SLV} {r : (Ex × Int × Int × Int × Int)}, Sat (box b 71 [(sl v2), (.int .i64 at_), (sl v4), (.int .i64 deep), (.int .i64 bad), (.int .i64 place)] :: imm (RSl (RP (RI .i64) (RP RS (RP (RI .i64) (RI .i64))))) [sl v2] l :: imm (RSl RS) [sl v4] names :: gl 0 (keysL.map S) :: gl 1 (textsL.map S) :: Φ) w → k_expr_read_lower_s5 (l, at_, names, deep, bad, place) = some r → CallsR Tryd.prog 42 [(.pointer (some ⟨b, 0, none⟩)), (.func (.func 76) #[] #[])] w (fun v w' => ∃ v3 : SLV, ∃ R4 : List Nat, v = (.agg #[(.int .i64 r.1.op), (.int .i64 r.1.n), (.int .i64 r.1.at_), (sl v3)]) ∧ Sat (osl RExpr 24 (sl v3) r.1.l R4 :: box b 71 [(sl v2), (.int .i64 r.2.1), (sl v4), (.int .i64 r.2.2.1), (.int .i64 r.2.2.2.1), (.int .i64 r.2.2.2.2)] :: imm (RSl (RP (RI .i64) (RP RS (RP (RI .i64) (RI .i64))))) [sl v2] l :: imm (RSl RS) [sl v4] names :: Φ) w')) {Φ : Ctx} {w : World} {l : (List (Int × Str × Int × Int))} {at_ : Int} {names : (List Str)} {deep : Int} {bad : Int} {place : Int} {b : Nat} {v2 : SLV} {v4 : SLV} {r : (Ex × Int × Int × Int × Int)} (hs : Sat (box b 71 [(sl v2), (.int .i64 at_), (sl v4), (.int .i64 deep), (.int .i64 bad), (.int .i64 place)] :: imm (RSl (RP (RI .i64) (RP RS (RP (RI .i64) (RI .i64))))) [sl v2] l :: imm (RSl RS) [sl v4] names :: gl 0 (keysL.map S) :: gl 1 (textsL.map S) :: Φ) w) (hm : expr_read_neg k_expr_read_lower k_expr_read_lower_s5 l at_ names deep bad place = some r) :
    CallsR Tryd.prog 76 [(.pointer (some ⟨b, 0, none⟩))] w (fun v w' => ∃ v3 : SLV, ∃ R4 : List Nat, v = (.agg #[(.int .i64 r.1.op), (.int .i64 r.1.n), (.int .i64 r.1.at_), (sl v3)]) ∧ Sat (osl RExpr 24 (sl v3) r.1.l R4 :: box b 71 [(sl v2), (.int .i64 r.2.1), (sl v4), (.int .i64 r.2.2.1), (.int .i64 r.2.2.2.1), (.int .i64 r.2.2.2.2)] :: imm (RSl (RP (RI .i64) (RP RS (RP (RI .i64) (RI .i64))))) [sl v2] l :: imm (RSl RS) [sl v4] names :: Φ) w') := by
  refine CallsX_enter Tryd.func76 rfl Tryd.ntmps76 rfl ?_
  unfold expr_read_neg at hm
  refine WC_seq ?_
  refine WC_region ?_
  refine WS_alloc (zs := [(.int .i64 0), (.int .i64 0), (.int .i64 0), (sl (none, 0, 0))]) hs ti24 rfl rfl ?_
  intro b9 w10 hs
  replace hs := Sat.n6 (Γ := Φ) hs rfl
  refine WL_nil ?_
  refine At_then ?_
  refine WC_seq ?_
  refine WC_region ?_
  refine WL_op (Run_move (Opd.t rfl)) rfl rfl rfl rfl <| ?_
  refine WS_lit (A := (RI .i64)) (xs := [6]) (zs := [(.int .i64 0)]) (cells := [(.int .i64 6)]) (parts := [(0, (.const (.int .i64 6)))]) hs Tryd.underlying25 ti3 rfl rfl rfl (.cons Opd.c .nil) (by kernel_rfl) rfl (ARd.cons (A := (RI .i64)) (c := [(.int .i64 6)]) (x := 6) rfl ARd.nil) rfl ?_
  intro b11 w12 hs
  replace hs := Sat.n7 (Γ := Φ) hs rfl
  replace hs := hs.freeze (i := 0) rfl
  obtain ⟨r13, hr14, hm⟩ := bind_some' hm
  refine WL_call (f := 71) (first := []) (cap := []) (xs := [(.tmp 3), (.func 76), (.func 77), (.tmp 4)]) (vs := [(.pointer (some ⟨b, 0, none⟩)), (.func (.func 76) #[] #[]), (.func (.func 77) #[] #[]), (sl (some ⟨b11, 0, none⟩, 1, 1))]) (args := [(.pointer (some ⟨b, 0, none⟩)), (.func (.func 76) #[] #[]), (.func (.func 77) #[] #[]), (sl (some ⟨b11, 0, none⟩, 1, 1))]) Tryd.call71 Opd.f (.cons (Opd.t rfl) (.cons Opd.f (.cons Opd.f (.cons (Opd.t rfl) .nil)))) rfl rfl (expr_read_before_s2_ok (@ih_expr_read_lower) (@ih_expr_read_lower_s5) (hs.re 7 [2, 0, 3, 4, 5, 6, 0, 1, 3, 4, 5, 6] rfl) hr14) ?_
  rintro _ w17 ⟨v15, R16, rfl, hs⟩
  replace hs := Sat.n10 (Γ := Φ) hs rfl
  refine WS_store (us := [(.int .i64 r13.1.op), (.int .i64 r13.1.n), (.int .i64 r13.1.at_), (sl v15)]) (vs' := [(.int .i64 r13.1.op), (.int .i64 r13.1.n), (.int .i64 r13.1.at_), (sl v15)]) hs 5 rfl ti24 (Opd.t rfl) (Opd.t rfl) rfl rfl rfl rfl rfl ?_
  intro w18 hs
  replace hs := Sat.n10 (Γ := Φ) hs rfl
  refine WL_nil ?_
  refine At_then ?_
  refine WC_ret ?_
  refine At_r1 rfl (ResIs.cA (vs := [(.int .i64 r13.1.op), (.int .i64 r13.1.n), (.int .i64 r13.1.at_), (sl v15)]) rfl Tryd.underlying24 rfl ti24 ((hs.box (i := 5) rfl).part 0 rfl) rfl) ?_
  cases hm
  exact ⟨v15, R16, rfl, (hs.re 10 [0, 1, 2, 3] rfl)⟩

set_option maxRecDepth 100000 in
set_option maxHeartbeats 4000000 in
theorem expr_read_lower_s5_F_ok {k_expr_read_lower : ((List (Int × Str × Int × Int)) × Int × (List Str) × Int × Int × Int) → Option (Ex × Int × Int × Int × Int)} {k_expr_read_lower_s5 : ((List (Int × Str × Int × Int)) × Int × (List Str) × Int × Int × Int) → Option (Ex × Int × Int × Int × Int)} (ih_expr_read_lower : ∀ {Φ : Ctx} {w : World} {l : (List (Int × Str × Int × Int))} {at_ : Int} {names : (List Str)} {deep : Int} {bad : Int} {place : Int} {b : Nat} {v2 : SLV} {v4 : SLV} {r : (Ex × Int × Int × Int × Int)}, Sat (box b 71 [(sl v2), (.int .i64 at_), (sl v4), (.int .i64 deep), (.int .i64 bad), (.int .i64 place)] :: imm (RSl (RP (RI .i64) (RP RS (RP (RI .i64) (RI .i64))))) [sl v2] l :: imm (RSl RS) [sl v4] names :: gl 0 (keysL.map S) :: gl 1 (textsL.map S) :: Φ) w → k_expr_read_lower (l, at_, names, deep, bad, place) = some r → CallsR Tryd.prog 42 [(.pointer (some ⟨b, 0, none⟩)), (.func (.func 43) #[] #[])] w (fun v w' => ∃ v3 : SLV, ∃ R4 : List Nat, v = (.agg #[(.int .i64 r.1.op), (.int .i64 r.1.n), (.int .i64 r.1.at_), (sl v3)]) ∧ Sat (osl RExpr 24 (sl v3) r.1.l R4 :: box b 71 [(sl v2), (.int .i64 r.2.1), (sl v4), (.int .i64 r.2.2.1), (.int .i64 r.2.2.2.1), (.int .i64 r.2.2.2.2)] :: imm (RSl (RP (RI .i64) (RP RS (RP (RI .i64) (RI .i64))))) [sl v2] l :: imm (RSl RS) [sl v4] names :: Φ) w')) (ih_expr_read_lower_s5 : ∀ {Φ : Ctx} {w : World} {l : (List (Int × Str × Int × Int))} {at_ : Int} {names : (List Str)} {deep : Int} {bad : Int} {place : Int} {b : Nat} {v2 : SLV} {v4 : SLV} {r : (Ex × Int × Int × Int × Int)}, Sat (box b 71 [(sl v2), (.int .i64 at_), (sl v4), (.int .i64 deep), (.int .i64 bad), (.int .i64 place)] :: imm (RSl (RP (RI .i64) (RP RS (RP (RI .i64) (RI .i64))))) [sl v2] l :: imm (RSl RS) [sl v4] names :: gl 0 (keysL.map S) :: gl 1 (textsL.map S) :: Φ) w → k_expr_read_lower_s5 (l, at_, names, deep, bad, place) = some r → CallsR Tryd.prog 42 [(.pointer (some ⟨b, 0, none⟩)), (.func (.func 76) #[] #[])] w (fun v w' => ∃ v3 : SLV, ∃ R4 : List Nat, v = (.agg #[(.int .i64 r.1.op), (.int .i64 r.1.n), (.int .i64 r.1.at_), (sl v3)]) ∧ Sat (osl RExpr 24 (sl v3) r.1.l R4 :: box b 71 [(sl v2), (.int .i64 r.2.1), (sl v4), (.int .i64 r.2.2.1), (.int .i64 r.2.2.2.1), (.int .i64 r.2.2.2.2)] :: imm (RSl (RP (RI .i64) (RP RS (RP (RI .i64) (RI .i64))))) [sl v2] l :: imm (RSl RS) [sl v4] names :: Φ) w')) {Φ : Ctx} {w : World} {l : (List (Int × Str × Int × Int))} {at_ : Int} {names : (List Str)} {deep : Int} {bad : Int} {place : Int} {b : Nat} {v2 : SLV} {v4 : SLV} {r : (Ex × Int × Int × Int × Int)} (hs : Sat (box b 71 [(sl v2), (.int .i64 at_), (sl v4), (.int .i64 deep), (.int .i64 bad), (.int .i64 place)] :: imm (RSl (RP (RI .i64) (RP RS (RP (RI .i64) (RI .i64))))) [sl v2] l :: imm (RSl RS) [sl v4] names :: gl 0 (keysL.map S) :: gl 1 (textsL.map S) :: Φ) w) (hm : expr_read_lower_s5_F k_expr_read_lower k_expr_read_lower_s5 l at_ names deep bad place = some r) :
    CallsR Tryd.prog 42 [(.pointer (some ⟨b, 0, none⟩)), (.func (.func 76) #[] #[])] w (fun v w' => ∃ v3 : SLV, ∃ R4 : List Nat, v = (.agg #[(.int .i64 r.1.op), (.int .i64 r.1.n), (.int .i64 r.1.at_), (sl v3)]) ∧ Sat (osl RExpr 24 (sl v3) r.1.l R4 :: box b 71 [(sl v2), (.int .i64 r.2.1), (sl v4), (.int .i64 r.2.2.1), (.int .i64 r.2.2.2.1), (.int .i64 r.2.2.2.2)] :: imm (RSl (RP (RI .i64) (RP RS (RP (RI .i64) (RI .i64))))) [sl v2] l :: imm (RSl RS) [sl v4] names :: Φ) w') := by
  refine CallsX_enter Tryd.func42 rfl Tryd.ntmps42 rfl ?_
  unfold expr_read_lower_s5_F at hm
  refine WC_seq ?_
  refine WC_region ?_
  refine WS_alloc (zs := [(.int .i64 0), (.int .i64 0), (.int .i64 0), (sl (none, 0, 0))]) hs ti24 rfl rfl ?_
  intro b9 w10 hs
  replace hs := Sat.n6 (Γ := Φ) hs rfl
  refine WL_nil ?_
  refine At_then ?_
  refine WC_seq ?_
  refine WC_seq ?_
  refine WC_region ?_
  refine WL_op (Run_move (Opd.t rfl)) rfl rfl rfl rfl <| WL_op (Run_nilP (Opd.t rfl)) rfl rfl rfl rfl <| WL_op (Run_fieldAddr fo71_3 (Opd.t rfl)) rfl rfl rfl rfl <| WL_op (Run_load1 (v := (.int .i64 deep)) Tryd.underlying3 rfl (Opd.t rfl) (fun _ => (hs.box (i := 1) rfl).part 3 rfl)) rfl rfl rfl rfl <| WL_op (Run_geI (Opd.t rfl) Opd.c) rfl rfl rfl rfl <| ?_
  refine WL_nil ?_
  refine At_then ?_
  refine WC_cond (Opd.t rfl) (fun hc11 => ?_) (fun hc11 => ?_)
  ·
    replace hm := bif_t hc11 hm
    refine WC_seq ?_
    refine WC_region ?_
    refine WL_op (Run_move (Opd.t rfl)) rfl rfl rfl rfl <| ?_
    obtain ⟨r12, hr13, hm⟩ := bind_some' hm
    refine WL_call (f := 46) (first := []) (cap := []) (xs := [(.tmp 11), (.const (.int .i64 9))]) (vs := [(.pointer (some ⟨b, 0, none⟩)), (.int .i64 9)]) (args := [(.pointer (some ⟨b, 0, none⟩)), (.int .i64 9)]) Tryd.call46 Opd.f (.cons (Opd.t rfl) (.cons Opd.c .nil)) rfl rfl (expr_read_fail_ok (hs.re 6 [1, 2, 3, 0, 2, 3, 4, 5] rfl) hr13) ?_
    rintro _ w16 ⟨v14, R15, rfl, hs⟩
    replace hs := Sat.n9 (Γ := Φ) hs rfl
    refine WS_store (us := [(.int .i64 r12.1.op), (.int .i64 r12.1.n), (.int .i64 r12.1.at_), (sl v14)]) (vs' := [(.int .i64 r12.1.op), (.int .i64 r12.1.n), (.int .i64 r12.1.at_), (sl v14)]) hs 4 rfl ti24 (Opd.t rfl) (Opd.t rfl) rfl rfl rfl rfl rfl ?_
    intro w17 hs
    replace hs := Sat.n9 (Γ := Φ) hs rfl
    refine WL_nil ?_
    refine At_then ?_
    refine WC_ret ?_
    refine At_then_ret <| ?_
    refine At_r1 rfl (ResIs.cA (vs := [(.int .i64 r12.1.op), (.int .i64 r12.1.n), (.int .i64 r12.1.at_), (sl v14)]) rfl Tryd.underlying24 rfl ti24 ((hs.box (i := 4) rfl).part 0 rfl) rfl) ?_
    cases hm
    exact ⟨v14, R15, rfl, (hs.re 9 [0, 1, 2, 3] rfl)⟩
  ·
    replace hm := bif_f hc11 hm
    refine WC_skip ?_
    refine At_then ?_
    refine WC_seq ?_
    refine WC_region ?_
    refine WL_op (Run_move (Opd.t rfl)) rfl rfl rfl rfl <| WL_op (Run_nilP (Opd.t rfl)) rfl rfl rfl rfl <| WL_op (Run_fieldAddr fo71_3 (Opd.t rfl)) rfl rfl rfl rfl <| WL_op (Run_load1 (v := (.int .i64 deep)) Tryd.underlying3 rfl (Opd.t rfl) (fun _ => (hs.box (i := 1) rfl).part 3 rfl)) rfl rfl rfl rfl <| WL_op (Run_add (Opd.t rfl) Opd.c) rfl rfl rfl rfl <| WL_op (Run_nilP (Opd.t rfl)) rfl rfl rfl rfl <| WL_op (Run_fieldAddr fo71_3 (Opd.t rfl)) rfl rfl rfl rfl <| ?_
    refine WS_store (us := [(.int .i64 (IntKind.i64.wrap (deep + 1)))]) (vs' := [(sl v2), (.int .i64 at_), (sl v4), (.int .i64 (IntKind.i64.wrap (deep + 1))), (.int .i64 bad), (.int .i64 place)]) hs 1 rfl ti3 (Opd.t rfl) (Opd.t rfl) rfl rfl rfl rfl rfl ?_
    intro w18 hs
    replace hs := Sat.n6 (Γ := Φ) hs rfl
    refine WL_nil ?_
    refine At_then ?_
    refine WC_seq ?_
    refine WC_region ?_
    refine WL_op (Run_move (Opd.t rfl)) rfl rfl rfl rfl <| WL_op (Run_move (Opd.t rfl)) rfl rfl rfl rfl <| ?_
    obtain ⟨r19, hr20, hm⟩ := bind_some' hm
    refine WL_call (f := 76) (first := []) (cap := []) (xs := [(.tmp 21)]) (vs := [(.pointer (some ⟨b, 0, none⟩))]) (args := [(.pointer (some ⟨b, 0, none⟩))]) Tryd.call76 (Opd.t rfl) (.cons (Opd.t rfl) .nil) rfl rfl (expr_read_neg_ok (@ih_expr_read_lower) (@ih_expr_read_lower_s5) (hs.re 6 [1, 2, 3, 4, 5, 0, 2, 3, 4, 5] rfl) hr20) ?_
    rintro _ w23 ⟨v21, R22, rfl, hs⟩
    replace hs := Sat.n9 (Γ := Φ) hs rfl
    refine WS_alloc (zs := [(.int .i64 0), (.int .i64 0), (.int .i64 0), (sl (none, 0, 0))]) hs ti24 rfl rfl ?_
    intro b24 w25 hs
    replace hs := Sat.n10 (Γ := Φ) hs rfl
    refine WS_store (us := [(.int .i64 r19.1.op), (.int .i64 r19.1.n), (.int .i64 r19.1.at_), (sl v21)]) (vs' := [(.int .i64 r19.1.op), (.int .i64 r19.1.n), (.int .i64 r19.1.at_), (sl v21)]) hs 0 rfl ti24 (Opd.t rfl) (Opd.t rfl) rfl rfl rfl rfl rfl ?_
    intro w26 hs
    replace hs := Sat.n10 (Γ := Φ) hs rfl
    refine WL_nil ?_
    refine At_then ?_
    refine WC_seq ?_
    refine WC_region ?_
    refine WL_op (Run_move (Opd.t rfl)) rfl rfl rfl rfl <| WL_op (Run_nilP (Opd.t rfl)) rfl rfl rfl rfl <| WL_op (Run_fieldAddr fo71_3 (Opd.t rfl)) rfl rfl rfl rfl <| WL_op (Run_load1 (v := (.int .i64 r19.2.2.1)) Tryd.underlying3 rfl (Opd.t rfl) (fun _ => (hs.box (i := 2) rfl).part 3 rfl)) rfl rfl rfl rfl <| WL_op (Run_sub (Opd.t rfl) Opd.c) rfl rfl rfl rfl <| WL_op (Run_nilP (Opd.t rfl)) rfl rfl rfl rfl <| WL_op (Run_fieldAddr fo71_3 (Opd.t rfl)) rfl rfl rfl rfl <| ?_
    refine WS_store (us := [(.int .i64 (IntKind.i64.wrap (r19.2.2.1 - 1)))]) (vs' := [(sl v2), (.int .i64 r19.2.1), (sl v4), (.int .i64 (IntKind.i64.wrap (r19.2.2.1 - 1))), (.int .i64 r19.2.2.2.1), (.int .i64 r19.2.2.2.2)]) hs 2 rfl ti3 (Opd.t rfl) (Opd.t rfl) rfl rfl rfl rfl rfl ?_
    intro w27 hs
    replace hs := Sat.n10 (Γ := Φ) hs rfl
    refine WL_nil ?_
    refine At_then ?_
    refine WC_seq ?_
    refine WC_region ?_
    refine WL_op (Run_loadA (vs := [(.int .i64 r19.1.op), (.int .i64 r19.1.n), (.int .i64 r19.1.at_), (sl v21)]) Tryd.underlying24 rfl ti24 (Opd.t rfl) (fun _ => (hs.box (i := 0) rfl).part 0 rfl) rfl) rfl rfl rfl rfl <| ?_
    refine WS_store (us := [(.int .i64 r19.1.op), (.int .i64 r19.1.n), (.int .i64 r19.1.at_), (sl v21)]) (vs' := [(.int .i64 r19.1.op), (.int .i64 r19.1.n), (.int .i64 r19.1.at_), (sl v21)]) hs 5 rfl ti24 (Opd.t rfl) (Opd.t rfl) rfl rfl rfl rfl rfl ?_
    intro w28 hs
    replace hs := Sat.n10 (Γ := Φ) hs rfl
    refine WL_nil ?_
    refine At_then ?_
    refine WC_ret ?_
    refine At_r1 rfl (ResIs.cA (vs := [(.int .i64 r19.1.op), (.int .i64 r19.1.n), (.int .i64 r19.1.at_), (sl v21)]) rfl Tryd.underlying24 rfl ti24 ((hs.box (i := 5) rfl).part 0 rfl) rfl) ?_
    cases hm
    exact ⟨v21, R22, rfl, (hs.re 10 [1, 2, 3, 4] rfl)⟩

set_option maxRecDepth 100000 in
set_option maxHeartbeats 4000000 in
theorem expr_read_lower_s5_ok {k_expr_read_lower : ((List (Int × Str × Int × Int)) × Int × (List Str) × Int × Int × Int) → Option (Ex × Int × Int × Int × Int)} (ih_expr_read_lower : ∀ {Φ : Ctx} {w : World} {l : (List (Int × Str × Int × Int))} {at_ : Int} {names : (List Str)} {deep : Int} {bad : Int} {place : Int} {b : Nat} {v2 : SLV} {v4 : SLV} {r : (Ex × Int × Int × Int × Int)}, Sat (box b 71 [(sl v2), (.int .i64 at_), (sl v4), (.int .i64 deep), (.int .i64 bad), (.int .i64 place)] :: imm (RSl (RP (RI .i64) (RP RS (RP (RI .i64) (RI .i64))))) [sl v2] l :: imm (RSl RS) [sl v4] names :: gl 0 (keysL.map S) :: gl 1 (textsL.map S) :: Φ) w → k_expr_read_lower (l, at_, names, deep, bad, place) = some r → CallsR Tryd.prog 42 [(.pointer (some ⟨b, 0, none⟩)), (.func (.func 43) #[] #[])] w (fun v w' => ∃ v3 : SLV, ∃ R4 : List Nat, v = (.agg #[(.int .i64 r.1.op), (.int .i64 r.1.n), (.int .i64 r.1.at_), (sl v3)]) ∧ Sat (osl RExpr 24 (sl v3) r.1.l R4 :: box b 71 [(sl v2), (.int .i64 r.2.1), (sl v4), (.int .i64 r.2.2.1), (.int .i64 r.2.2.2.1), (.int .i64 r.2.2.2.2)] :: imm (RSl (RP (RI .i64) (RP RS (RP (RI .i64) (RI .i64))))) [sl v2] l :: imm (RSl RS) [sl v4] names :: Φ) w')) {Φ : Ctx} {w : World} {l : (List (Int × Str × Int × Int))} {at_ : Int} {names : (List Str)} {deep : Int} {bad : Int} {place : Int} {b : Nat} {v2 : SLV} {v4 : SLV} {r : (Ex × Int × Int × Int × Int)} (hs : Sat (box b 71 [(sl v2), (.int .i64 at_), (sl v4), (.int .i64 deep), (.int .i64 bad), (.int .i64 place)] :: imm (RSl (RP (RI .i64) (RP RS (RP (RI .i64) (RI .i64))))) [sl v2] l :: imm (RSl RS) [sl v4] names :: gl 0 (keysL.map S) :: gl 1 (textsL.map S) :: Φ) w) (hm : expr_read_lower_s5 k_expr_read_lower l at_ names deep bad place = some r) :
    CallsR Tryd.prog 42 [(.pointer (some ⟨b, 0, none⟩)), (.func (.func 76) #[] #[])] w (fun v w' => ∃ v3 : SLV, ∃ R4 : List Nat, v = (.agg #[(.int .i64 r.1.op), (.int .i64 r.1.n), (.int .i64 r.1.at_), (sl v3)]) ∧ Sat (osl RExpr 24 (sl v3) r.1.l R4 :: box b 71 [(sl v2), (.int .i64 r.2.1), (sl v4), (.int .i64 r.2.2.1), (.int .i64 r.2.2.2.1), (.int .i64 r.2.2.2.2)] :: imm (RSl (RP (RI .i64) (RP RS (RP (RI .i64) (RI .i64))))) [sl v2] l :: imm (RSl RS) [sl v4] names :: Φ) w') := by
  have key : ∀ (N : Nat) {Φ : Ctx} {w : World} {l : (List (Int × Str × Int × Int))} {at_ : Int} {names : (List Str)} {deep : Int} {bad : Int} {place : Int} {b : Nat} {v2 : SLV} {v4 : SLV} {r : (Ex × Int × Int × Int × Int)}, Sat (box b 71 [(sl v2), (.int .i64 at_), (sl v4), (.int .i64 deep), (.int .i64 bad), (.int .i64 place)] :: imm (RSl (RP (RI .i64) (RP RS (RP (RI .i64) (RI .i64))))) [sl v2] l :: imm (RSl RS) [sl v4] names :: gl 0 (keysL.map S) :: gl 1 (textsL.map S) :: Φ) w → fixN (fun k (s : ((List (Int × Str × Int × Int)) × Int × (List Str) × Int × Int × Int)) => expr_read_lower_s5_F k_expr_read_lower k s.1 s.2.1 s.2.2.1 s.2.2.2.1 s.2.2.2.2.1 s.2.2.2.2.2) N (l, at_, names, deep, bad, place) = some r → CallsR Tryd.prog 42 [(.pointer (some ⟨b, 0, none⟩)), (.func (.func 76) #[] #[])] w (fun v w' => ∃ v3 : SLV, ∃ R4 : List Nat, v = (.agg #[(.int .i64 r.1.op), (.int .i64 r.1.n), (.int .i64 r.1.at_), (sl v3)]) ∧ Sat (osl RExpr 24 (sl v3) r.1.l R4 :: box b 71 [(sl v2), (.int .i64 r.2.1), (sl v4), (.int .i64 r.2.2.1), (.int .i64 r.2.2.2.1), (.int .i64 r.2.2.2.2)] :: imm (RSl (RP (RI .i64) (RP RS (RP (RI .i64) (RI .i64))))) [sl v2] l :: imm (RSl RS) [sl v4] names :: Φ) w') := by
    intro N
    induction N with
    | zero => intros; rename_i h; cases h
    | succ N ih => intros; rename_i hs hm; rw [fixN_succ] at hm; exact expr_read_lower_s5_F_ok (@ih_expr_read_lower) (@ih) hs hm
  unfold expr_read_lower_s5 at hm
  exact key FUEL hs hm

set_option maxRecDepth 100000 in
set_option maxHeartbeats 4000000 in
theorem expr_read_deepNeg_ok {k_expr_read_lower : ((List (Int × Str × Int × Int)) × Int × (List Str) × Int × Int × Int) → Option (Ex × Int × Int × Int × Int)} (ih_expr_read_lower : ∀ {Φ : Ctx} {w : World} {l : (List (Int × Str × Int × Int))} {at_ : Int} {names : (List Str)} {deep : Int} {bad : Int} {place : Int} {b : Nat} {v2 : SLV} {v4 : SLV} {r : (Ex × Int × Int × Int × Int)}, Sat (box b 71 [(sl v2), (.int .i64 at_), (sl v4), (.int .i64 deep), (.int .i64 bad), (.int .i64 place)] :: imm (RSl (RP (RI .i64) (RP RS (RP (RI .i64) (RI .i64))))) [sl v2] l :: imm (RSl RS) [sl v4] names :: gl 0 (keysL.map S) :: gl 1 (textsL.map S) :: Φ) w → k_expr_read_lower (l, at_, names, deep, bad, place) = some r → CallsR Tryd.prog 42 [(.pointer (some ⟨b, 0, none⟩)), (.func (.func 43) #[] #[])] w (fun v w' => ∃ v3 : SLV, ∃ R4 : List Nat, v = (.agg #[(.int .i64 r.1.op), (.int .i64 r.1.n), (.int .i64 r.1.at_), (sl v3)]) ∧ Sat (osl RExpr 24 (sl v3) r.1.l R4 :: box b 71 [(sl v2), (.int .i64 r.2.1), (sl v4), (.int .i64 r.2.2.1), (.int .i64 r.2.2.2.1), (.int .i64 r.2.2.2.2)] :: imm (RSl (RP (RI .i64) (RP RS (RP (RI .i64) (RI .i64))))) [sl v2] l :: imm (RSl RS) [sl v4] names :: Φ) w')) {Φ : Ctx} {w : World} {l : (List (Int × Str × Int × Int))} {at_ : Int} {names : (List Str)} {deep : Int} {bad : Int} {place : Int} {b : Nat} {v2 : SLV} {v4 : SLV} {r : (Ex × Int × Int × Int × Int)} (hs : Sat (box b 71 [(sl v2), (.int .i64 at_), (sl v4), (.int .i64 deep), (.int .i64 bad), (.int .i64 place)] :: imm (RSl (RP (RI .i64) (RP RS (RP (RI .i64) (RI .i64))))) [sl v2] l :: imm (RSl RS) [sl v4] names :: gl 0 (keysL.map S) :: gl 1 (textsL.map S) :: Φ) w) (hm : expr_read_deepNeg k_expr_read_lower l at_ names deep bad place = some r) :
    CallsR Tryd.prog 75 [(.pointer (some ⟨b, 0, none⟩))] w (fun v w' => ∃ v3 : SLV, ∃ R4 : List Nat, v = (.agg #[(.int .i64 r.1.op), (.int .i64 r.1.n), (.int .i64 r.1.at_), (sl v3)]) ∧ Sat (osl RExpr 24 (sl v3) r.1.l R4 :: box b 71 [(sl v2), (.int .i64 r.2.1), (sl v4), (.int .i64 r.2.2.1), (.int .i64 r.2.2.2.1), (.int .i64 r.2.2.2.2)] :: imm (RSl (RP (RI .i64) (RP RS (RP (RI .i64) (RI .i64))))) [sl v2] l :: imm (RSl RS) [sl v4] names :: Φ) w') := by
  refine CallsX_enter Tryd.func75 rfl Tryd.ntmps75 rfl ?_
  unfold expr_read_deepNeg at hm
  refine WC_seq ?_
  refine WC_region ?_
  refine WS_alloc (zs := [(.int .i64 0), (.int .i64 0), (.int .i64 0), (sl (none, 0, 0))]) hs ti24 rfl rfl ?_
  intro b9 w10 hs
  replace hs := Sat.n6 (Γ := Φ) hs rfl
  refine WL_nil ?_
  refine At_then ?_
  refine WC_seq ?_
  refine WC_region ?_
  refine WL_op (Run_move (Opd.t rfl)) rfl rfl rfl rfl <| ?_
  obtain ⟨r11, hr12, hm⟩ := bind_some' hm
  refine WL_call (f := 42) (first := []) (cap := []) (xs := [(.tmp 3), (.func 76)]) (vs := [(.pointer (some ⟨b, 0, none⟩)), (.func (.func 76) #[] #[])]) (args := [(.pointer (some ⟨b, 0, none⟩)), (.func (.func 76) #[] #[])]) Tryd.call42 Opd.f (.cons (Opd.t rfl) (.cons Opd.f .nil)) rfl rfl (expr_read_lower_s5_ok (@ih_expr_read_lower) (hs.re 6 [1, 2, 3, 4, 5, 0, 2, 3, 4, 5] rfl) hr12) ?_
  rintro _ w15 ⟨v13, R14, rfl, hs⟩
  replace hs := Sat.n9 (Γ := Φ) hs rfl
  refine WS_store (us := [(.int .i64 r11.1.op), (.int .i64 r11.1.n), (.int .i64 r11.1.at_), (sl v13)]) (vs' := [(.int .i64 r11.1.op), (.int .i64 r11.1.n), (.int .i64 r11.1.at_), (sl v13)]) hs 4 rfl ti24 (Opd.t rfl) (Opd.t rfl) rfl rfl rfl rfl rfl ?_
  intro w16 hs
  replace hs := Sat.n9 (Γ := Φ) hs rfl
  refine WL_nil ?_
  refine At_then ?_
  refine WC_ret ?_
  refine At_r1 rfl (ResIs.cA (vs := [(.int .i64 r11.1.op), (.int .i64 r11.1.n), (.int .i64 r11.1.at_), (sl v13)]) rfl Tryd.underlying24 rfl ti24 ((hs.box (i := 4) rfl).part 0 rfl) rfl) ?_
  cases hm
  exact ⟨v13, R14, rfl, (hs.re 9 [0, 1, 2, 3] rfl)⟩

end Go.Proofs.YtmeombbmhpcacaaDoor
