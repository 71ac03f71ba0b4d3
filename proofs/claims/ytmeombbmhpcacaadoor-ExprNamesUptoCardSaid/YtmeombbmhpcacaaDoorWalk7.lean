/- Printed by a program: the walks. -/
import Derived.Test.YtmeombbmhpcacaaDoorWalk6
namespace Go.Proofs.YtmeombbmhpcacaaDoor
open Go.Proofs

set_option maxRecDepth 100000 in
set_option maxHeartbeats 4000000 in
theorem expr_read_imp_ok {k_expr_read_lower : ((List (Int × Str × Int × Int)) × Int × (List Str) × Int × Int × Int) → Option (Ex × Int × Int × Int × Int)} {k_expr_read_lower_s2 : ((List (Int × Str × Int × Int)) × Int × (List Str) × Int × Int × Int) → Option (Ex × Int × Int × Int × Int)} (ih_expr_read_lower : ∀ {Φ : Ctx} {w : World} {l : (List (Int × Str × Int × Int))} {at_ : Int} {names : (List Str)} {deep : Int} {bad : Int} {place : Int} {b : Nat} {v2 : SLV} {v4 : SLV} {r : (Ex × Int × Int × Int × Int)}, Sat (box b 71 [(sl v2), (.int .i64 at_), (sl v4), (.int .i64 deep), (.int .i64 bad), (.int .i64 place)] :: imm (RSl (RP (RI .i64) (RP RS (RP (RI .i64) (RI .i64))))) [sl v2] l :: imm (RSl RS) [sl v4] names :: gl 0 (keysL.map S) :: gl 1 (textsL.map S) :: Φ) w → k_expr_read_lower (l, at_, names, deep, bad, place) = some r → CallsR Tryd.prog 42 [(.pointer (some ⟨b, 0, none⟩)), (.func (.func 43) #[] #[])] w (fun v w' => ∃ v3 : SLV, ∃ R4 : List Nat, v = (.agg #[(.int .i64 r.1.op), (.int .i64 r.1.n), (.int .i64 r.1.at_), (sl v3)]) ∧ Sat (osl RExpr 24 (sl v3) r.1.l R4 :: box b 71 [(sl v2), (.int .i64 r.2.1), (sl v4), (.int .i64 r.2.2.1), (.int .i64 r.2.2.2.1), (.int .i64 r.2.2.2.2)] :: imm (RSl (RP (RI .i64) (RP RS (RP (RI .i64) (RI .i64))))) [sl v2] l :: imm (RSl RS) [sl v4] names :: Φ) w')) (ih_expr_read_lower_s2 : ∀ {Φ : Ctx} {w : World} {l : (List (Int × Str × Int × Int))} {at_ : Int} {names : (List Str)} {deep : Int} {bad : Int} {place : Int} {b : Nat} {v2 : SLV} {v4 : SLV} {r : (Ex × Int × Int × Int × Int)}, Sat (box b 71 [(sl v2), (.int .i64 at_), (sl v4), (.int .i64 deep), (.int .i64 bad), (.int .i64 place)] :: imm (RSl (RP (RI .i64) (RP RS (RP (RI .i64) (RI .i64))))) [sl v2] l :: imm (RSl RS) [sl v4] names :: gl 0 (keysL.map S) :: gl 1 (textsL.map S) :: Φ) w → k_expr_read_lower_s2 (l, at_, names, deep, bad, place) = some r → CallsR Tryd.prog 42 [(.pointer (some ⟨b, 0, none⟩)), (.func (.func 52) #[] #[])] w (fun v w' => ∃ v3 : SLV, ∃ R4 : List Nat, v = (.agg #[(.int .i64 r.1.op), (.int .i64 r.1.n), (.int .i64 r.1.at_), (sl v3)]) ∧ Sat (osl RExpr 24 (sl v3) r.1.l R4 :: box b 71 [(sl v2), (.int .i64 r.2.1), (sl v4), (.int .i64 r.2.2.1), (.int .i64 r.2.2.2.1), (.int .i64 r.2.2.2.2)] :: imm (RSl (RP (RI .i64) (RP RS (RP (RI .i64) (RI .i64))))) [sl v2] l :: imm (RSl RS) [sl v4] names :: Φ) w')) {Φ : Ctx} {w : World} {l : (List (Int × Str × Int × Int))} {at_ : Int} {names : (List Str)} {deep : Int} {bad : Int} {place : Int} {b : Nat} {v2 : SLV} {v4 : SLV} {r : (Ex × Int × Int × Int × Int)} (hs : Sat (box b 71 [(sl v2), (.int .i64 at_), (sl v4), (.int .i64 deep), (.int .i64 bad), (.int .i64 place)] :: imm (RSl (RP (RI .i64) (RP RS (RP (RI .i64) (RI .i64))))) [sl v2] l :: imm (RSl RS) [sl v4] names :: gl 0 (keysL.map S) :: gl 1 (textsL.map S) :: Φ) w) (hm : expr_read_imp k_expr_read_lower k_expr_read_lower_s2 l at_ names deep bad place = some r) :
    CallsR Tryd.prog 52 [(.pointer (some ⟨b, 0, none⟩))] w (fun v w' => ∃ v3 : SLV, ∃ R4 : List Nat, v = (.agg #[(.int .i64 r.1.op), (.int .i64 r.1.n), (.int .i64 r.1.at_), (sl v3)]) ∧ Sat (osl RExpr 24 (sl v3) r.1.l R4 :: box b 71 [(sl v2), (.int .i64 r.2.1), (sl v4), (.int .i64 r.2.2.1), (.int .i64 r.2.2.2.1), (.int .i64 r.2.2.2.2)] :: imm (RSl (RP (RI .i64) (RP RS (RP (RI .i64) (RI .i64))))) [sl v2] l :: imm (RSl RS) [sl v4] names :: Φ) w') := by
  refine CallsX_enter Tryd.func52 rfl Tryd.ntmps52 rfl ?_
  unfold expr_read_imp at hm
  refine WC_seq ?_
  refine WC_region ?_
  refine WS_alloc (zs := [(.int .i64 0), (.int .i64 0), (.int .i64 0), (sl (none, 0, 0))]) hs ti24 rfl rfl ?_
  intro b9 w10 hs
  replace hs := Sat.n6 (Γ := Φ) hs rfl
  refine WL_nil ?_
  refine At_then ?_
  refine WC_seq ?_
  refine WC_region ?_
  refine WL_op (Run_move (Opd.t rfl)) rfl rfl rfl rfl <| ?_
  refine WS_lit (A := (RI .i64)) (xs := [18]) (zs := [(.int .i64 0)]) (cells := [(.int .i64 18)]) (parts := [(0, (.const (.int .i64 18)))]) hs Tryd.underlying25 ti3 rfl rfl rfl (.cons Opd.c .nil) (by kernel_rfl) rfl (ARd.cons (A := (RI .i64)) (c := [(.int .i64 18)]) (x := 18) rfl ARd.nil) rfl ?_
  intro b11 w12 hs
  replace hs := Sat.n7 (Γ := Φ) hs rfl
  replace hs := hs.freeze (i := 0) rfl
  obtain ⟨r13, hr14, hm⟩ := bind_some' hm
  refine WL_call (f := 47) (first := []) (cap := []) (xs := [(.tmp 3), (.func 57), (.func 52), (.tmp 4)]) (vs := [(.pointer (some ⟨b, 0, none⟩)), (.func (.func 57) #[] #[]), (.func (.func 52) #[] #[]), (sl (some ⟨b11, 0, none⟩, 1, 1))]) (args := [(.pointer (some ⟨b, 0, none⟩)), (.func (.func 57) #[] #[]), (.func (.func 52) #[] #[]), (sl (some ⟨b11, 0, none⟩, 1, 1))]) Tryd.call47 Opd.f (.cons (Opd.t rfl) (.cons Opd.f (.cons Opd.f (.cons (Opd.t rfl) .nil)))) rfl rfl (expr_read_right_s2_ok (@ih_expr_read_lower) (@ih_expr_read_lower_s2) (hs.re 7 [2, 0, 3, 4, 5, 6, 0, 1, 3, 4, 5, 6] rfl) hr14) ?_
  rintro _ w17 ⟨v15, R16, rfl, hs⟩
  replace hs := Sat.n10 (Γ := Φ) hs rfl
  refine WS_store (us := [(.int .i64 r13.1.op), (.int .i64 r13.1.n), (.int .i64 r13.1.at_), (sl v15)]) (vs' := [(.int .i64 r13.1.op), (.int .i64 r13.1.n), (.int .i64 r13.1.at_), (sl v15)]) hs 5 rfl ti24 (Opd.t rfl) (Opd.t rfl) rfl rfl rfl rfl rfl ?_
  intro w18 hs
  replace hs := Sat.n10 (Γ := Φ) hs rfl
  refine WL_nil ?_
  refine At_then ?_
  refine WC_ret ?_
  refine At_r1 rfl (ResIs.cA (vs := [(.int .i64 r13.1.op), (.int .i64 r13.1.n), (.int .i64 r13.1.at_), (sl v15)]) rfl Tryd.underlying24 rfl ti24 ((hs.box (i := 5) rfl).part 0 rfl) rfl) ?_
  cases hm
  exact ⟨v15, R16, rfl, (hs.re 10 [0, 1, 2, 3] rfl)⟩

set_option maxRecDepth 100000 in
set_option maxHeartbeats 4000000 in
theorem expr_read_lower_s2_F_ok {k_expr_read_lower : ((List (Int × Str × Int × Int)) × Int × (List Str) × Int × Int × Int) → Option (Ex × Int × Int × Int × Int)} {k_expr_read_lower_s2 : ((List (Int × Str × Int × Int)) × Int × (List Str) × Int × Int × Int) → Option (Ex × Int × Int × Int × Int)} (ih_expr_read_lower : ∀ {Φ : Ctx} {w : World} {l : (List (Int × Str × Int × Int))} {at_ : Int} {names : (List Str)} {deep : Int} {bad : Int} {place : Int} {b : Nat} {v2 : SLV} {v4 : SLV} {r : (Ex × Int × Int × Int × Int)}, Sat (box b 71 [(sl v2), (.int .i64 at_), (sl v4), (.int .i64 deep), (.int .i64 bad), (.int .i64 place)] :: imm (RSl (RP (RI .i64) (RP RS (RP (RI .i64) (RI .i64))))) [sl v2] l :: imm (RSl RS) [sl v4] names :: gl 0 (keysL.map S) :: gl 1 (textsL.map S) :: Φ) w → k_expr_read_lower (l, at_, names, deep, bad, place) = some r → CallsR Tryd.prog 42 [(.pointer (some ⟨b, 0, none⟩)), (.func (.func 43) #[] #[])] w (fun v w' => ∃ v3 : SLV, ∃ R4 : List Nat, v = (.agg #[(.int .i64 r.1.op), (.int .i64 r.1.n), (.int .i64 r.1.at_), (sl v3)]) ∧ Sat (osl RExpr 24 (sl v3) r.1.l R4 :: box b 71 [(sl v2), (.int .i64 r.2.1), (sl v4), (.int .i64 r.2.2.1), (.int .i64 r.2.2.2.1), (.int .i64 r.2.2.2.2)] :: imm (RSl (RP (RI .i64) (RP RS (RP (RI .i64) (RI .i64))))) [sl v2] l :: imm (RSl RS) [sl v4] names :: Φ) w')) (ih_expr_read_lower_s2 : ∀ {Φ : Ctx} {w : World} {l : (List (Int × Str × Int × Int))} {at_ : Int} {names : (List Str)} {deep : Int} {bad : Int} {place : Int} {b : Nat} {v2 : SLV} {v4 : SLV} {r : (Ex × Int × Int × Int × Int)}, Sat (box b 71 [(sl v2), (.int .i64 at_), (sl v4), (.int .i64 deep), (.int .i64 bad), (.int .i64 place)] :: imm (RSl (RP (RI .i64) (RP RS (RP (RI .i64) (RI .i64))))) [sl v2] l :: imm (RSl RS) [sl v4] names :: gl 0 (keysL.map S) :: gl 1 (textsL.map S) :: Φ) w → k_expr_read_lower_s2 (l, at_, names, deep, bad, place) = some r → CallsR Tryd.prog 42 [(.pointer (some ⟨b, 0, none⟩)), (.func (.func 52) #[] #[])] w (fun v w' => ∃ v3 : SLV, ∃ R4 : List Nat, v = (.agg #[(.int .i64 r.1.op), (.int .i64 r.1.n), (.int .i64 r.1.at_), (sl v3)]) ∧ Sat (osl RExpr 24 (sl v3) r.1.l R4 :: box b 71 [(sl v2), (.int .i64 r.2.1), (sl v4), (.int .i64 r.2.2.1), (.int .i64 r.2.2.2.1), (.int .i64 r.2.2.2.2)] :: imm (RSl (RP (RI .i64) (RP RS (RP (RI .i64) (RI .i64))))) [sl v2] l :: imm (RSl RS) [sl v4] names :: Φ) w')) {Φ : Ctx} {w : World} {l : (List (Int × Str × Int × Int))} {at_ : Int} {names : (List Str)} {deep : Int} {bad : Int} {place : Int} {b : Nat} {v2 : SLV} {v4 : SLV} {r : (Ex × Int × Int × Int × Int)} (hs : Sat (box b 71 [(sl v2), (.int .i64 at_), (sl v4), (.int .i64 deep), (.int .i64 bad), (.int .i64 place)] :: imm (RSl (RP (RI .i64) (RP RS (RP (RI .i64) (RI .i64))))) [sl v2] l :: imm (RSl RS) [sl v4] names :: gl 0 (keysL.map S) :: gl 1 (textsL.map S) :: Φ) w) (hm : expr_read_lower_s2_F k_expr_read_lower k_expr_read_lower_s2 l at_ names deep bad place = some r) :
    CallsR Tryd.prog 42 [(.pointer (some ⟨b, 0, none⟩)), (.func (.func 52) #[] #[])] w (fun v w' => ∃ v3 : SLV, ∃ R4 : List Nat, v = (.agg #[(.int .i64 r.1.op), (.int .i64 r.1.n), (.int .i64 r.1.at_), (sl v3)]) ∧ Sat (osl RExpr 24 (sl v3) r.1.l R4 :: box b 71 [(sl v2), (.int .i64 r.2.1), (sl v4), (.int .i64 r.2.2.1), (.int .i64 r.2.2.2.1), (.int .i64 r.2.2.2.2)] :: imm (RSl (RP (RI .i64) (RP RS (RP (RI .i64) (RI .i64))))) [sl v2] l :: imm (RSl RS) [sl v4] names :: Φ) w') := by
  refine CallsX_enter Tryd.func42 rfl Tryd.ntmps42 rfl ?_
  unfold expr_read_lower_s2_F at hm
  refine WC_seq ?_
  refine WC_region ?_
  refine WS_alloc (zs := [(.int .i64 0), (.int .i64 0), (.int .i64 0), (sl (none, 0, 0))]) hs ti24 rfl rfl ?_
  intro b9 w10 hs
  replace hs := Sat.n6 (Γ := Φ) hs rfl
  refine WL_nil ?_
  refine At_then ?_
  refine WC_seq ?_
  refine WC_seq ?_
  refine WC_region ?_
  refine WL_op (Run_move (Opd.t rfl)) rfl rfl rfl rfl <| WL_op (Run_nilP (Opd.t rfl)) rfl rfl rfl rfl <| WL_op (Run_fieldAddr fo71_3 (Opd.t rfl)) rfl rfl rfl rfl <| WL_op (Run_load1 (v := (.int .i64 deep)) Tryd.underlying3 rfl (Opd.t rfl) (fun _ => (hs.box (i := 1) rfl).part 3 rfl)) rfl rfl rfl rfl <| WL_op (Run_geI (Opd.t rfl) Opd.c) rfl rfl rfl rfl <| ?_
  refine WL_nil ?_
  refine At_then ?_
  refine WC_cond (Opd.t rfl) (fun hc11 => ?_) (fun hc11 => ?_)
  ·
    replace hm := bif_t hc11 hm
    refine WC_seq ?_
    refine WC_region ?_
    refine WL_op (Run_move (Opd.t rfl)) rfl rfl rfl rfl <| ?_
    obtain ⟨r12, hr13, hm⟩ := bind_some' hm
    refine WL_call (f := 46) (first := []) (cap := []) (xs := [(.tmp 11), (.const (.int .i64 9))]) (vs := [(.pointer (some ⟨b, 0, none⟩)), (.int .i64 9)]) (args := [(.pointer (some ⟨b, 0, none⟩)), (.int .i64 9)]) Tryd.call46 Opd.f (.cons (Opd.t rfl) (.cons Opd.c .nil)) rfl rfl (expr_read_fail_ok (hs.re 6 [1, 2, 3, 0, 2, 3, 4, 5] rfl) hr13) ?_
    rintro _ w16 ⟨v14, R15, rfl, hs⟩
    replace hs := Sat.n9 (Γ := Φ) hs rfl
    refine WS_store (us := [(.int .i64 r12.1.op), (.int .i64 r12.1.n), (.int .i64 r12.1.at_), (sl v14)]) (vs' := [(.int .i64 r12.1.op), (.int .i64 r12.1.n), (.int .i64 r12.1.at_), (sl v14)]) hs 4 rfl ti24 (Opd.t rfl) (Opd.t rfl) rfl rfl rfl rfl rfl ?_
    intro w17 hs
    replace hs := Sat.n9 (Γ := Φ) hs rfl
    refine WL_nil ?_
    refine At_then ?_
    refine WC_ret ?_
    refine At_then_ret <| ?_
    refine At_r1 rfl (ResIs.cA (vs := [(.int .i64 r12.1.op), (.int .i64 r12.1.n), (.int .i64 r12.1.at_), (sl v14)]) rfl Tryd.underlying24 rfl ti24 ((hs.box (i := 4) rfl).part 0 rfl) rfl) ?_
    cases hm
    exact ⟨v14, R15, rfl, (hs.re 9 [0, 1, 2, 3] rfl)⟩
  ·
    replace hm := bif_f hc11 hm
    refine WC_skip ?_
    refine At_then ?_
    refine WC_seq ?_
    refine WC_region ?_
    refine WL_op (Run_move (Opd.t rfl)) rfl rfl rfl rfl <| WL_op (Run_nilP (Opd.t rfl)) rfl rfl rfl rfl <| WL_op (Run_fieldAddr fo71_3 (Opd.t rfl)) rfl rfl rfl rfl <| WL_op (Run_load1 (v := (.int .i64 deep)) Tryd.underlying3 rfl (Opd.t rfl) (fun _ => (hs.box (i := 1) rfl).part 3 rfl)) rfl rfl rfl rfl <| WL_op (Run_add (Opd.t rfl) Opd.c) rfl rfl rfl rfl <| WL_op (Run_nilP (Opd.t rfl)) rfl rfl rfl rfl <| WL_op (Run_fieldAddr fo71_3 (Opd.t rfl)) rfl rfl rfl rfl <| ?_
    refine WS_store (us := [(.int .i64 (IntKind.i64.wrap (deep + 1)))]) (vs' := [(sl v2), (.int .i64 at_), (sl v4), (.int .i64 (IntKind.i64.wrap (deep + 1))), (.int .i64 bad), (.int .i64 place)]) hs 1 rfl ti3 (Opd.t rfl) (Opd.t rfl) rfl rfl rfl rfl rfl ?_
    intro w18 hs
    replace hs := Sat.n6 (Γ := Φ) hs rfl
    refine WL_nil ?_
    refine At_then ?_
    refine WC_seq ?_
    refine WC_region ?_
    refine WL_op (Run_move (Opd.t rfl)) rfl rfl rfl rfl <| WL_op (Run_move (Opd.t rfl)) rfl rfl rfl rfl <| ?_
    obtain ⟨r19, hr20, hm⟩ := bind_some' hm
    refine WL_call (f := 52) (first := []) (cap := []) (xs := [(.tmp 21)]) (vs := [(.pointer (some ⟨b, 0, none⟩))]) (args := [(.pointer (some ⟨b, 0, none⟩))]) Tryd.call52 (Opd.t rfl) (.cons (Opd.t rfl) .nil) rfl rfl (expr_read_imp_ok (@ih_expr_read_lower) (@ih_expr_read_lower_s2) (hs.re 6 [1, 2, 3, 4, 5, 0, 2, 3, 4, 5] rfl) hr20) ?_
    rintro _ w23 ⟨v21, R22, rfl, hs⟩
    replace hs := Sat.n9 (Γ := Φ) hs rfl
    refine WS_alloc (zs := [(.int .i64 0), (.int .i64 0), (.int .i64 0), (sl (none, 0, 0))]) hs ti24 rfl rfl ?_
    intro b24 w25 hs
    replace hs := Sat.n10 (Γ := Φ) hs rfl
    refine WS_store (us := [(.int .i64 r19.1.op), (.int .i64 r19.1.n), (.int .i64 r19.1.at_), (sl v21)]) (vs' := [(.int .i64 r19.1.op), (.int .i64 r19.1.n), (.int .i64 r19.1.at_), (sl v21)]) hs 0 rfl ti24 (Opd.t rfl) (Opd.t rfl) rfl rfl rfl rfl rfl ?_
    intro w26 hs
    replace hs := Sat.n10 (Γ := Φ) hs rfl
    refine WL_nil ?_
    refine At_then ?_
    refine WC_seq ?_
    refine WC_region ?_
    refine WL_op (Run_move (Opd.t rfl)) rfl rfl rfl rfl <| WL_op (Run_nilP (Opd.t rfl)) rfl rfl rfl rfl <| WL_op (Run_fieldAddr fo71_3 (Opd.t rfl)) rfl rfl rfl rfl <| WL_op (Run_load1 (v := (.int .i64 r19.2.2.1)) Tryd.underlying3 rfl (Opd.t rfl) (fun _ => (hs.box (i := 2) rfl).part 3 rfl)) rfl rfl rfl rfl <| WL_op (Run_sub (Opd.t rfl) Opd.c) rfl rfl rfl rfl <| WL_op (Run_nilP (Opd.t rfl)) rfl rfl rfl rfl <| WL_op (Run_fieldAddr fo71_3 (Opd.t rfl)) rfl rfl rfl rfl <| ?_
    refine WS_store (us := [(.int .i64 (IntKind.i64.wrap (r19.2.2.1 - 1)))]) (vs' := [(sl v2), (.int .i64 r19.2.1), (sl v4), (.int .i64 (IntKind.i64.wrap (r19.2.2.1 - 1))), (.int .i64 r19.2.2.2.1), (.int .i64 r19.2.2.2.2)]) hs 2 rfl ti3 (Opd.t rfl) (Opd.t rfl) rfl rfl rfl rfl rfl ?_
    intro w27 hs
    replace hs := Sat.n10 (Γ := Φ) hs rfl
    refine WL_nil ?_
    refine At_then ?_
    refine WC_seq ?_
    refine WC_region ?_
    refine WL_op (Run_loadA (vs := [(.int .i64 r19.1.op), (.int .i64 r19.1.n), (.int .i64 r19.1.at_), (sl v21)]) Tryd.underlying24 rfl ti24 (Opd.t rfl) (fun _ => (hs.box (i := 0) rfl).part 0 rfl) rfl) rfl rfl rfl rfl <| ?_
    refine WS_store (us := [(.int .i64 r19.1.op), (.int .i64 r19.1.n), (.int .i64 r19.1.at_), (sl v21)]) (vs' := [(.int .i64 r19.1.op), (.int .i64 r19.1.n), (.int .i64 r19.1.at_), (sl v21)]) hs 5 rfl ti24 (Opd.t rfl) (Opd.t rfl) rfl rfl rfl rfl rfl ?_
    intro w28 hs
    replace hs := Sat.n10 (Γ := Φ) hs rfl
    refine WL_nil ?_
    refine At_then ?_
    refine WC_ret ?_
    refine At_r1 rfl (ResIs.cA (vs := [(.int .i64 r19.1.op), (.int .i64 r19.1.n), (.int .i64 r19.1.at_), (sl v21)]) rfl Tryd.underlying24 rfl ti24 ((hs.box (i := 5) rfl).part 0 rfl) rfl) ?_
    cases hm
    exact ⟨v21, R22, rfl, (hs.re 10 [1, 2, 3, 4] rfl)⟩

set_option maxRecDepth 100000 in
set_option maxHeartbeats 4000000 in
theorem expr_read_lower_s2_ok {k_expr_read_lower : ((List (Int × Str × Int × Int)) × Int × (List Str) × Int × Int × Int) → Option (Ex × Int × Int × Int × Int)} (ih_expr_read_lower : ∀ {Φ : Ctx} {w : World} {l : (List (Int × Str × Int × Int))} {at_ : Int} {names : (List Str)} {deep : Int} {bad : Int} {place : Int} {b : Nat} {v2 : SLV} {v4 : SLV} {r : (Ex × Int × Int × Int × Int)}, Sat (box b 71 [(sl v2), (.int .i64 at_), (sl v4), (.int .i64 deep), (.int .i64 bad), (.int .i64 place)] :: imm (RSl (RP (RI .i64) (RP RS (RP (RI .i64) (RI .i64))))) [sl v2] l :: imm (RSl RS) [sl v4] names :: gl 0 (keysL.map S) :: gl 1 (textsL.map S) :: Φ) w → k_expr_read_lower (l, at_, names, deep, bad, place) = some r → CallsR Tryd.prog 42 [(.pointer (some ⟨b, 0, none⟩)), (.func (.func 43) #[] #[])] w (fun v w' => ∃ v3 : SLV, ∃ R4 : List Nat, v = (.agg #[(.int .i64 r.1.op), (.int .i64 r.1.n), (.int .i64 r.1.at_), (sl v3)]) ∧ Sat (osl RExpr 24 (sl v3) r.1.l R4 :: box b 71 [(sl v2), (.int .i64 r.2.1), (sl v4), (.int .i64 r.2.2.1), (.int .i64 r.2.2.2.1), (.int .i64 r.2.2.2.2)] :: imm (RSl (RP (RI .i64) (RP RS (RP (RI .i64) (RI .i64))))) [sl v2] l :: imm (RSl RS) [sl v4] names :: Φ) w')) {Φ : Ctx} {w : World} {l : (List (Int × Str × Int × Int))} {at_ : Int} {names : (List Str)} {deep : Int} {bad : Int} {place : Int} {b : Nat} {v2 : SLV} {v4 : SLV} {r : (Ex × Int × Int × Int × Int)} (hs : Sat (box b 71 [(sl v2), (.int .i64 at_), (sl v4), (.int .i64 deep), (.int .i64 bad), (.int .i64 place)] :: imm (RSl (RP (RI .i64) (RP RS (RP (RI .i64) (RI .i64))))) [sl v2] l :: imm (RSl RS) [sl v4] names :: gl 0 (keysL.map S) :: gl 1 (textsL.map S) :: Φ) w) (hm : expr_read_lower_s2 k_expr_read_lower l at_ names deep bad place = some r) :
    CallsR Tryd.prog 42 [(.pointer (some ⟨b, 0, none⟩)), (.func (.func 52) #[] #[])] w (fun v w' => ∃ v3 : SLV, ∃ R4 : List Nat, v = (.agg #[(.int .i64 r.1.op), (.int .i64 r.1.n), (.int .i64 r.1.at_), (sl v3)]) ∧ Sat (osl RExpr 24 (sl v3) r.1.l R4 :: box b 71 [(sl v2), (.int .i64 r.2.1), (sl v4), (.int .i64 r.2.2.1), (.int .i64 r.2.2.2.1), (.int .i64 r.2.2.2.2)] :: imm (RSl (RP (RI .i64) (RP RS (RP (RI .i64) (RI .i64))))) [sl v2] l :: imm (RSl RS) [sl v4] names :: Φ) w') := by
  have key : ∀ (N : Nat) {Φ : Ctx} {w : World} {l : (List (Int × Str × Int × Int))} {at_ : Int} {names : (List Str)} {deep : Int} {bad : Int} {place : Int} {b : Nat} {v2 : SLV} {v4 : SLV} {r : (Ex × Int × Int × Int × Int)}, Sat (box b 71 [(sl v2), (.int .i64 at_), (sl v4), (.int .i64 deep), (.int .i64 bad), (.int .i64 place)] :: imm (RSl (RP (RI .i64) (RP RS (RP (RI .i64) (RI .i64))))) [sl v2] l :: imm (RSl RS) [sl v4] names :: gl 0 (keysL.map S) :: gl 1 (textsL.map S) :: Φ) w → fixN (fun k (s : ((List (Int × Str × Int × Int)) × Int × (List Str) × Int × Int × Int)) => expr_read_lower_s2_F k_expr_read_lower k s.1 s.2.1 s.2.2.1 s.2.2.2.1 s.2.2.2.2.1 s.2.2.2.2.2) N (l, at_, names, deep, bad, place) = some r → CallsR Tryd.prog 42 [(.pointer (some ⟨b, 0, none⟩)), (.func (.func 52) #[] #[])] w (fun v w' => ∃ v3 : SLV, ∃ R4 : List Nat, v = (.agg #[(.int .i64 r.1.op), (.int .i64 r.1.n), (.int .i64 r.1.at_), (sl v3)]) ∧ Sat (osl RExpr 24 (sl v3) r.1.l R4 :: box b 71 [(sl v2), (.int .i64 r.2.1), (sl v4), (.int .i64 r.2.2.1), (.int .i64 r.2.2.2.1), (.int .i64 r.2.2.2.2)] :: imm (RSl (RP (RI .i64) (RP RS (RP (RI .i64) (RI .i64))))) [sl v2] l :: imm (RSl RS) [sl v4] names :: Φ) w') := by
    intro N
    induction N with
    | zero => intros; rename_i h; cases h
    | succ N ih => intros; rename_i hs hm; rw [fixN_succ] at hm; exact expr_read_lower_s2_F_ok (@ih_expr_read_lower) (@ih) hs hm
  unfold expr_read_lower_s2 at hm
  exact key FUEL hs hm

set_option maxRecDepth 100000 in
set_option maxHeartbeats 4000000 in
theorem expr_read_deepImp_ok {k_expr_read_lower : ((List (Int × Str × Int × Int)) × Int × (List Str) × Int × Int × Int) → Option (Ex × Int × Int × Int × Int)} (ih_expr_read_lower : ∀ {Φ : Ctx} {w : World} {l : (List (Int × Str × Int × Int))} {at_ : Int} {names : (List Str)} {deep : Int} {bad : Int} {place : Int} {b : Nat} {v2 : SLV} {v4 : SLV} {r : (Ex × Int × Int × Int × Int)}, Sat (box b 71 [(sl v2), (.int .i64 at_), (sl v4), (.int .i64 deep), (.int .i64 bad), (.int .i64 place)] :: imm (RSl (RP (RI .i64) (RP RS (RP (RI .i64) (RI .i64))))) [sl v2] l :: imm (RSl RS) [sl v4] names :: gl 0 (keysL.map S) :: gl 1 (textsL.map S) :: Φ) w → k_expr_read_lower (l, at_, names, deep, bad, place) = some r → CallsR Tryd.prog 42 [(.pointer (some ⟨b, 0, none⟩)), (.func (.func 43) #[] #[])] w (fun v w' => ∃ v3 : SLV, ∃ R4 : List Nat, v = (.agg #[(.int .i64 r.1.op), (.int .i64 r.1.n), (.int .i64 r.1.at_), (sl v3)]) ∧ Sat (osl RExpr 24 (sl v3) r.1.l R4 :: box b 71 [(sl v2), (.int .i64 r.2.1), (sl v4), (.int .i64 r.2.2.1), (.int .i64 r.2.2.2.1), (.int .i64 r.2.2.2.2)] :: imm (RSl (RP (RI .i64) (RP RS (RP (RI .i64) (RI .i64))))) [sl v2] l :: imm (RSl RS) [sl v4] names :: Φ) w')) {Φ : Ctx} {w : World} {l : (List (Int × Str × Int × Int))} {at_ : Int} {names : (List Str)} {deep : Int} {bad : Int} {place : Int} {b : Nat} {v2 : SLV} {v4 : SLV} {r : (Ex × Int × Int × Int × Int)} (hs : Sat (box b 71 [(sl v2), (.int .i64 at_), (sl v4), (.int .i64 deep), (.int .i64 bad), (.int .i64 place)] :: imm (RSl (RP (RI .i64) (RP RS (RP (RI .i64) (RI .i64))))) [sl v2] l :: imm (RSl RS) [sl v4] names :: gl 0 (keysL.map S) :: gl 1 (textsL.map S) :: Φ) w) (hm : expr_read_deepImp k_expr_read_lower l at_ names deep bad place = some r) :
    CallsR Tryd.prog 48 [(.pointer (some ⟨b, 0, none⟩))] w (fun v w' => ∃ v3 : SLV, ∃ R4 : List Nat, v = (.agg #[(.int .i64 r.1.op), (.int .i64 r.1.n), (.int .i64 r.1.at_), (sl v3)]) ∧ Sat (osl RExpr 24 (sl v3) r.1.l R4 :: box b 71 [(sl v2), (.int .i64 r.2.1), (sl v4), (.int .i64 r.2.2.1), (.int .i64 r.2.2.2.1), (.int .i64 r.2.2.2.2)] :: imm (RSl (RP (RI .i64) (RP RS (RP (RI .i64) (RI .i64))))) [sl v2] l :: imm (RSl RS) [sl v4] names :: Φ) w') := by
  refine CallsX_enter Tryd.func48 rfl Tryd.ntmps48 rfl ?_
  unfold expr_read_deepImp at hm
  refine WC_seq ?_
  refine WC_region ?_
  refine WS_alloc (zs := [(.int .i64 0), (.int .i64 0), (.int .i64 0), (sl (none, 0, 0))]) hs ti24 rfl rfl ?_
  intro b9 w10 hs
  replace hs := Sat.n6 (Γ := Φ) hs rfl
  refine WL_nil ?_
  refine At_then ?_
  refine WC_seq ?_
  refine WC_region ?_
  refine WL_op (Run_move (Opd.t rfl)) rfl rfl rfl rfl <| ?_
  obtain ⟨r11, hr12, hm⟩ := bind_some' hm
  refine WL_call (f := 42) (first := []) (cap := []) (xs := [(.tmp 3), (.func 52)]) (vs := [(.pointer (some ⟨b, 0, none⟩)), (.func (.func 52) #[] #[])]) (args := [(.pointer (some ⟨b, 0, none⟩)), (.func (.func 52) #[] #[])]) Tryd.call42 Opd.f (.cons (Opd.t rfl) (.cons Opd.f .nil)) rfl rfl (expr_read_lower_s2_ok (@ih_expr_read_lower) (hs.re 6 [1, 2, 3, 4, 5, 0, 2, 3, 4, 5] rfl) hr12) ?_
  rintro _ w15 ⟨v13, R14, rfl, hs⟩
  replace hs := Sat.n9 (Γ := Φ) hs rfl
  refine WS_store (us := [(.int .i64 r11.1.op), (.int .i64 r11.1.n), (.int .i64 r11.1.at_), (sl v13)]) (vs' := [(.int .i64 r11.1.op), (.int .i64 r11.1.n), (.int .i64 r11.1.at_), (sl v13)]) hs 4 rfl ti24 (Opd.t rfl) (Opd.t rfl) rfl rfl rfl rfl rfl ?_
  intro w16 hs
  replace hs := Sat.n9 (Γ := Φ) hs rfl
  refine WL_nil ?_
  refine At_then ?_
  refine WC_ret ?_
  refine At_r1 rfl (ResIs.cA (vs := [(.int .i64 r11.1.op), (.int .i64 r11.1.n), (.int .i64 r11.1.at_), (sl v13)]) rfl Tryd.underlying24 rfl ti24 ((hs.box (i := 4) rfl).part 0 rfl) rfl) ?_
  cases hm
  exact ⟨v13, R14, rfl, (hs.re 9 [0, 1, 2, 3] rfl)⟩

set_option maxRecDepth 100000 in
set_option maxHeartbeats 4000000 in
theorem expr_read_right_ok {k_expr_read_lower : ((List (Int × Str × Int × Int)) × Int × (List Str) × Int × Int × Int) → Option (Ex × Int × Int × Int × Int)} (ih_expr_read_lower : ∀ {Φ : Ctx} {w : World} {l : (List (Int × Str × Int × Int))} {at_ : Int} {names : (List Str)} {deep : Int} {bad : Int} {place : Int} {b : Nat} {v2 : SLV} {v4 : SLV} {r : (Ex × Int × Int × Int × Int)}, Sat (box b 71 [(sl v2), (.int .i64 at_), (sl v4), (.int .i64 deep), (.int .i64 bad), (.int .i64 place)] :: imm (RSl (RP (RI .i64) (RP RS (RP (RI .i64) (RI .i64))))) [sl v2] l :: imm (RSl RS) [sl v4] names :: gl 0 (keysL.map S) :: gl 1 (textsL.map S) :: Φ) w → k_expr_read_lower (l, at_, names, deep, bad, place) = some r → CallsR Tryd.prog 42 [(.pointer (some ⟨b, 0, none⟩)), (.func (.func 43) #[] #[])] w (fun v w' => ∃ v3 : SLV, ∃ R4 : List Nat, v = (.agg #[(.int .i64 r.1.op), (.int .i64 r.1.n), (.int .i64 r.1.at_), (sl v3)]) ∧ Sat (osl RExpr 24 (sl v3) r.1.l R4 :: box b 71 [(sl v2), (.int .i64 r.2.1), (sl v4), (.int .i64 r.2.2.1), (.int .i64 r.2.2.2.1), (.int .i64 r.2.2.2.2)] :: imm (RSl (RP (RI .i64) (RP RS (RP (RI .i64) (RI .i64))))) [sl v2] l :: imm (RSl RS) [sl v4] names :: Φ) w')) {Φ : Ctx} {w : World} {ops : (List Int)} {l : (List (Int × Str × Int × Int))} {at_ : Int} {names : (List Str)} {deep : Int} {bad : Int} {place : Int} {b : Nat} {v2 : SLV} {v4 : SLV} {v6 : SLV} {r : (Ex × Int × Int × Int × Int)} (hs : Sat (box b 71 [(sl v4), (.int .i64 at_), (sl v6), (.int .i64 deep), (.int .i64 bad), (.int .i64 place)] :: imm (RSl (RI .i64)) [sl v2] ops :: imm (RSl (RP (RI .i64) (RP RS (RP (RI .i64) (RI .i64))))) [sl v4] l :: imm (RSl RS) [sl v6] names :: gl 0 (keysL.map S) :: gl 1 (textsL.map S) :: Φ) w) (hm : expr_read_right k_expr_read_lower ops l at_ names deep bad place = some r) :
    CallsR Tryd.prog 47 [(.pointer (some ⟨b, 0, none⟩)), (.func (.func 48) #[] #[]), (.func (.func 43) #[] #[]), (sl v2)] w (fun v w' => ∃ v3 : SLV, ∃ R4 : List Nat, v = (.agg #[(.int .i64 r.1.op), (.int .i64 r.1.n), (.int .i64 r.1.at_), (sl v3)]) ∧ Sat (osl RExpr 24 (sl v3) r.1.l R4 :: box b 71 [(sl v4), (.int .i64 r.2.1), (sl v6), (.int .i64 r.2.2.1), (.int .i64 r.2.2.2.1), (.int .i64 r.2.2.2.2)] :: imm (RSl (RP (RI .i64) (RP RS (RP (RI .i64) (RI .i64))))) [sl v4] l :: imm (RSl RS) [sl v6] names :: Φ) w') := by
  refine CallsX_enter Tryd.func47 rfl Tryd.ntmps47 rfl ?_
  unfold expr_read_right at hm
  refine WC_seq ?_
  refine WC_region ?_
  refine WS_alloc (zs := [(.int .i64 0), (.int .i64 0), (.int .i64 0), (sl (none, 0, 0))]) hs ti24 rfl rfl ?_
  intro b9 w10 hs
  replace hs := Sat.n7 (Γ := Φ) hs rfl
  refine WL_nil ?_
  refine At_then ?_
  refine WC_seq ?_
  refine WC_region ?_
  refine WL_op (Run_move (Opd.t rfl)) rfl rfl rfl rfl <| WL_op (Run_move (Opd.t rfl)) rfl rfl rfl rfl <| ?_
  obtain ⟨r11, hr12, hm⟩ := bind_some' hm
  refine WL_call (f := 48) (first := []) (cap := []) (xs := [(.tmp 15)]) (vs := [(.pointer (some ⟨b, 0, none⟩))]) (args := [(.pointer (some ⟨b, 0, none⟩))]) Tryd.call48 (Opd.t rfl) (.cons (Opd.t rfl) .nil) rfl rfl (expr_read_deepImp_ok (@ih_expr_read_lower) (hs.re 7 [1, 3, 4, 5, 6, 0, 2, 3, 4, 5, 6] rfl) hr12) ?_
  rintro _ w15 ⟨v13, R14, rfl, hs⟩
  replace hs := Sat.n10 (Γ := Φ) hs rfl
  refine WS_alloc (zs := [(.int .i64 0), (.int .i64 0), (.int .i64 0), (sl (none, 0, 0))]) hs ti24 rfl rfl ?_
  intro b16 w17 hs
  replace hs := Sat.n11 (Γ := Φ) hs rfl
  refine WS_store (us := [(.int .i64 r11.1.op), (.int .i64 r11.1.n), (.int .i64 r11.1.at_), (sl v13)]) (vs' := [(.int .i64 r11.1.op), (.int .i64 r11.1.n), (.int .i64 r11.1.at_), (sl v13)]) hs 0 rfl ti24 (Opd.t rfl) (Opd.t rfl) rfl rfl rfl rfl rfl ?_
  intro w18 hs
  replace hs := Sat.n11 (Γ := Φ) hs rfl
  refine WL_nil ?_
  refine At_then ?_
  refine WC_seq ?_
  refine WC_region ?_
  refine WL_op (Run_move (Opd.t rfl)) rfl rfl rfl rfl <| WL_op (Run_move (Opd.t rfl)) rfl rfl rfl rfl <| ?_
  obtain ⟨r19, hr20, hm⟩ := bind_some' hm
  refine WL_call (f := 50) (first := []) (cap := []) (xs := [(.tmp 18), (.tmp 19)]) (vs := [(.pointer (some ⟨b, 0, none⟩)), (sl v2)]) (args := [(.pointer (some ⟨b, 0, none⟩)), (sl v2)]) Tryd.call50 Opd.f (.cons (Opd.t rfl) (.cons (Opd.t rfl) .nil)) rfl rfl (expr_read_is_ok (hs.re 11 [2, 6, 3, 4, 9, 10, 0, 1, 3, 4, 5, 6, 7, 8, 9, 10] rfl) hr20) ?_
  rintro _ w21 ⟨rfl, hs⟩
  replace hs := Sat.n13 (Γ := Φ) hs rfl
  refine WL_op (Run_move (Opd.t rfl)) rfl rfl rfl rfl <| WL_op (Run_extract (vs := [(.int .i64 r19.1), (.bool r19.2)]) (Opd.t rfl) rfl) rfl rfl rfl rfl <| WL_op (Run_extract (vs := [(.int .i64 r19.1), (.bool r19.2)]) (Opd.t rfl) rfl) rfl rfl rfl rfl <| WL_op (Run_assign (Opd.t rfl)) rfl rfl rfl rfl <| WL_op (Run_assign (Opd.t rfl)) rfl rfl rfl rfl <| ?_
  refine WL_nil ?_
  refine At_then ?_
  refine WC_seq ?_
  refine WC_seq ?_
  refine WC_region ?_
  refine WL_op (Run_move (Opd.t rfl)) rfl rfl rfl rfl <| WL_op (Run_nilP (Opd.t rfl)) rfl rfl rfl rfl <| WL_op (Run_fieldAddr fo71_4 (Opd.t rfl)) rfl rfl rfl rfl <| WL_op (Run_load1 (v := (.int .i64 r11.2.2.2.1)) Tryd.underlying34 rfl (Opd.t rfl) (fun _ => (hs.box (i := 0) rfl).part 4 rfl)) rfl rfl rfl rfl <| ?_
  obtain ⟨b22, e23, hm⟩ := letv_some hm
  refine WL_op (Run.eqB (Run_neI (Opd.t rfl) Opd.c) e23) rfl rfl rfl rfl <| WL_op (Run_move (Opd.t rfl)) rfl rfl rfl rfl <| WL_opG rfl rfl rfl rfl guard_neg (Run_move (Opd.t rfl)) rfl rfl rfl <| ?_
  obtain ⟨b24, e25, hm⟩ := letv_some hm
  refine WL_opG rfl rfl rfl rfl guard_neg (Run.eqB (Run_notB (Opd.g rfl id)) e25) rfl rfl rfl <| ?_
  obtain ⟨b26, e27, hm⟩ := letv_some hm
  refine WL_op (Run.eqB (Run_or (Opd.t rfl) (Opd.g rfl id)) e27) rfl rfl rfl rfl <| ?_
  refine WL_nil ?_
  refine At_then ?_
  refine WC_cond (Opd.t rfl) (fun hc28 => ?_) (fun hc28 => ?_)
  ·
    replace hm := bif_t hc28 hm
    refine WC_seq ?_
    refine WC_region ?_
    refine WL_op (Run_loadA (vs := [(.int .i64 r11.1.op), (.int .i64 r11.1.n), (.int .i64 r11.1.at_), (sl v13)]) Tryd.underlying24 rfl ti24 (Opd.t rfl) (fun _ => (hs.box (i := 3) rfl).part 0 rfl) rfl) rfl rfl rfl rfl <| ?_
    refine WS_store (us := [(.int .i64 r11.1.op), (.int .i64 r11.1.n), (.int .i64 r11.1.at_), (sl v13)]) (vs' := [(.int .i64 r11.1.op), (.int .i64 r11.1.n), (.int .i64 r11.1.at_), (sl v13)]) hs 7 rfl ti24 (Opd.t rfl) (Opd.t rfl) rfl rfl rfl rfl rfl ?_
    intro w29 hs
    replace hs := Sat.n13 (Γ := Φ) hs rfl
    refine WL_nil ?_
    refine At_then ?_
    refine WC_ret ?_
    refine At_then_ret <| ?_
    refine At_r1 rfl (ResIs.cA (vs := [(.int .i64 r11.1.op), (.int .i64 r11.1.n), (.int .i64 r11.1.at_), (sl v13)]) rfl Tryd.underlying24 rfl ti24 ((hs.box (i := 7) rfl).part 0 rfl) rfl) ?_
    cases hm
    exact ⟨v13, R14, rfl, (hs.re 13 [4, 0, 1, 2] rfl)⟩
  ·
    replace hm := bif_f hc28 hm
    refine WC_skip ?_
    refine At_then ?_
    refine WC_seq ?_
    refine WC_region ?_
    refine WL_op (Run_move (Opd.t rfl)) rfl rfl rfl rfl <| ?_
    obtain ⟨r30, hr31, hm⟩ := bind_some' hm
    refine WL_call (f := 51) (first := []) (cap := []) (xs := [(.tmp 33)]) (vs := [(.pointer (some ⟨b, 0, none⟩))]) (args := [(.pointer (some ⟨b, 0, none⟩))]) Tryd.call51 Opd.f (.cons (Opd.t rfl) .nil) rfl rfl (expr_read_next_ok (hs.re 13 [0, 1, 2, 1, 2, 3, 4, 5, 6, 7, 8, 9, 10, 11, 12] rfl) hr31) ?_
    rintro _ w32 ⟨rfl, hs⟩
    replace hs := Sat.n15 (Γ := Φ) hs rfl
    refine WS_alloc (zs := [(.int .i64 0), (S []), (.int .i64 0), (.int .i64 0)]) hs ti60 rfl rfl ?_
    intro b33 w34 hs
    replace hs := Sat.n16 (Γ := Φ) hs rfl
    refine WS_store (us := [(.int .i64 r30.1), (S r30.2.1), (.int .i64 r30.2.2.1), (.int .i64 r30.2.2.2)]) (vs' := [(.int .i64 r30.1), (S r30.2.1), (.int .i64 r30.2.2.1), (.int .i64 r30.2.2.2)]) hs 0 rfl ti60 (Opd.t rfl) (Opd.t rfl) rfl rfl rfl rfl rfl ?_
    intro w35 hs
    replace hs := Sat.n16 (Γ := Φ) hs rfl
    refine WL_nil ?_
    refine At_then ?_
    refine WC_seq ?_
    refine WC_region ?_
    refine WL_op (Run_move (Opd.t rfl)) rfl rfl rfl rfl <| WL_op (Run_nilP (Opd.t rfl)) rfl rfl rfl rfl <| WL_op (Run_fieldAddr fo71_1 (Opd.t rfl)) rfl rfl rfl rfl <| WL_op (Run_load1 (v := (.int .i64 r11.2.1)) Tryd.underlying3 rfl (Opd.t rfl) (fun _ => (hs.box (i := 1) rfl).part 1 rfl)) rfl rfl rfl rfl <| WL_op (Run_add (Opd.t rfl) Opd.c) rfl rfl rfl rfl <| WL_op (Run_nilP (Opd.t rfl)) rfl rfl rfl rfl <| WL_op (Run_fieldAddr fo71_1 (Opd.t rfl)) rfl rfl rfl rfl <| ?_
    refine WS_store (us := [(.int .i64 (IntKind.i64.wrap (r11.2.1 + 1)))]) (vs' := [(sl v4), (.int .i64 (IntKind.i64.wrap (r11.2.1 + 1))), (sl v6), (.int .i64 r11.2.2.1), (.int .i64 r11.2.2.2.1), (.int .i64 r11.2.2.2.2)]) hs 1 rfl ti3 (Opd.t rfl) (Opd.t rfl) rfl rfl rfl rfl rfl ?_
    intro w36 hs
    replace hs := Sat.n16 (Γ := Φ) hs rfl
    refine WL_nil ?_
    refine At_then ?_
    refine WC_seq ?_
    refine WC_region ?_
    refine WL_op (Run_move (Opd.t rfl)) rfl rfl rfl rfl <| WL_op (Run_move (Opd.t rfl)) rfl rfl rfl rfl <| ?_
    obtain ⟨r37, hr38, hm⟩ := bind_some' hm
    refine WL_call (f := 42) (first := []) (cap := []) (xs := [(.tmp 42), (.tmp 43)]) (vs := [(.pointer (some ⟨b, 0, none⟩)), (.func (.func 43) #[] #[])]) (args := [(.pointer (some ⟨b, 0, none⟩)), (.func (.func 43) #[] #[])]) Tryd.call42 Opd.f (.cons (Opd.t rfl) (.cons (Opd.t rfl) .nil)) rfl rfl (ih_expr_read_lower (hs.re 16 [1, 2, 3, 14, 15, 0, 2, 3, 4, 5, 6, 7, 8, 9, 10, 11, 12, 13, 14, 15] rfl) hr38) ?_
    rintro _ w41 ⟨v39, R40, rfl, hs⟩
    replace hs := Sat.n19 (Γ := Φ) hs rfl
    refine WS_alloc (zs := [(.int .i64 0), (.int .i64 0), (.int .i64 0), (sl (none, 0, 0))]) hs ti24 rfl rfl ?_
    intro b42 w43 hs
    replace hs := Sat.n20 (Γ := Φ) hs rfl
    refine WS_store (us := [(.int .i64 r37.1.op), (.int .i64 r37.1.n), (.int .i64 r37.1.at_), (sl v39)]) (vs' := [(.int .i64 r37.1.op), (.int .i64 r37.1.n), (.int .i64 r37.1.at_), (sl v39)]) hs 0 rfl ti24 (Opd.t rfl) (Opd.t rfl) rfl rfl rfl rfl rfl ?_
    intro w44 hs
    replace hs := Sat.n20 (Γ := Φ) hs rfl
    refine WL_nil ?_
    refine At_then ?_
    refine WC_seq ?_
    refine WC_region ?_
    refine WL_op (Run_move (Opd.t rfl)) rfl rfl rfl rfl <| WL_op (Run_fieldAddr fo60_3 (Opd.t rfl)) rfl rfl rfl rfl <| WL_op (Run_load1 (v := (.int .i64 r30.2.2.2)) Tryd.underlying3 rfl (Opd.t rfl) (fun _ => (hs.box (i := 5) rfl).part 3 rfl)) rfl rfl rfl rfl <| WL_op (Run_loadA (vs := [(.int .i64 r11.1.op), (.int .i64 r11.1.n), (.int .i64 r11.1.at_), (sl v13)]) Tryd.underlying24 rfl ti24 (Opd.t rfl) (fun _ => (hs.box (i := 10) rfl).part 0 rfl) rfl) rfl rfl rfl rfl <| WL_op (Run_loadA (vs := [(.int .i64 r37.1.op), (.int .i64 r37.1.n), (.int .i64 r37.1.at_), (sl v39)]) Tryd.underlying24 rfl ti24 (Opd.t rfl) (fun _ => (hs.box (i := 0) rfl).part 0 rfl) rfl) rfl rfl rfl rfl <| ?_
    replace hs := hs.freeze (i := 11) rfl
    replace hs := hs.freeze (i := 1) rfl
    refine WS_lit (A := RExpr) (xs := [r11.1, r37.1]) (zs := [(.int .i64 0), (.int .i64 0), (.int .i64 0), (sl (none, 0, 0))]) (cells := [(.int .i64 r11.1.op), (.int .i64 r11.1.n), (.int .i64 r11.1.at_), (sl v13), (.int .i64 r37.1.op), (.int .i64 r37.1.n), (.int .i64 r37.1.at_), (sl v39)]) (parts := [(0, (.tmp 48)), (1, (.tmp 49))]) hs Tryd.underlying22 ti24 rfl rfl rfl (.cons (Opd.t rfl) (.cons (Opd.t rfl) .nil)) (by kernel_rfl) rfl (ARd.cons (A := RExpr) (c := [(.int .i64 r11.1.op), (.int .i64 r11.1.n), (.int .i64 r11.1.at_), (sl v13)]) (x := r11.1) (RExpr_closeE (⟨_, rfl, (hs.sl (i := 11) rfl)⟩)) (ARd.cons (A := RExpr) (c := [(.int .i64 r37.1.op), (.int .i64 r37.1.n), (.int .i64 r37.1.at_), (sl v39)]) (x := r37.1) (RExpr_closeE (⟨_, rfl, (hs.sl (i := 1) rfl)⟩)) ARd.nil)) rfl ?_
    intro b45 w46 hs
    replace hs := hs.re 21 [0, 3, 4, 5, 15, 19, 20] rfl
    replace hs := Sat.n7 (Γ := Φ) hs rfl
    refine WL_op (Run_build (parts := [(0, (.tmp 45)), (2, (.tmp 47)), (3, (.tmp 50))]) (v := (.agg #[(.int .i64 r19.1), (.int .i64 0), (.int .i64 r30.2.2.2), (sl (some ⟨b45, 0, none⟩, 2, 2))])) (.cons (Opd.t rfl) (.cons (Opd.t rfl) (.cons (Opd.t rfl) .nil))) (fun _ => by kernel_rfl)) rfl rfl rfl rfl <| ?_
    refine WS_store (us := [(.int .i64 r19.1), (.int .i64 0), (.int .i64 r30.2.2.2), (sl (some ⟨b45, 0, none⟩, 2, 2))]) (vs' := [(.int .i64 r19.1), (.int .i64 0), (.int .i64 r30.2.2.2), (sl (some ⟨b45, 0, none⟩, 2, 2))]) hs 4 rfl ti24 (Opd.t rfl) (Opd.t rfl) rfl rfl rfl rfl rfl ?_
    intro w47 hs
    replace hs := Sat.n7 (Γ := Φ) hs rfl
    refine WL_nil ?_
    refine At_then ?_
    refine WC_ret ?_
    refine At_r1 rfl (ResIs.cA (vs := [(.int .i64 r19.1), (.int .i64 0), (.int .i64 r30.2.2.2), (sl (some ⟨b45, 0, none⟩, 2, 2))]) rfl Tryd.underlying24 rfl ti24 ((hs.box (i := 4) rfl).part 0 rfl) rfl) ?_
    cases hm
    exact ⟨(some ⟨b45, 0, none⟩, 2, 2), [b45], rfl, (hs.re 7 [0, 1, 2, 3] rfl)⟩

set_option maxRecDepth 100000 in
set_option maxHeartbeats 4000000 in
theorem expr_read_iff_ok {k_expr_read_lower : ((List (Int × Str × Int × Int)) × Int × (List Str) × Int × Int × Int) → Option (Ex × Int × Int × Int × Int)} (ih_expr_read_lower : ∀ {Φ : Ctx} {w : World} {l : (List (Int × Str × Int × Int))} {at_ : Int} {names : (List Str)} {deep : Int} {bad : Int} {place : Int} {b : Nat} {v2 : SLV} {v4 : SLV} {r : (Ex × Int × Int × Int × Int)}, Sat (box b 71 [(sl v2), (.int .i64 at_), (sl v4), (.int .i64 deep), (.int .i64 bad), (.int .i64 place)] :: imm (RSl (RP (RI .i64) (RP RS (RP (RI .i64) (RI .i64))))) [sl v2] l :: imm (RSl RS) [sl v4] names :: gl 0 (keysL.map S) :: gl 1 (textsL.map S) :: Φ) w → k_expr_read_lower (l, at_, names, deep, bad, place) = some r → CallsR Tryd.prog 42 [(.pointer (some ⟨b, 0, none⟩)), (.func (.func 43) #[] #[])] w (fun v w' => ∃ v3 : SLV, ∃ R4 : List Nat, v = (.agg #[(.int .i64 r.1.op), (.int .i64 r.1.n), (.int .i64 r.1.at_), (sl v3)]) ∧ Sat (osl RExpr 24 (sl v3) r.1.l R4 :: box b 71 [(sl v2), (.int .i64 r.2.1), (sl v4), (.int .i64 r.2.2.1), (.int .i64 r.2.2.2.1), (.int .i64 r.2.2.2.2)] :: imm (RSl (RP (RI .i64) (RP RS (RP (RI .i64) (RI .i64))))) [sl v2] l :: imm (RSl RS) [sl v4] names :: Φ) w')) {Φ : Ctx} {w : World} {l : (List (Int × Str × Int × Int))} {at_ : Int} {names : (List Str)} {deep : Int} {bad : Int} {place : Int} {b : Nat} {v2 : SLV} {v4 : SLV} {r : (Ex × Int × Int × Int × Int)} (hs : Sat (box b 71 [(sl v2), (.int .i64 at_), (sl v4), (.int .i64 deep), (.int .i64 bad), (.int .i64 place)] :: imm (RSl (RP (RI .i64) (RP RS (RP (RI .i64) (RI .i64))))) [sl v2] l :: imm (RSl RS) [sl v4] names :: gl 0 (keysL.map S) :: gl 1 (textsL.map S) :: Φ) w) (hm : expr_read_iff k_expr_read_lower l at_ names deep bad place = some r) :
    CallsR Tryd.prog 43 [(.pointer (some ⟨b, 0, none⟩))] w (fun v w' => ∃ v3 : SLV, ∃ R4 : List Nat, v = (.agg #[(.int .i64 r.1.op), (.int .i64 r.1.n), (.int .i64 r.1.at_), (sl v3)]) ∧ Sat (osl RExpr 24 (sl v3) r.1.l R4 :: box b 71 [(sl v2), (.int .i64 r.2.1), (sl v4), (.int .i64 r.2.2.1), (.int .i64 r.2.2.2.1), (.int .i64 r.2.2.2.2)] :: imm (RSl (RP (RI .i64) (RP RS (RP (RI .i64) (RI .i64))))) [sl v2] l :: imm (RSl RS) [sl v4] names :: Φ) w') := by
  refine CallsX_enter Tryd.func43 rfl Tryd.ntmps43 rfl ?_
  unfold expr_read_iff at hm
  refine WC_seq ?_
  refine WC_region ?_
  refine WS_alloc (zs := [(.int .i64 0), (.int .i64 0), (.int .i64 0), (sl (none, 0, 0))]) hs ti24 rfl rfl ?_
  intro b9 w10 hs
  replace hs := Sat.n6 (Γ := Φ) hs rfl
  refine WL_nil ?_
  refine At_then ?_
  refine WC_seq ?_
  refine WC_region ?_
  refine WL_op (Run_move (Opd.t rfl)) rfl rfl rfl rfl <| ?_
  refine WS_lit (A := (RI .i64)) (xs := [19]) (zs := [(.int .i64 0)]) (cells := [(.int .i64 19)]) (parts := [(0, (.const (.int .i64 19)))]) hs Tryd.underlying25 ti3 rfl rfl rfl (.cons Opd.c .nil) (by kernel_rfl) rfl (ARd.cons (A := (RI .i64)) (c := [(.int .i64 19)]) (x := 19) rfl ARd.nil) rfl ?_
  intro b11 w12 hs
  replace hs := Sat.n7 (Γ := Φ) hs rfl
  replace hs := hs.freeze (i := 0) rfl
  obtain ⟨r13, hr14, hm⟩ := bind_some' hm
  refine WL_call (f := 47) (first := []) (cap := []) (xs := [(.tmp 3), (.func 48), (.func 43), (.tmp 4)]) (vs := [(.pointer (some ⟨b, 0, none⟩)), (.func (.func 48) #[] #[]), (.func (.func 43) #[] #[]), (sl (some ⟨b11, 0, none⟩, 1, 1))]) (args := [(.pointer (some ⟨b, 0, none⟩)), (.func (.func 48) #[] #[]), (.func (.func 43) #[] #[]), (sl (some ⟨b11, 0, none⟩, 1, 1))]) Tryd.call47 Opd.f (.cons (Opd.t rfl) (.cons Opd.f (.cons Opd.f (.cons (Opd.t rfl) .nil)))) rfl rfl (expr_read_right_ok (@ih_expr_read_lower) (hs.re 7 [2, 0, 3, 4, 5, 6, 0, 1, 3, 4, 5, 6] rfl) hr14) ?_
  rintro _ w17 ⟨v15, R16, rfl, hs⟩
  replace hs := Sat.n10 (Γ := Φ) hs rfl
  refine WS_store (us := [(.int .i64 r13.1.op), (.int .i64 r13.1.n), (.int .i64 r13.1.at_), (sl v15)]) (vs' := [(.int .i64 r13.1.op), (.int .i64 r13.1.n), (.int .i64 r13.1.at_), (sl v15)]) hs 5 rfl ti24 (Opd.t rfl) (Opd.t rfl) rfl rfl rfl rfl rfl ?_
  intro w18 hs
  replace hs := Sat.n10 (Γ := Φ) hs rfl
  refine WL_nil ?_
  refine At_then ?_
  refine WC_ret ?_
  refine At_r1 rfl (ResIs.cA (vs := [(.int .i64 r13.1.op), (.int .i64 r13.1.n), (.int .i64 r13.1.at_), (sl v15)]) rfl Tryd.underlying24 rfl ti24 ((hs.box (i := 5) rfl).part 0 rfl) rfl) ?_
  cases hm
  exact ⟨v15, R16, rfl, (hs.re 10 [0, 1, 2, 3] rfl)⟩

set_option maxRecDepth 100000 in
set_option maxHeartbeats 4000000 in
theorem expr_read_lower_F_ok {k_expr_read_lower : ((List (Int × Str × Int × Int)) × Int × (List Str) × Int × Int × Int) → Option (Ex × Int × Int × Int × Int)} (ih_expr_read_lower : ∀ {Φ : Ctx} {w : World} {l : (List (Int × Str × Int × Int))} {at_ : Int} {names : (List Str)} {deep : Int} {bad : Int} {place : Int} {b : Nat} {v2 : SLV} {v4 : SLV} {r : (Ex × Int × Int × Int × Int)}, Sat (box b 71 [(sl v2), (.int .i64 at_), (sl v4), (.int .i64 deep), (.int .i64 bad), (.int .i64 place)] :: imm (RSl (RP (RI .i64) (RP RS (RP (RI .i64) (RI .i64))))) [sl v2] l :: imm (RSl RS) [sl v4] names :: gl 0 (keysL.map S) :: gl 1 (textsL.map S) :: Φ) w → k_expr_read_lower (l, at_, names, deep, bad, place) = some r → CallsR Tryd.prog 42 [(.pointer (some ⟨b, 0, none⟩)), (.func (.func 43) #[] #[])] w (fun v w' => ∃ v3 : SLV, ∃ R4 : List Nat, v = (.agg #[(.int .i64 r.1.op), (.int .i64 r.1.n), (.int .i64 r.1.at_), (sl v3)]) ∧ Sat (osl RExpr 24 (sl v3) r.1.l R4 :: box b 71 [(sl v2), (.int .i64 r.2.1), (sl v4), (.int .i64 r.2.2.1), (.int .i64 r.2.2.2.1), (.int .i64 r.2.2.2.2)] :: imm (RSl (RP (RI .i64) (RP RS (RP (RI .i64) (RI .i64))))) [sl v2] l :: imm (RSl RS) [sl v4] names :: Φ) w')) {Φ : Ctx} {w : World} {l : (List (Int × Str × Int × Int))} {at_ : Int} {names : (List Str)} {deep : Int} {bad : Int} {place : Int} {b : Nat} {v2 : SLV} {v4 : SLV} {r : (Ex × Int × Int × Int × Int)} (hs : Sat (box b 71 [(sl v2), (.int .i64 at_), (sl v4), (.int .i64 deep), (.int .i64 bad), (.int .i64 place)] :: imm (RSl (RP (RI .i64) (RP RS (RP (RI .i64) (RI .i64))))) [sl v2] l :: imm (RSl RS) [sl v4] names :: gl 0 (keysL.map S) :: gl 1 (textsL.map S) :: Φ) w) (hm : expr_read_lower_F k_expr_read_lower l at_ names deep bad place = some r) :
    CallsR Tryd.prog 42 [(.pointer (some ⟨b, 0, none⟩)), (.func (.func 43) #[] #[])] w (fun v w' => ∃ v3 : SLV, ∃ R4 : List Nat, v = (.agg #[(.int .i64 r.1.op), (.int .i64 r.1.n), (.int .i64 r.1.at_), (sl v3)]) ∧ Sat (osl RExpr 24 (sl v3) r.1.l R4 :: box b 71 [(sl v2), (.int .i64 r.2.1), (sl v4), (.int .i64 r.2.2.1), (.int .i64 r.2.2.2.1), (.int .i64 r.2.2.2.2)] :: imm (RSl (RP (RI .i64) (RP RS (RP (RI .i64) (RI .i64))))) [sl v2] l :: imm (RSl RS) [sl v4] names :: Φ) w') := by
  refine CallsX_enter Tryd.func42 rfl Tryd.ntmps42 rfl ?_
  unfold expr_read_lower_F at hm
  refine WC_seq ?_
  refine WC_region ?_
  refine WS_alloc (zs := [(.int .i64 0), (.int .i64 0), (.int .i64 0), (sl (none, 0, 0))]) hs ti24 rfl rfl ?_
  intro b9 w10 hs
  replace hs := Sat.n6 (Γ := Φ) hs rfl
  refine WL_nil ?_
  refine At_then ?_
  refine WC_seq ?_
  refine WC_seq ?_
  refine WC_region ?_
  refine WL_op (Run_move (Opd.t rfl)) rfl rfl rfl rfl <| WL_op (Run_nilP (Opd.t rfl)) rfl rfl rfl rfl <| WL_op (Run_fieldAddr fo71_3 (Opd.t rfl)) rfl rfl rfl rfl <| WL_op (Run_load1 (v := (.int .i64 deep)) Tryd.underlying3 rfl (Opd.t rfl) (fun _ => (hs.box (i := 1) rfl).part 3 rfl)) rfl rfl rfl rfl <| WL_op (Run_geI (Opd.t rfl) Opd.c) rfl rfl rfl rfl <| ?_
  refine WL_nil ?_
  refine At_then ?_
  refine WC_cond (Opd.t rfl) (fun hc11 => ?_) (fun hc11 => ?_)
  ·
    replace hm := bif_t hc11 hm
    refine WC_seq ?_
    refine WC_region ?_
    refine WL_op (Run_move (Opd.t rfl)) rfl rfl rfl rfl <| ?_
    obtain ⟨r12, hr13, hm⟩ := bind_some' hm
    refine WL_call (f := 46) (first := []) (cap := []) (xs := [(.tmp 11), (.const (.int .i64 9))]) (vs := [(.pointer (some ⟨b, 0, none⟩)), (.int .i64 9)]) (args := [(.pointer (some ⟨b, 0, none⟩)), (.int .i64 9)]) Tryd.call46 Opd.f (.cons (Opd.t rfl) (.cons Opd.c .nil)) rfl rfl (expr_read_fail_ok (hs.re 6 [1, 2, 3, 0, 2, 3, 4, 5] rfl) hr13) ?_
    rintro _ w16 ⟨v14, R15, rfl, hs⟩
    replace hs := Sat.n9 (Γ := Φ) hs rfl
    refine WS_store (us := [(.int .i64 r12.1.op), (.int .i64 r12.1.n), (.int .i64 r12.1.at_), (sl v14)]) (vs' := [(.int .i64 r12.1.op), (.int .i64 r12.1.n), (.int .i64 r12.1.at_), (sl v14)]) hs 4 rfl ti24 (Opd.t rfl) (Opd.t rfl) rfl rfl rfl rfl rfl ?_
    intro w17 hs
    replace hs := Sat.n9 (Γ := Φ) hs rfl
    refine WL_nil ?_
    refine At_then ?_
    refine WC_ret ?_
    refine At_then_ret <| ?_
    refine At_r1 rfl (ResIs.cA (vs := [(.int .i64 r12.1.op), (.int .i64 r12.1.n), (.int .i64 r12.1.at_), (sl v14)]) rfl Tryd.underlying24 rfl ti24 ((hs.box (i := 4) rfl).part 0 rfl) rfl) ?_
    cases hm
    exact ⟨v14, R15, rfl, (hs.re 9 [0, 1, 2, 3] rfl)⟩
  ·
    replace hm := bif_f hc11 hm
    refine WC_skip ?_
    refine At_then ?_
    refine WC_seq ?_
    refine WC_region ?_
    refine WL_op (Run_move (Opd.t rfl)) rfl rfl rfl rfl <| WL_op (Run_nilP (Opd.t rfl)) rfl rfl rfl rfl <| WL_op (Run_fieldAddr fo71_3 (Opd.t rfl)) rfl rfl rfl rfl <| WL_op (Run_load1 (v := (.int .i64 deep)) Tryd.underlying3 rfl (Opd.t rfl) (fun _ => (hs.box (i := 1) rfl).part 3 rfl)) rfl rfl rfl rfl <| WL_op (Run_add (Opd.t rfl) Opd.c) rfl rfl rfl rfl <| WL_op (Run_nilP (Opd.t rfl)) rfl rfl rfl rfl <| WL_op (Run_fieldAddr fo71_3 (Opd.t rfl)) rfl rfl rfl rfl <| ?_
    refine WS_store (us := [(.int .i64 (IntKind.i64.wrap (deep + 1)))]) (vs' := [(sl v2), (.int .i64 at_), (sl v4), (.int .i64 (IntKind.i64.wrap (deep + 1))), (.int .i64 bad), (.int .i64 place)]) hs 1 rfl ti3 (Opd.t rfl) (Opd.t rfl) rfl rfl rfl rfl rfl ?_
    intro w18 hs
    replace hs := Sat.n6 (Γ := Φ) hs rfl
    refine WL_nil ?_
    refine At_then ?_
    refine WC_seq ?_
    refine WC_region ?_
    refine WL_op (Run_move (Opd.t rfl)) rfl rfl rfl rfl <| WL_op (Run_move (Opd.t rfl)) rfl rfl rfl rfl <| ?_
    obtain ⟨r19, hr20, hm⟩ := bind_some' hm
    refine WL_call (f := 43) (first := []) (cap := []) (xs := [(.tmp 21)]) (vs := [(.pointer (some ⟨b, 0, none⟩))]) (args := [(.pointer (some ⟨b, 0, none⟩))]) Tryd.call43 (Opd.t rfl) (.cons (Opd.t rfl) .nil) rfl rfl (expr_read_iff_ok (@ih_expr_read_lower) (hs.re 6 [1, 2, 3, 4, 5, 0, 2, 3, 4, 5] rfl) hr20) ?_
    rintro _ w23 ⟨v21, R22, rfl, hs⟩
    replace hs := Sat.n9 (Γ := Φ) hs rfl
    refine WS_alloc (zs := [(.int .i64 0), (.int .i64 0), (.int .i64 0), (sl (none, 0, 0))]) hs ti24 rfl rfl ?_
    intro b24 w25 hs
    replace hs := Sat.n10 (Γ := Φ) hs rfl
    refine WS_store (us := [(.int .i64 r19.1.op), (.int .i64 r19.1.n), (.int .i64 r19.1.at_), (sl v21)]) (vs' := [(.int .i64 r19.1.op), (.int .i64 r19.1.n), (.int .i64 r19.1.at_), (sl v21)]) hs 0 rfl ti24 (Opd.t rfl) (Opd.t rfl) rfl rfl rfl rfl rfl ?_
    intro w26 hs
    replace hs := Sat.n10 (Γ := Φ) hs rfl
    refine WL_nil ?_
    refine At_then ?_
    refine WC_seq ?_
    refine WC_region ?_
    refine WL_op (Run_move (Opd.t rfl)) rfl rfl rfl rfl <| WL_op (Run_nilP (Opd.t rfl)) rfl rfl rfl rfl <| WL_op (Run_fieldAddr fo71_3 (Opd.t rfl)) rfl rfl rfl rfl <| WL_op (Run_load1 (v := (.int .i64 r19.2.2.1)) Tryd.underlying3 rfl (Opd.t rfl) (fun _ => (hs.box (i := 2) rfl).part 3 rfl)) rfl rfl rfl rfl <| WL_op (Run_sub (Opd.t rfl) Opd.c) rfl rfl rfl rfl <| WL_op (Run_nilP (Opd.t rfl)) rfl rfl rfl rfl <| WL_op (Run_fieldAddr fo71_3 (Opd.t rfl)) rfl rfl rfl rfl <| ?_
    refine WS_store (us := [(.int .i64 (IntKind.i64.wrap (r19.2.2.1 - 1)))]) (vs' := [(sl v2), (.int .i64 r19.2.1), (sl v4), (.int .i64 (IntKind.i64.wrap (r19.2.2.1 - 1))), (.int .i64 r19.2.2.2.1), (.int .i64 r19.2.2.2.2)]) hs 2 rfl ti3 (Opd.t rfl) (Opd.t rfl) rfl rfl rfl rfl rfl ?_
    intro w27 hs
    replace hs := Sat.n10 (Γ := Φ) hs rfl
    refine WL_nil ?_
    refine At_then ?_
    refine WC_seq ?_
    refine WC_region ?_
    refine WL_op (Run_loadA (vs := [(.int .i64 r19.1.op), (.int .i64 r19.1.n), (.int .i64 r19.1.at_), (sl v21)]) Tryd.underlying24 rfl ti24 (Opd.t rfl) (fun _ => (hs.box (i := 0) rfl).part 0 rfl) rfl) rfl rfl rfl rfl <| ?_
    refine WS_store (us := [(.int .i64 r19.1.op), (.int .i64 r19.1.n), (.int .i64 r19.1.at_), (sl v21)]) (vs' := [(.int .i64 r19.1.op), (.int .i64 r19.1.n), (.int .i64 r19.1.at_), (sl v21)]) hs 5 rfl ti24 (Opd.t rfl) (Opd.t rfl) rfl rfl rfl rfl rfl ?_
    intro w28 hs
    replace hs := Sat.n10 (Γ := Φ) hs rfl
    refine WL_nil ?_
    refine At_then ?_
    refine WC_ret ?_
    refine At_r1 rfl (ResIs.cA (vs := [(.int .i64 r19.1.op), (.int .i64 r19.1.n), (.int .i64 r19.1.at_), (sl v21)]) rfl Tryd.underlying24 rfl ti24 ((hs.box (i := 5) rfl).part 0 rfl) rfl) ?_
    cases hm
    exact ⟨v21, R22, rfl, (hs.re 10 [1, 2, 3, 4] rfl)⟩

set_option maxRecDepth 100000 in
set_option maxHeartbeats 4000000 in
theorem expr_read_lower_ok {Φ : Ctx} {w : World} {l : (List (Int × Str × Int × Int))} {at_ : Int} {names : (List Str)} {deep : Int} {bad : Int} {place : Int} {b : Nat} {v2 : SLV} {v4 : SLV} {r : (Ex × Int × Int × Int × Int)} (hs : Sat (box b 71 [(sl v2), (.int .i64 at_), (sl v4), (.int .i64 deep), (.int .i64 bad), (.int .i64 place)] :: imm (RSl (RP (RI .i64) (RP RS (RP (RI .i64) (RI .i64))))) [sl v2] l :: imm (RSl RS) [sl v4] names :: gl 0 (keysL.map S) :: gl 1 (textsL.map S) :: Φ) w) (hm : expr_read_lower l at_ names deep bad place = some r) :
    CallsR Tryd.prog 42 [(.pointer (some ⟨b, 0, none⟩)), (.func (.func 43) #[] #[])] w (fun v w' => ∃ v3 : SLV, ∃ R4 : List Nat, v = (.agg #[(.int .i64 r.1.op), (.int .i64 r.1.n), (.int .i64 r.1.at_), (sl v3)]) ∧ Sat (osl RExpr 24 (sl v3) r.1.l R4 :: box b 71 [(sl v2), (.int .i64 r.2.1), (sl v4), (.int .i64 r.2.2.1), (.int .i64 r.2.2.2.1), (.int .i64 r.2.2.2.2)] :: imm (RSl (RP (RI .i64) (RP RS (RP (RI .i64) (RI .i64))))) [sl v2] l :: imm (RSl RS) [sl v4] names :: Φ) w') := by
  have key : ∀ (N : Nat) {Φ : Ctx} {w : World} {l : (List (Int × Str × Int × Int))} {at_ : Int} {names : (List Str)} {deep : Int} {bad : Int} {place : Int} {b : Nat} {v2 : SLV} {v4 : SLV} {r : (Ex × Int × Int × Int × Int)}, Sat (box b 71 [(sl v2), (.int .i64 at_), (sl v4), (.int .i64 deep), (.int .i64 bad), (.int .i64 place)] :: imm (RSl (RP (RI .i64) (RP RS (RP (RI .i64) (RI .i64))))) [sl v2] l :: imm (RSl RS) [sl v4] names :: gl 0 (keysL.map S) :: gl 1 (textsL.map S) :: Φ) w → fixN (fun k (s : ((List (Int × Str × Int × Int)) × Int × (List Str) × Int × Int × Int)) => expr_read_lower_F k s.1 s.2.1 s.2.2.1 s.2.2.2.1 s.2.2.2.2.1 s.2.2.2.2.2) N (l, at_, names, deep, bad, place) = some r → CallsR Tryd.prog 42 [(.pointer (some ⟨b, 0, none⟩)), (.func (.func 43) #[] #[])] w (fun v w' => ∃ v3 : SLV, ∃ R4 : List Nat, v = (.agg #[(.int .i64 r.1.op), (.int .i64 r.1.n), (.int .i64 r.1.at_), (sl v3)]) ∧ Sat (osl RExpr 24 (sl v3) r.1.l R4 :: box b 71 [(sl v2), (.int .i64 r.2.1), (sl v4), (.int .i64 r.2.2.1), (.int .i64 r.2.2.2.1), (.int .i64 r.2.2.2.2)] :: imm (RSl (RP (RI .i64) (RP RS (RP (RI .i64) (RI .i64))))) [sl v2] l :: imm (RSl RS) [sl v4] names :: Φ) w') := by
    intro N
    induction N with
    | zero => intros; rename_i h; cases h
    | succ N ih => intros; rename_i hs hm; rw [fixN_succ] at hm; exact expr_read_lower_F_ok (@ih) hs hm
  unfold expr_read_lower at hm
  exact key FUEL hs hm

end Go.Proofs.YtmeombbmhpcacaaDoor
