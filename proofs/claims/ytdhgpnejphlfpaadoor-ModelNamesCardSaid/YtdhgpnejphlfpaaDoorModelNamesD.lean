/-
  Own texts for the statement ModelNames, cut down to what it needs: Walk13, Walk14, Walk15, Walk16, Walk17, Walk18. (cut and joined by a program)
-/
import Derived.Test.YtdhgpnejphlfpaaDoorModelNamesA
import Derived.Test.YtdhgpnejphlfpaaDoorModelNamesB
import Derived.Test.YtdhgpnejphlfpaaDoorModelNamesC
namespace Go.Proofs.YtdhgpnejphlfpaaDoor
open Go.Proofs
set_option maxRecDepth 100000 in
set_option maxHeartbeats 4000000 in
theorem expr_read_before_s5_ok {k_expr_read_lower_s11 : ((List (Int × Str × Int × Int)) × Int × (List Str) × Int × Int × Int) → Option (Ex × Int × Int × Int × Int)} {k_expr_read_lower_s14 : ((List (Int × Str × Int × Int)) × Int × (List Str) × Int × Int × Int) → Option (Ex × Int × Int × Int × Int)} (ih_expr_read_lower_s11 : ∀ {Φ : Ctx} {w : World} {l : (List (Int × Str × Int × Int))} {at_ : Int} {names : (List Str)} {deep : Int} {bad : Int} {place : Int} {b : Nat} {v2 : SLV} {R : List Nat} {v4 : SLV} {R5 : List Nat} {r : (Ex × Int × Int × Int × Int)}, Sat (box b 115 [(sl v2), (.int .i64 at_), (sl v4), (.int .i64 deep), (.int .i64 bad), (.int .i64 place)] :: osl (RP (RI .i64) (RP RS (RP (RI .i64) (RI .i64)))) 28 (sl v2) l R :: osl RS 9 (sl v4) names R5 :: gl 0 (keysL.map S) :: gl 1 (textsL.map S) :: Φ) w → k_expr_read_lower_s11 (l, at_, names, deep, bad, place) = some r → CallsR Tryd.prog 77 [(.pointer (some ⟨b, 0, none⟩)), (.func (.func 78) #[] #[])] w (fun v w' => ∃ v3 : SLV, ∃ R4 : List Nat, v = (.agg #[(.int .i64 r.1.op), (.int .i64 r.1.n), (.int .i64 r.1.at_), (sl v3)]) ∧ Sat (osl RExpr 51 (sl v3) r.1.l R4 :: box b 115 [(sl v2), (.int .i64 r.2.1), (sl v4), (.int .i64 r.2.2.1), (.int .i64 r.2.2.2.1), (.int .i64 r.2.2.2.2)] :: osl (RP (RI .i64) (RP RS (RP (RI .i64) (RI .i64)))) 28 (sl v2) l R :: osl RS 9 (sl v4) names R5 :: Φ) w')) (ih_expr_read_lower_s14 : ∀ {Φ : Ctx} {w : World} {l : (List (Int × Str × Int × Int))} {at_ : Int} {names : (List Str)} {deep : Int} {bad : Int} {place : Int} {b : Nat} {v2 : SLV} {R : List Nat} {v4 : SLV} {R5 : List Nat} {r : (Ex × Int × Int × Int × Int)}, Sat (box b 115 [(sl v2), (.int .i64 at_), (sl v4), (.int .i64 deep), (.int .i64 bad), (.int .i64 place)] :: osl (RP (RI .i64) (RP RS (RP (RI .i64) (RI .i64)))) 28 (sl v2) l R :: osl RS 9 (sl v4) names R5 :: gl 0 (keysL.map S) :: gl 1 (textsL.map S) :: Φ) w → k_expr_read_lower_s14 (l, at_, names, deep, bad, place) = some r → CallsR Tryd.prog 77 [(.pointer (some ⟨b, 0, none⟩)), (.func (.func 92) #[] #[])] w (fun v w' => ∃ v3 : SLV, ∃ R4 : List Nat, v = (.agg #[(.int .i64 r.1.op), (.int .i64 r.1.n), (.int .i64 r.1.at_), (sl v3)]) ∧ Sat (osl RExpr 51 (sl v3) r.1.l R4 :: box b 115 [(sl v2), (.int .i64 r.2.1), (sl v4), (.int .i64 r.2.2.1), (.int .i64 r.2.2.2.1), (.int .i64 r.2.2.2.2)] :: osl (RP (RI .i64) (RP RS (RP (RI .i64) (RI .i64)))) 28 (sl v2) l R :: osl RS 9 (sl v4) names R5 :: Φ) w')) {Φ : Ctx} {w : World} {ops : (List Int)} {l : (List (Int × Str × Int × Int))} {at_ : Int} {names : (List Str)} {deep : Int} {bad : Int} {place : Int} {b : Nat} {v2 : SLV} {v4 : SLV} {R : List Nat} {v6 : SLV} {R7 : List Nat} {r : (Ex × Int × Int × Int × Int)} (hs : Sat (box b 115 [(sl v4), (.int .i64 at_), (sl v6), (.int .i64 deep), (.int .i64 bad), (.int .i64 place)] :: imm (RSl (RI .i64)) [sl v2] ops :: osl (RP (RI .i64) (RP RS (RP (RI .i64) (RI .i64)))) 28 (sl v4) l R :: osl RS 9 (sl v6) names R7 :: gl 0 (keysL.map S) :: gl 1 (textsL.map S) :: Φ) w) (hm : expr_read_before_s5 k_expr_read_lower_s11 k_expr_read_lower_s14 ops l at_ names deep bad place = some r) :
  CallsR Tryd.prog 93 [(.pointer (some ⟨b, 0, none⟩)), (.func (.func 92) #[] #[]), (.func (.func 94) #[] #[]), (sl v2)] w (fun v w' => ∃ v3 : SLV, ∃ R4 : List Nat, v = (.agg #[(.int .i64 r.1.op), (.int .i64 r.1.n), (.int .i64 r.1.at_), (sl v3)]) ∧ Sat (osl RExpr 51 (sl v3) r.1.l R4 :: box b 115 [(sl v4), (.int .i64 r.2.1), (sl v6), (.int .i64 r.2.2.1), (.int .i64 r.2.2.2.1), (.int .i64 r.2.2.2.2)] :: osl (RP (RI .i64) (RP RS (RP (RI .i64) (RI .i64)))) 28 (sl v4) l R :: osl RS 9 (sl v6) names R7 :: Φ) w') := by
 refine CallsX_enter Tryd.func93 rfl Tryd.ntmps93 rfl ?_
 unfold expr_read_before_s5 at hm
 refine WC_seq <| WC_region ?_
 refine WS_alloc (zs := [(.int .i64 0), (.int .i64 0), (.int .i64 0), (sl (none, 0, 0))]) hs ti51 rfl rfl ?_
 intro b9 w10 hs
 replace hs := Sat.n7 (Γ := Φ) hs rfl
 refine WL_nil <| At_then <| WC_seq <| WC_region ?_
 refine Wo (Run_move (O rfl)) rfl <| Wo (Run_move (O rfl)) rfl <| ?_
 obtain ⟨r11, hr12, hm⟩ := bind_some' hm
 refine WL_call (f := 83) (first := []) (cap := []) (xs := [(.tmp 13), (.tmp 14)]) (vs := [(.pointer (some ⟨b, 0, none⟩)), (sl v2)]) (args := [(.pointer (some ⟨b, 0, none⟩)), (sl v2)]) Tryd.call83 Opd.f (.cons (O rfl) (.cons (O rfl) .nil)) rfl rfl (expr_read_is_s3_ok (hs.re 7 [1, 2, 3, 4, 5, 6, 0, 2, 5, 6] rfl) hr12) ?_
 rintro _ w13 ⟨rfl, hs⟩
 replace hs := Sat.n7 (Γ := Φ) hs rfl
 refine Wo (Run_move (O rfl)) rfl <| Wo (Run_extract (vs := [(.int .i64 r11.1), (.bool r11.2)]) (O rfl) rfl) rfl <| Wo (Run_extract (vs := [(.int .i64 r11.1), (.bool r11.2)]) (O rfl) rfl) rfl <| Wo (Run_assign (O rfl)) rfl <| Wo (Run_assign (O rfl)) rfl <| ?_
 refine WL_nil <| At_then <| WC_seq <| WC_seq <| WC_region ?_
 refine Wo (Run_move (O rfl)) rfl <| Wo (Run_notB (O rfl)) rfl <| ?_
 refine WL_nil <| At_then ?_
 refine WC_cond (O rfl) (fun hc14 => ?_) (fun hc14 => ?_)
 ·
  replace hm := bif_t hc14 hm
  refine WC_seq <| WC_region ?_
  refine Wo (Run_move (O rfl)) rfl <| Wo (Run_move (O rfl)) rfl <| ?_
  obtain ⟨r15, hr16, hm⟩ := bind_some' hm
  refine WL_call (f := 94) (first := []) (cap := []) (xs := [(.tmp 21)]) (vs := [(.pointer (some ⟨b, 0, none⟩))]) (args := [(.pointer (some ⟨b, 0, none⟩))]) Tryd.call94 (O rfl) (.cons (O rfl) .nil) rfl rfl (expr_read_cmp_s3_ok (@ih_expr_read_lower_s11) (hs.re 7 [0, 1, 2, 5, 6, 3, 4, 5, 6] rfl) hr16) ?_
  rintro _ w19 ⟨v17, R18, rfl, hs⟩
  replace hs := Sat.n8 (Γ := Φ) hs rfl
  refine WS_store (us := [(.int .i64 r15.1.op), (.int .i64 r15.1.n), (.int .i64 r15.1.at_), (sl v17)]) (vs' := [(.int .i64 r15.1.op), (.int .i64 r15.1.n), (.int .i64 r15.1.at_), (sl v17)]) hs 4 rfl ti51 (O rfl) (O rfl) rfl rfl rfl rfl rfl ?_
  intro w20 hs
  replace hs := Sat.n8 (Γ := Φ) hs rfl
  refine WL_nil <| At_then ?_
  refine WC_ret ?_
  refine At_then_ret <| ?_
  refine At_r1 rfl (ResIs.cA (vs := [(.int .i64 r15.1.op), (.int .i64 r15.1.n), (.int .i64 r15.1.at_), (sl v17)]) rfl Tryd.underlying51 rfl ti51 ((hs.box (i := 4) rfl).part 0 rfl) rfl) ?_
  cases hm
  exact ⟨v17, R18, rfl, (hs.re 8 [0, 1, 2, 3] rfl)⟩
 ·
  replace hm := bif_f hc14 hm
  refine WC_skip ?_
  refine At_then <| WC_seq <| WC_region ?_
  refine Wo (Run_move (O rfl)) rfl <| ?_
  obtain ⟨r21, hr22, hm⟩ := bind_some' hm
  refine WL_call (f := 84) (first := []) (cap := []) (xs := [(.tmp 23)]) (vs := [(.pointer (some ⟨b, 0, none⟩))]) (args := [(.pointer (some ⟨b, 0, none⟩))]) Tryd.call84 Opd.f (.cons (O rfl) .nil) rfl rfl (expr_read_next_s3_ok (hs.re 7 [0, 1, 2, 3, 4, 5, 6] rfl) hr22) ?_
  rintro _ w23 ⟨rfl, hs⟩
  replace hs := Sat.n7 (Γ := Φ) hs rfl
  refine WS_alloc (zs := [(.int .i64 0), (S []), (.int .i64 0), (.int .i64 0)]) hs ti28 rfl rfl ?_
  intro b24 w25 hs
  replace hs := Sat.n8 (Γ := Φ) hs rfl
  refine WS_store (us := [(.int .i64 r21.1), (S r21.2.1), (.int .i64 r21.2.2.1), (.int .i64 r21.2.2.2)]) (vs' := [(.int .i64 r21.1), (S r21.2.1), (.int .i64 r21.2.2.1), (.int .i64 r21.2.2.2)]) hs 0 rfl ti28 (O rfl) (O rfl) rfl rfl rfl rfl rfl ?_
  intro w26 hs
  replace hs := Sat.n8 (Γ := Φ) hs rfl
  refine WL_nil <| At_then <| WC_seq <| WC_region ?_
  refine Wo (Run_move (O rfl)) rfl <| Wo (Run_nilP (O rfl)) rfl <| Wo (Run_fieldAddr fo115_1 (O rfl)) rfl <| Wo (Run_load1 (v := (.int .i64 at_)) Tryd.underlying3 rfl (O rfl) (fun _ => (hs.box (i := 1) rfl).part 1 rfl)) rfl <| Wo (Run_add (O rfl) Opd.c) rfl <| Wo (Run_nilP (O rfl)) rfl <| Wo (Run_fieldAddr fo115_1 (O rfl)) rfl <| ?_
  refine WS_store (us := [(.int .i64 (IntKind.i64.wrap (at_ + 1)))]) (vs' := [(sl v4), (.int .i64 (IntKind.i64.wrap (at_ + 1))), (sl v6), (.int .i64 deep), (.int .i64 bad), (.int .i64 place)]) hs 1 rfl ti3 (O rfl) (O rfl) rfl rfl rfl rfl rfl ?_
  intro w27 hs
  replace hs := Sat.n8 (Γ := Φ) hs rfl
  refine WL_nil <| At_then <| WC_seq ?_
  refine WC_region_mixed [0, 0, 2, 0, 0, 24, 32, 69, 255] (.q 0 0 (.q 1 1 (.q 2 3 (.q 3 7 (.q 4 15 (.l 5 31 (.l 6 63 (.q 7 127 (.l 8 255 .nil))))))))) (by kernel_rfl) (by kernel_rfl) ?_
  intro w28 hx29
  replace hs := hs.ext hx29
  refine WD_pure (fun _ => (Run_move (O rfl))) rfl rfl rfl rfl <| WD_pure (fun _ => (Run_fieldAddr fo28_3 (O rfl))) rfl rfl rfl rfl <| WD_op (fun w => CellsAt w ⟨b24, 3, none⟩ [(.int .i64 r21.2.2.2)]) ((hs.box (i := 0) rfl).part 3 rfl) (fun _ hJ => (Run_load1 (v := (.int .i64 r21.2.2.2)) Tryd.underlying3 rfl (O rfl) (fun _ => hJ))) rfl rfl rfl rfl <| WD_pure (fun _ => (Run_move (O rfl))) rfl rfl rfl rfl <| WD_pure (fun _ => (Run_move (O rfl))) rfl rfl rfl rfl <| ?_
  refine WD_loud (pend' := [(2, fun w => CellsAt w ⟨b24, 3, none⟩ [(.int .i64 r21.2.2.2)])]) rfl (by kernel_rfl) ?_
  obtain ⟨r30, hr31, hm⟩ := bind_some' hm
  refine WL_call (f := 77) (first := []) (cap := []) (xs := [(.tmp 35), (.tmp 36)]) (vs := [(.pointer (some ⟨b, 0, none⟩)), (.func (.func 92) #[] #[])]) (args := [(.pointer (some ⟨b, 0, none⟩)), (.func (.func 92) #[] #[])]) Tryd.call77 Opd.f (.cons (O rfl) (.cons (O rfl) .nil)) rfl rfl (ih_expr_read_lower_s14 (hs.re 8 [1, 2, 3, 6, 7, 0, 4, 5, 6, 7] rfl) hr31) ?_
  rintro _ w34 ⟨v32, R33, rfl, hs⟩
  replace hs := Sat.n9 (Γ := Φ) hs rfl
  refine WL_nil ?_
  refine At_QK (allJ_cons ((hs.box (i := 4) rfl).part 3 rfl) allJ_nil) ?_
  refine WD_loud (pend' := [(2, fun w => CellsAt w ⟨b24, 3, none⟩ [(.int .i64 r21.2.2.2)])]) rfl (by kernel_rfl) ?_
  replace hs := hs.freeze (i := 0) rfl
  refine WS_lit (A := RExpr) (xs := [r30.1]) (zs := [(.int .i64 0), (.int .i64 0), (.int .i64 0), (sl (none, 0, 0))]) (cells := [(.int .i64 r30.1.op), (.int .i64 r30.1.n), (.int .i64 r30.1.at_), (sl v32)]) (parts := [(0, (.tmp 37))]) hs Tryd.underlying49 ti51 rfl rfl rfl (.cons (O rfl) .nil) (by kernel_rfl) rfl (ARd.cons (A := RExpr) (c := [(.int .i64 r30.1.op), (.int .i64 r30.1.n), (.int .i64 r30.1.at_), (sl v32)]) (x := r30.1) (RExpr_closeE (⟨_, rfl, (hs.sl (i := 0) rfl)⟩)) ARd.nil) rfl ?_
  intro b35 w36 hs
  replace hs := Sat.n10 (Γ := Φ) hs rfl
  refine WL_nil ?_
  refine At_QK (allJ_cons ((hs.box (i := 5) rfl).part 3 rfl) allJ_nil) ?_
  refine WD_pure (fun _ => (Run_build (parts := [(0, (.tmp 32)), (2, (.tmp 34)), (3, (.tmp 38))]) (v := (.agg #[(.int .i64 r11.1), (.int .i64 0), (.int .i64 r21.2.2.2), (sl (some ⟨b35, 0, none⟩, 1, 1))])) (.cons (O rfl) (.cons (O rfl) (.cons (O rfl) .nil))) (fun _ => by kernel_rfl))) rfl rfl rfl rfl <| ?_
  refine WD_loud (pend' := []) rfl (by kernel_rfl) ?_
  refine WS_store (us := [(.int .i64 r11.1), (.int .i64 0), (.int .i64 r21.2.2.2), (sl (some ⟨b35, 0, none⟩, 1, 1))]) (vs' := [(.int .i64 r11.1), (.int .i64 0), (.int .i64 r21.2.2.2), (sl (some ⟨b35, 0, none⟩, 1, 1))]) hs 6 rfl ti51 (O rfl) (O rfl) rfl rfl rfl rfl rfl ?_
  intro w37 hs
  replace hs := Sat.n10 (Γ := Φ) hs rfl
  refine WL_nil ?_
  refine At_QK allJ_nil ?_
  refine WD_nil ?_
  refine At_then ?_
  refine WC_ret ?_
  refine At_r1 rfl (ResIs.cA (vs := [(.int .i64 r11.1), (.int .i64 0), (.int .i64 r21.2.2.2), (sl (some ⟨b35, 0, none⟩, 1, 1))]) rfl Tryd.underlying51 rfl ti51 ((hs.box (i := 6) rfl).part 0 rfl) rfl) ?_
  cases hm
  exact ⟨(some ⟨b35, 0, none⟩, 1, 1), [b35], rfl, (hs.re 10 [0, 2, 3, 4] rfl)⟩
set_option maxRecDepth 100000 in
set_option maxHeartbeats 4000000 in
theorem expr_read_pre_s3_ok {k_expr_read_lower_s11 : ((List (Int × Str × Int × Int)) × Int × (List Str) × Int × Int × Int) → Option (Ex × Int × Int × Int × Int)} {k_expr_read_lower_s14 : ((List (Int × Str × Int × Int)) × Int × (List Str) × Int × Int × Int) → Option (Ex × Int × Int × Int × Int)} (ih_expr_read_lower_s11 : ∀ {Φ : Ctx} {w : World} {l : (List (Int × Str × Int × Int))} {at_ : Int} {names : (List Str)} {deep : Int} {bad : Int} {place : Int} {b : Nat} {v2 : SLV} {R : List Nat} {v4 : SLV} {R5 : List Nat} {r : (Ex × Int × Int × Int × Int)}, Sat (box b 115 [(sl v2), (.int .i64 at_), (sl v4), (.int .i64 deep), (.int .i64 bad), (.int .i64 place)] :: osl (RP (RI .i64) (RP RS (RP (RI .i64) (RI .i64)))) 28 (sl v2) l R :: osl RS 9 (sl v4) names R5 :: gl 0 (keysL.map S) :: gl 1 (textsL.map S) :: Φ) w → k_expr_read_lower_s11 (l, at_, names, deep, bad, place) = some r → CallsR Tryd.prog 77 [(.pointer (some ⟨b, 0, none⟩)), (.func (.func 78) #[] #[])] w (fun v w' => ∃ v3 : SLV, ∃ R4 : List Nat, v = (.agg #[(.int .i64 r.1.op), (.int .i64 r.1.n), (.int .i64 r.1.at_), (sl v3)]) ∧ Sat (osl RExpr 51 (sl v3) r.1.l R4 :: box b 115 [(sl v2), (.int .i64 r.2.1), (sl v4), (.int .i64 r.2.2.1), (.int .i64 r.2.2.2.1), (.int .i64 r.2.2.2.2)] :: osl (RP (RI .i64) (RP RS (RP (RI .i64) (RI .i64)))) 28 (sl v2) l R :: osl RS 9 (sl v4) names R5 :: Φ) w')) (ih_expr_read_lower_s14 : ∀ {Φ : Ctx} {w : World} {l : (List (Int × Str × Int × Int))} {at_ : Int} {names : (List Str)} {deep : Int} {bad : Int} {place : Int} {b : Nat} {v2 : SLV} {R : List Nat} {v4 : SLV} {R5 : List Nat} {r : (Ex × Int × Int × Int × Int)}, Sat (box b 115 [(sl v2), (.int .i64 at_), (sl v4), (.int .i64 deep), (.int .i64 bad), (.int .i64 place)] :: osl (RP (RI .i64) (RP RS (RP (RI .i64) (RI .i64)))) 28 (sl v2) l R :: osl RS 9 (sl v4) names R5 :: gl 0 (keysL.map S) :: gl 1 (textsL.map S) :: Φ) w → k_expr_read_lower_s14 (l, at_, names, deep, bad, place) = some r → CallsR Tryd.prog 77 [(.pointer (some ⟨b, 0, none⟩)), (.func (.func 92) #[] #[])] w (fun v w' => ∃ v3 : SLV, ∃ R4 : List Nat, v = (.agg #[(.int .i64 r.1.op), (.int .i64 r.1.n), (.int .i64 r.1.at_), (sl v3)]) ∧ Sat (osl RExpr 51 (sl v3) r.1.l R4 :: box b 115 [(sl v2), (.int .i64 r.2.1), (sl v4), (.int .i64 r.2.2.1), (.int .i64 r.2.2.2.1), (.int .i64 r.2.2.2.2)] :: osl (RP (RI .i64) (RP RS (RP (RI .i64) (RI .i64)))) 28 (sl v2) l R :: osl RS 9 (sl v4) names R5 :: Φ) w')) {Φ : Ctx} {w : World} {l : (List (Int × Str × Int × Int))} {at_ : Int} {names : (List Str)} {deep : Int} {bad : Int} {place : Int} {b : Nat} {v2 : SLV} {R : List Nat} {v4 : SLV} {R5 : List Nat} {r : (Ex × Int × Int × Int × Int)} (hs : Sat (box b 115 [(sl v2), (.int .i64 at_), (sl v4), (.int .i64 deep), (.int .i64 bad), (.int .i64 place)] :: osl (RP (RI .i64) (RP RS (RP (RI .i64) (RI .i64)))) 28 (sl v2) l R :: osl RS 9 (sl v4) names R5 :: gl 0 (keysL.map S) :: gl 1 (textsL.map S) :: Φ) w) (hm : expr_read_pre_s3 k_expr_read_lower_s11 k_expr_read_lower_s14 l at_ names deep bad place = some r) :
  CallsR Tryd.prog 92 [(.pointer (some ⟨b, 0, none⟩))] w (fun v w' => ∃ v3 : SLV, ∃ R4 : List Nat, v = (.agg #[(.int .i64 r.1.op), (.int .i64 r.1.n), (.int .i64 r.1.at_), (sl v3)]) ∧ Sat (osl RExpr 51 (sl v3) r.1.l R4 :: box b 115 [(sl v2), (.int .i64 r.2.1), (sl v4), (.int .i64 r.2.2.1), (.int .i64 r.2.2.2.1), (.int .i64 r.2.2.2.2)] :: osl (RP (RI .i64) (RP RS (RP (RI .i64) (RI .i64)))) 28 (sl v2) l R :: osl RS 9 (sl v4) names R5 :: Φ) w') := by
 refine CallsX_enter Tryd.func92 rfl Tryd.ntmps92 rfl ?_
 unfold expr_read_pre_s3 at hm
 refine WC_seq <| WC_region ?_
 refine WS_alloc (zs := [(.int .i64 0), (.int .i64 0), (.int .i64 0), (sl (none, 0, 0))]) hs ti51 rfl rfl ?_
 intro b9 w10 hs
 replace hs := Sat.n6 (Γ := Φ) hs rfl
 refine WL_nil <| At_then <| WC_seq <| WC_region ?_
 refine Wo (Run_move (O rfl)) rfl <| ?_
 refine WS_lit (A := (RI .i64)) (xs := [15, 20, 21, 22]) (zs := [(.int .i64 0)]) (cells := [(.int .i64 15), (.int .i64 20), (.int .i64 21), (.int .i64 22)]) (parts := [(0, (.const (.int .i64 15))), (1, (.const (.int .i64 20))), (2, (.const (.int .i64 21))), (3, (.const (.int .i64 22)))]) hs Tryd.underlying30 ti3 rfl rfl rfl (.cons Opd.c (.cons Opd.c (.cons Opd.c (.cons Opd.c .nil)))) (by kernel_rfl) rfl (ARd.cons (A := (RI .i64)) (c := [(.int .i64 15)]) (x := 15) rfl (ARd.cons (A := (RI .i64)) (c := [(.int .i64 20)]) (x := 20) rfl (ARd.cons (A := (RI .i64)) (c := [(.int .i64 21)]) (x := 21) rfl (ARd.cons (A := (RI .i64)) (c := [(.int .i64 22)]) (x := 22) rfl ARd.nil)))) rfl ?_
 intro b11 w12 hs
 replace hs := Sat.n7 (Γ := Φ) hs rfl
 replace hs := hs.freeze (i := 0) rfl
 obtain ⟨r13, hr14, hm⟩ := bind_some' hm
 refine WL_call (f := 93) (first := []) (cap := []) (xs := [(.tmp 3), (.func 92), (.func 94), (.tmp 4)]) (vs := [(.pointer (some ⟨b, 0, none⟩)), (.func (.func 92) #[] #[]), (.func (.func 94) #[] #[]), (sl (some ⟨b11, 0, none⟩, 4, 4))]) (args := [(.pointer (some ⟨b, 0, none⟩)), (.func (.func 92) #[] #[]), (.func (.func 94) #[] #[]), (sl (some ⟨b11, 0, none⟩, 4, 4))]) Tryd.call93 Opd.f (.cons (O rfl) (.cons Opd.f (.cons Opd.f (.cons (O rfl) .nil)))) rfl rfl (expr_read_before_s5_ok (@ih_expr_read_lower_s11) (@ih_expr_read_lower_s14) (hs.re 7 [2, 0, 3, 4, 5, 6, 0, 1, 5, 6] rfl) hr14) ?_
 rintro _ w17 ⟨v15, R16, rfl, hs⟩
 replace hs := Sat.n8 (Γ := Φ) hs rfl
 refine WS_store (us := [(.int .i64 r13.1.op), (.int .i64 r13.1.n), (.int .i64 r13.1.at_), (sl v15)]) (vs' := [(.int .i64 r13.1.op), (.int .i64 r13.1.n), (.int .i64 r13.1.at_), (sl v15)]) hs 5 rfl ti51 (O rfl) (O rfl) rfl rfl rfl rfl rfl ?_
 intro w18 hs
 replace hs := Sat.n8 (Γ := Φ) hs rfl
 refine WL_nil <| At_then ?_
 refine WC_ret ?_
 refine At_r1 rfl (ResIs.cA (vs := [(.int .i64 r13.1.op), (.int .i64 r13.1.n), (.int .i64 r13.1.at_), (sl v15)]) rfl Tryd.underlying51 rfl ti51 ((hs.box (i := 5) rfl).part 0 rfl) rfl) ?_
 cases hm
 exact ⟨v15, R16, rfl, (hs.re 8 [0, 1, 2, 3] rfl)⟩
set_option maxRecDepth 100000 in
set_option maxHeartbeats 4000000 in
theorem expr_read_lower_s14_F_ok {k_expr_read_lower_s11 : ((List (Int × Str × Int × Int)) × Int × (List Str) × Int × Int × Int) → Option (Ex × Int × Int × Int × Int)} {k_expr_read_lower_s14 : ((List (Int × Str × Int × Int)) × Int × (List Str) × Int × Int × Int) → Option (Ex × Int × Int × Int × Int)} (ih_expr_read_lower_s11 : ∀ {Φ : Ctx} {w : World} {l : (List (Int × Str × Int × Int))} {at_ : Int} {names : (List Str)} {deep : Int} {bad : Int} {place : Int} {b : Nat} {v2 : SLV} {R : List Nat} {v4 : SLV} {R5 : List Nat} {r : (Ex × Int × Int × Int × Int)}, Sat (box b 115 [(sl v2), (.int .i64 at_), (sl v4), (.int .i64 deep), (.int .i64 bad), (.int .i64 place)] :: osl (RP (RI .i64) (RP RS (RP (RI .i64) (RI .i64)))) 28 (sl v2) l R :: osl RS 9 (sl v4) names R5 :: gl 0 (keysL.map S) :: gl 1 (textsL.map S) :: Φ) w → k_expr_read_lower_s11 (l, at_, names, deep, bad, place) = some r → CallsR Tryd.prog 77 [(.pointer (some ⟨b, 0, none⟩)), (.func (.func 78) #[] #[])] w (fun v w' => ∃ v3 : SLV, ∃ R4 : List Nat, v = (.agg #[(.int .i64 r.1.op), (.int .i64 r.1.n), (.int .i64 r.1.at_), (sl v3)]) ∧ Sat (osl RExpr 51 (sl v3) r.1.l R4 :: box b 115 [(sl v2), (.int .i64 r.2.1), (sl v4), (.int .i64 r.2.2.1), (.int .i64 r.2.2.2.1), (.int .i64 r.2.2.2.2)] :: osl (RP (RI .i64) (RP RS (RP (RI .i64) (RI .i64)))) 28 (sl v2) l R :: osl RS 9 (sl v4) names R5 :: Φ) w')) (ih_expr_read_lower_s14 : ∀ {Φ : Ctx} {w : World} {l : (List (Int × Str × Int × Int))} {at_ : Int} {names : (List Str)} {deep : Int} {bad : Int} {place : Int} {b : Nat} {v2 : SLV} {R : List Nat} {v4 : SLV} {R5 : List Nat} {r : (Ex × Int × Int × Int × Int)}, Sat (box b 115 [(sl v2), (.int .i64 at_), (sl v4), (.int .i64 deep), (.int .i64 bad), (.int .i64 place)] :: osl (RP (RI .i64) (RP RS (RP (RI .i64) (RI .i64)))) 28 (sl v2) l R :: osl RS 9 (sl v4) names R5 :: gl 0 (keysL.map S) :: gl 1 (textsL.map S) :: Φ) w → k_expr_read_lower_s14 (l, at_, names, deep, bad, place) = some r → CallsR Tryd.prog 77 [(.pointer (some ⟨b, 0, none⟩)), (.func (.func 92) #[] #[])] w (fun v w' => ∃ v3 : SLV, ∃ R4 : List Nat, v = (.agg #[(.int .i64 r.1.op), (.int .i64 r.1.n), (.int .i64 r.1.at_), (sl v3)]) ∧ Sat (osl RExpr 51 (sl v3) r.1.l R4 :: box b 115 [(sl v2), (.int .i64 r.2.1), (sl v4), (.int .i64 r.2.2.1), (.int .i64 r.2.2.2.1), (.int .i64 r.2.2.2.2)] :: osl (RP (RI .i64) (RP RS (RP (RI .i64) (RI .i64)))) 28 (sl v2) l R :: osl RS 9 (sl v4) names R5 :: Φ) w')) {Φ : Ctx} {w : World} {l : (List (Int × Str × Int × Int))} {at_ : Int} {names : (List Str)} {deep : Int} {bad : Int} {place : Int} {b : Nat} {v2 : SLV} {R : List Nat} {v4 : SLV} {R5 : List Nat} {r : (Ex × Int × Int × Int × Int)} (hs : Sat (box b 115 [(sl v2), (.int .i64 at_), (sl v4), (.int .i64 deep), (.int .i64 bad), (.int .i64 place)] :: osl (RP (RI .i64) (RP RS (RP (RI .i64) (RI .i64)))) 28 (sl v2) l R :: osl RS 9 (sl v4) names R5 :: gl 0 (keysL.map S) :: gl 1 (textsL.map S) :: Φ) w) (hm : expr_read_lower_s14_F k_expr_read_lower_s11 k_expr_read_lower_s14 l at_ names deep bad place = some r) :
  CallsR Tryd.prog 77 [(.pointer (some ⟨b, 0, none⟩)), (.func (.func 92) #[] #[])] w (fun v w' => ∃ v3 : SLV, ∃ R4 : List Nat, v = (.agg #[(.int .i64 r.1.op), (.int .i64 r.1.n), (.int .i64 r.1.at_), (sl v3)]) ∧ Sat (osl RExpr 51 (sl v3) r.1.l R4 :: box b 115 [(sl v2), (.int .i64 r.2.1), (sl v4), (.int .i64 r.2.2.1), (.int .i64 r.2.2.2.1), (.int .i64 r.2.2.2.2)] :: osl (RP (RI .i64) (RP RS (RP (RI .i64) (RI .i64)))) 28 (sl v2) l R :: osl RS 9 (sl v4) names R5 :: Φ) w') := by
 refine CallsX_enter Tryd.func77 rfl Tryd.ntmps77 rfl ?_
 unfold expr_read_lower_s14_F at hm
 refine WC_seq <| WC_region ?_
 refine WS_alloc (zs := [(.int .i64 0), (.int .i64 0), (.int .i64 0), (sl (none, 0, 0))]) hs ti51 rfl rfl ?_
 intro b9 w10 hs
 replace hs := Sat.n6 (Γ := Φ) hs rfl
 refine WL_nil <| At_then <| WC_seq <| WC_seq <| WC_region ?_
 refine Wo (Run_move (O rfl)) rfl <| Wo (Run_nilP (O rfl)) rfl <| Wo (Run_fieldAddr fo115_3 (O rfl)) rfl <| Wo (Run_load1 (v := (.int .i64 deep)) Tryd.underlying3 rfl (O rfl) (fun _ => (hs.box (i := 1) rfl).part 3 rfl)) rfl <| Wo (Run_geI (O rfl) Opd.c) rfl <| ?_
 refine WL_nil <| At_then ?_
 refine WC_cond (O rfl) (fun hc11 => ?_) (fun hc11 => ?_)
 ·
  replace hm := bif_t hc11 hm
  refine WC_seq <| WC_region ?_
  refine Wo (Run_move (O rfl)) rfl <| ?_
  obtain ⟨r12, hr13, hm⟩ := bind_some' hm
  refine WL_call (f := 80) (first := []) (cap := []) (xs := [(.tmp 11), (.const (.int .i64 9))]) (vs := [(.pointer (some ⟨b, 0, none⟩)), (.int .i64 9)]) (args := [(.pointer (some ⟨b, 0, none⟩)), (.int .i64 9)]) Tryd.call80 Opd.f (.cons (O rfl) (.cons Opd.c .nil)) rfl rfl (expr_read_fail_s3_ok (hs.re 6 [1, 2, 3, 0, 4, 5] rfl) hr13) ?_
  rintro _ w16 ⟨v14, R15, rfl, hs⟩
  replace hs := Sat.n7 (Γ := Φ) hs rfl
  refine WS_store (us := [(.int .i64 r12.1.op), (.int .i64 r12.1.n), (.int .i64 r12.1.at_), (sl v14)]) (vs' := [(.int .i64 r12.1.op), (.int .i64 r12.1.n), (.int .i64 r12.1.at_), (sl v14)]) hs 4 rfl ti51 (O rfl) (O rfl) rfl rfl rfl rfl rfl ?_
  intro w17 hs
  replace hs := Sat.n7 (Γ := Φ) hs rfl
  refine WL_nil <| At_then ?_
  refine WC_ret ?_
  refine At_then_ret <| ?_
  refine At_r1 rfl (ResIs.cA (vs := [(.int .i64 r12.1.op), (.int .i64 r12.1.n), (.int .i64 r12.1.at_), (sl v14)]) rfl Tryd.underlying51 rfl ti51 ((hs.box (i := 4) rfl).part 0 rfl) rfl) ?_
  cases hm
  exact ⟨v14, R15, rfl, (hs.re 7 [0, 1, 2, 3] rfl)⟩
 ·
  replace hm := bif_f hc11 hm
  refine WC_skip ?_
  refine At_then <| WC_seq <| WC_region ?_
  refine Wo (Run_move (O rfl)) rfl <| Wo (Run_nilP (O rfl)) rfl <| Wo (Run_fieldAddr fo115_3 (O rfl)) rfl <| Wo (Run_load1 (v := (.int .i64 deep)) Tryd.underlying3 rfl (O rfl) (fun _ => (hs.box (i := 1) rfl).part 3 rfl)) rfl <| Wo (Run_add (O rfl) Opd.c) rfl <| Wo (Run_nilP (O rfl)) rfl <| Wo (Run_fieldAddr fo115_3 (O rfl)) rfl <| ?_
  refine WS_store (us := [(.int .i64 (IntKind.i64.wrap (deep + 1)))]) (vs' := [(sl v2), (.int .i64 at_), (sl v4), (.int .i64 (IntKind.i64.wrap (deep + 1))), (.int .i64 bad), (.int .i64 place)]) hs 1 rfl ti3 (O rfl) (O rfl) rfl rfl rfl rfl rfl ?_
  intro w18 hs
  replace hs := Sat.n6 (Γ := Φ) hs rfl
  refine WL_nil <| At_then <| WC_seq <| WC_region ?_
  refine Wo (Run_move (O rfl)) rfl <| Wo (Run_move (O rfl)) rfl <| ?_
  obtain ⟨r19, hr20, hm⟩ := bind_some' hm
  refine WL_call (f := 92) (first := []) (cap := []) (xs := [(.tmp 21)]) (vs := [(.pointer (some ⟨b, 0, none⟩))]) (args := [(.pointer (some ⟨b, 0, none⟩))]) Tryd.call92 (O rfl) (.cons (O rfl) .nil) rfl rfl (expr_read_pre_s3_ok (@ih_expr_read_lower_s11) (@ih_expr_read_lower_s14) (hs.re 6 [1, 2, 3, 4, 5, 0, 4, 5] rfl) hr20) ?_
  rintro _ w23 ⟨v21, R22, rfl, hs⟩
  replace hs := Sat.n7 (Γ := Φ) hs rfl
  refine WS_alloc (zs := [(.int .i64 0), (.int .i64 0), (.int .i64 0), (sl (none, 0, 0))]) hs ti51 rfl rfl ?_
  intro b24 w25 hs
  replace hs := Sat.n8 (Γ := Φ) hs rfl
  refine WS_store (us := [(.int .i64 r19.1.op), (.int .i64 r19.1.n), (.int .i64 r19.1.at_), (sl v21)]) (vs' := [(.int .i64 r19.1.op), (.int .i64 r19.1.n), (.int .i64 r19.1.at_), (sl v21)]) hs 0 rfl ti51 (O rfl) (O rfl) rfl rfl rfl rfl rfl ?_
  intro w26 hs
  replace hs := Sat.n8 (Γ := Φ) hs rfl
  refine WL_nil <| At_then <| WC_seq <| WC_region ?_
  refine Wo (Run_move (O rfl)) rfl <| Wo (Run_nilP (O rfl)) rfl <| Wo (Run_fieldAddr fo115_3 (O rfl)) rfl <| Wo (Run_load1 (v := (.int .i64 r19.2.2.1)) Tryd.underlying3 rfl (O rfl) (fun _ => (hs.box (i := 2) rfl).part 3 rfl)) rfl <| Wo (Run_sub (O rfl) Opd.c) rfl <| Wo (Run_nilP (O rfl)) rfl <| Wo (Run_fieldAddr fo115_3 (O rfl)) rfl <| ?_
  refine WS_store (us := [(.int .i64 (IntKind.i64.wrap (r19.2.2.1 - 1)))]) (vs' := [(sl v2), (.int .i64 r19.2.1), (sl v4), (.int .i64 (IntKind.i64.wrap (r19.2.2.1 - 1))), (.int .i64 r19.2.2.2.1), (.int .i64 r19.2.2.2.2)]) hs 2 rfl ti3 (O rfl) (O rfl) rfl rfl rfl rfl rfl ?_
  intro w27 hs
  replace hs := Sat.n8 (Γ := Φ) hs rfl
  refine WL_nil <| At_then <| WC_seq <| WC_region ?_
  refine Wo (Run_loadA (vs := [(.int .i64 r19.1.op), (.int .i64 r19.1.n), (.int .i64 r19.1.at_), (sl v21)]) Tryd.underlying51 rfl ti51 (O rfl) (fun _ => (hs.box (i := 0) rfl).part 0 rfl) rfl) rfl <| ?_
  refine WS_store (us := [(.int .i64 r19.1.op), (.int .i64 r19.1.n), (.int .i64 r19.1.at_), (sl v21)]) (vs' := [(.int .i64 r19.1.op), (.int .i64 r19.1.n), (.int .i64 r19.1.at_), (sl v21)]) hs 5 rfl ti51 (O rfl) (O rfl) rfl rfl rfl rfl rfl ?_
  intro w28 hs
  replace hs := Sat.n8 (Γ := Φ) hs rfl
  refine WL_nil <| At_then ?_
  refine WC_ret ?_
  refine At_r1 rfl (ResIs.cA (vs := [(.int .i64 r19.1.op), (.int .i64 r19.1.n), (.int .i64 r19.1.at_), (sl v21)]) rfl Tryd.underlying51 rfl ti51 ((hs.box (i := 5) rfl).part 0 rfl) rfl) ?_
  cases hm
  exact ⟨v21, R22, rfl, (hs.re 8 [1, 2, 3, 4] rfl)⟩
set_option maxRecDepth 100000 in
set_option maxHeartbeats 4000000 in
theorem expr_read_lower_s14_ok {k_expr_read_lower_s11 : ((List (Int × Str × Int × Int)) × Int × (List Str) × Int × Int × Int) → Option (Ex × Int × Int × Int × Int)} (ih_expr_read_lower_s11 : ∀ {Φ : Ctx} {w : World} {l : (List (Int × Str × Int × Int))} {at_ : Int} {names : (List Str)} {deep : Int} {bad : Int} {place : Int} {b : Nat} {v2 : SLV} {R : List Nat} {v4 : SLV} {R5 : List Nat} {r : (Ex × Int × Int × Int × Int)}, Sat (box b 115 [(sl v2), (.int .i64 at_), (sl v4), (.int .i64 deep), (.int .i64 bad), (.int .i64 place)] :: osl (RP (RI .i64) (RP RS (RP (RI .i64) (RI .i64)))) 28 (sl v2) l R :: osl RS 9 (sl v4) names R5 :: gl 0 (keysL.map S) :: gl 1 (textsL.map S) :: Φ) w → k_expr_read_lower_s11 (l, at_, names, deep, bad, place) = some r → CallsR Tryd.prog 77 [(.pointer (some ⟨b, 0, none⟩)), (.func (.func 78) #[] #[])] w (fun v w' => ∃ v3 : SLV, ∃ R4 : List Nat, v = (.agg #[(.int .i64 r.1.op), (.int .i64 r.1.n), (.int .i64 r.1.at_), (sl v3)]) ∧ Sat (osl RExpr 51 (sl v3) r.1.l R4 :: box b 115 [(sl v2), (.int .i64 r.2.1), (sl v4), (.int .i64 r.2.2.1), (.int .i64 r.2.2.2.1), (.int .i64 r.2.2.2.2)] :: osl (RP (RI .i64) (RP RS (RP (RI .i64) (RI .i64)))) 28 (sl v2) l R :: osl RS 9 (sl v4) names R5 :: Φ) w')) {Φ : Ctx} {w : World} {l : (List (Int × Str × Int × Int))} {at_ : Int} {names : (List Str)} {deep : Int} {bad : Int} {place : Int} {b : Nat} {v2 : SLV} {R : List Nat} {v4 : SLV} {R5 : List Nat} {r : (Ex × Int × Int × Int × Int)} (hs : Sat (box b 115 [(sl v2), (.int .i64 at_), (sl v4), (.int .i64 deep), (.int .i64 bad), (.int .i64 place)] :: osl (RP (RI .i64) (RP RS (RP (RI .i64) (RI .i64)))) 28 (sl v2) l R :: osl RS 9 (sl v4) names R5 :: gl 0 (keysL.map S) :: gl 1 (textsL.map S) :: Φ) w) (hm : expr_read_lower_s14 k_expr_read_lower_s11 l at_ names deep bad place = some r) :
  CallsR Tryd.prog 77 [(.pointer (some ⟨b, 0, none⟩)), (.func (.func 92) #[] #[])] w (fun v w' => ∃ v3 : SLV, ∃ R4 : List Nat, v = (.agg #[(.int .i64 r.1.op), (.int .i64 r.1.n), (.int .i64 r.1.at_), (sl v3)]) ∧ Sat (osl RExpr 51 (sl v3) r.1.l R4 :: box b 115 [(sl v2), (.int .i64 r.2.1), (sl v4), (.int .i64 r.2.2.1), (.int .i64 r.2.2.2.1), (.int .i64 r.2.2.2.2)] :: osl (RP (RI .i64) (RP RS (RP (RI .i64) (RI .i64)))) 28 (sl v2) l R :: osl RS 9 (sl v4) names R5 :: Φ) w') := by
 have key : ∀ (N : Nat) {Φ : Ctx} {w : World} {l : (List (Int × Str × Int × Int))} {at_ : Int} {names : (List Str)} {deep : Int} {bad : Int} {place : Int} {b : Nat} {v2 : SLV} {R : List Nat} {v4 : SLV} {R5 : List Nat} {r : (Ex × Int × Int × Int × Int)}, Sat (box b 115 [(sl v2), (.int .i64 at_), (sl v4), (.int .i64 deep), (.int .i64 bad), (.int .i64 place)] :: osl (RP (RI .i64) (RP RS (RP (RI .i64) (RI .i64)))) 28 (sl v2) l R :: osl RS 9 (sl v4) names R5 :: gl 0 (keysL.map S) :: gl 1 (textsL.map S) :: Φ) w → fixN (fun k (s : ((List (Int × Str × Int × Int)) × Int × (List Str) × Int × Int × Int)) => expr_read_lower_s14_F k_expr_read_lower_s11 k s.1 s.2.1 s.2.2.1 s.2.2.2.1 s.2.2.2.2.1 s.2.2.2.2.2) N (l, at_, names, deep, bad, place) = some r → CallsR Tryd.prog 77 [(.pointer (some ⟨b, 0, none⟩)), (.func (.func 92) #[] #[])] w (fun v w' => ∃ v3 : SLV, ∃ R4 : List Nat, v = (.agg #[(.int .i64 r.1.op), (.int .i64 r.1.n), (.int .i64 r.1.at_), (sl v3)]) ∧ Sat (osl RExpr 51 (sl v3) r.1.l R4 :: box b 115 [(sl v2), (.int .i64 r.2.1), (sl v4), (.int .i64 r.2.2.1), (.int .i64 r.2.2.2.1), (.int .i64 r.2.2.2.2)] :: osl (RP (RI .i64) (RP RS (RP (RI .i64) (RI .i64)))) 28 (sl v2) l R :: osl RS 9 (sl v4) names R5 :: Φ) w') := by
  intro N
  induction N with
  | zero => intros; rename_i h; cases h
  | succ N ih => intros; rename_i hs hm; rw [fixN_succ] at hm; exact expr_read_lower_s14_F_ok (@ih_expr_read_lower_s11) (@ih) hs hm
 unfold expr_read_lower_s14 at hm
 exact key FUEL hs hm
set_option maxRecDepth 100000 in
set_option maxHeartbeats 4000000 in
theorem expr_read_deepPre_s3_ok {k_expr_read_lower_s11 : ((List (Int × Str × Int × Int)) × Int × (List Str) × Int × Int × Int) → Option (Ex × Int × Int × Int × Int)} (ih_expr_read_lower_s11 : ∀ {Φ : Ctx} {w : World} {l : (List (Int × Str × Int × Int))} {at_ : Int} {names : (List Str)} {deep : Int} {bad : Int} {place : Int} {b : Nat} {v2 : SLV} {R : List Nat} {v4 : SLV} {R5 : List Nat} {r : (Ex × Int × Int × Int × Int)}, Sat (box b 115 [(sl v2), (.int .i64 at_), (sl v4), (.int .i64 deep), (.int .i64 bad), (.int .i64 place)] :: osl (RP (RI .i64) (RP RS (RP (RI .i64) (RI .i64)))) 28 (sl v2) l R :: osl RS 9 (sl v4) names R5 :: gl 0 (keysL.map S) :: gl 1 (textsL.map S) :: Φ) w → k_expr_read_lower_s11 (l, at_, names, deep, bad, place) = some r → CallsR Tryd.prog 77 [(.pointer (some ⟨b, 0, none⟩)), (.func (.func 78) #[] #[])] w (fun v w' => ∃ v3 : SLV, ∃ R4 : List Nat, v = (.agg #[(.int .i64 r.1.op), (.int .i64 r.1.n), (.int .i64 r.1.at_), (sl v3)]) ∧ Sat (osl RExpr 51 (sl v3) r.1.l R4 :: box b 115 [(sl v2), (.int .i64 r.2.1), (sl v4), (.int .i64 r.2.2.1), (.int .i64 r.2.2.2.1), (.int .i64 r.2.2.2.2)] :: osl (RP (RI .i64) (RP RS (RP (RI .i64) (RI .i64)))) 28 (sl v2) l R :: osl RS 9 (sl v4) names R5 :: Φ) w')) {Φ : Ctx} {w : World} {l : (List (Int × Str × Int × Int))} {at_ : Int} {names : (List Str)} {deep : Int} {bad : Int} {place : Int} {b : Nat} {v2 : SLV} {R : List Nat} {v4 : SLV} {R5 : List Nat} {r : (Ex × Int × Int × Int × Int)} (hs : Sat (box b 115 [(sl v2), (.int .i64 at_), (sl v4), (.int .i64 deep), (.int .i64 bad), (.int .i64 place)] :: osl (RP (RI .i64) (RP RS (RP (RI .i64) (RI .i64)))) 28 (sl v2) l R :: osl RS 9 (sl v4) names R5 :: gl 0 (keysL.map S) :: gl 1 (textsL.map S) :: Φ) w) (hm : expr_read_deepPre_s3 k_expr_read_lower_s11 l at_ names deep bad place = some r) :
  CallsR Tryd.prog 91 [(.pointer (some ⟨b, 0, none⟩))] w (fun v w' => ∃ v3 : SLV, ∃ R4 : List Nat, v = (.agg #[(.int .i64 r.1.op), (.int .i64 r.1.n), (.int .i64 r.1.at_), (sl v3)]) ∧ Sat (osl RExpr 51 (sl v3) r.1.l R4 :: box b 115 [(sl v2), (.int .i64 r.2.1), (sl v4), (.int .i64 r.2.2.1), (.int .i64 r.2.2.2.1), (.int .i64 r.2.2.2.2)] :: osl (RP (RI .i64) (RP RS (RP (RI .i64) (RI .i64)))) 28 (sl v2) l R :: osl RS 9 (sl v4) names R5 :: Φ) w') := by
 refine CallsX_enter Tryd.func91 rfl Tryd.ntmps91 rfl ?_
 unfold expr_read_deepPre_s3 at hm
 refine WC_seq <| WC_region ?_
 refine WS_alloc (zs := [(.int .i64 0), (.int .i64 0), (.int .i64 0), (sl (none, 0, 0))]) hs ti51 rfl rfl ?_
 intro b9 w10 hs
 replace hs := Sat.n6 (Γ := Φ) hs rfl
 refine WL_nil <| At_then <| WC_seq <| WC_region ?_
 refine Wo (Run_move (O rfl)) rfl <| ?_
 obtain ⟨r11, hr12, hm⟩ := bind_some' hm
 refine WL_call (f := 77) (first := []) (cap := []) (xs := [(.tmp 3), (.func 92)]) (vs := [(.pointer (some ⟨b, 0, none⟩)), (.func (.func 92) #[] #[])]) (args := [(.pointer (some ⟨b, 0, none⟩)), (.func (.func 92) #[] #[])]) Tryd.call77 Opd.f (.cons (O rfl) (.cons Opd.f .nil)) rfl rfl (expr_read_lower_s14_ok (@ih_expr_read_lower_s11) (hs.re 6 [1, 2, 3, 4, 5, 0, 4, 5] rfl) hr12) ?_
 rintro _ w15 ⟨v13, R14, rfl, hs⟩
 replace hs := Sat.n7 (Γ := Φ) hs rfl
 refine WS_store (us := [(.int .i64 r11.1.op), (.int .i64 r11.1.n), (.int .i64 r11.1.at_), (sl v13)]) (vs' := [(.int .i64 r11.1.op), (.int .i64 r11.1.n), (.int .i64 r11.1.at_), (sl v13)]) hs 4 rfl ti51 (O rfl) (O rfl) rfl rfl rfl rfl rfl ?_
 intro w16 hs
 replace hs := Sat.n7 (Γ := Φ) hs rfl
 refine WL_nil <| At_then ?_
 refine WC_ret ?_
 refine At_r1 rfl (ResIs.cA (vs := [(.int .i64 r11.1.op), (.int .i64 r11.1.n), (.int .i64 r11.1.at_), (sl v13)]) rfl Tryd.underlying51 rfl ti51 ((hs.box (i := 4) rfl).part 0 rfl) rfl) ?_
 cases hm
 exact ⟨v13, R14, rfl, (hs.re 7 [0, 1, 2, 3] rfl)⟩
end Go.Proofs.YtdhgpnejphlfpaaDoor
namespace Go.Proofs.YtdhgpnejphlfpaaDoor
open Go.Proofs
set_option maxRecDepth 100000 in
set_option maxHeartbeats 4000000 in
theorem expr_read_right_s9_ok {k_expr_read_lower_s11 : ((List (Int × Str × Int × Int)) × Int × (List Str) × Int × Int × Int) → Option (Ex × Int × Int × Int × Int)} {k_expr_read_lower_s13 : ((List (Int × Str × Int × Int)) × Int × (List Str) × Int × Int × Int) → Option (Ex × Int × Int × Int × Int)} (ih_expr_read_lower_s11 : ∀ {Φ : Ctx} {w : World} {l : (List (Int × Str × Int × Int))} {at_ : Int} {names : (List Str)} {deep : Int} {bad : Int} {place : Int} {b : Nat} {v2 : SLV} {R : List Nat} {v4 : SLV} {R5 : List Nat} {r : (Ex × Int × Int × Int × Int)}, Sat (box b 115 [(sl v2), (.int .i64 at_), (sl v4), (.int .i64 deep), (.int .i64 bad), (.int .i64 place)] :: osl (RP (RI .i64) (RP RS (RP (RI .i64) (RI .i64)))) 28 (sl v2) l R :: osl RS 9 (sl v4) names R5 :: gl 0 (keysL.map S) :: gl 1 (textsL.map S) :: Φ) w → k_expr_read_lower_s11 (l, at_, names, deep, bad, place) = some r → CallsR Tryd.prog 77 [(.pointer (some ⟨b, 0, none⟩)), (.func (.func 78) #[] #[])] w (fun v w' => ∃ v3 : SLV, ∃ R4 : List Nat, v = (.agg #[(.int .i64 r.1.op), (.int .i64 r.1.n), (.int .i64 r.1.at_), (sl v3)]) ∧ Sat (osl RExpr 51 (sl v3) r.1.l R4 :: box b 115 [(sl v2), (.int .i64 r.2.1), (sl v4), (.int .i64 r.2.2.1), (.int .i64 r.2.2.2.1), (.int .i64 r.2.2.2.2)] :: osl (RP (RI .i64) (RP RS (RP (RI .i64) (RI .i64)))) 28 (sl v2) l R :: osl RS 9 (sl v4) names R5 :: Φ) w')) (ih_expr_read_lower_s13 : ∀ {Φ : Ctx} {w : World} {l : (List (Int × Str × Int × Int))} {at_ : Int} {names : (List Str)} {deep : Int} {bad : Int} {place : Int} {b : Nat} {v2 : SLV} {R : List Nat} {v4 : SLV} {R5 : List Nat} {r : (Ex × Int × Int × Int × Int)}, Sat (box b 115 [(sl v2), (.int .i64 at_), (sl v4), (.int .i64 deep), (.int .i64 bad), (.int .i64 place)] :: osl (RP (RI .i64) (RP RS (RP (RI .i64) (RI .i64)))) 28 (sl v2) l R :: osl RS 9 (sl v4) names R5 :: gl 0 (keysL.map S) :: gl 1 (textsL.map S) :: Φ) w → k_expr_read_lower_s13 (l, at_, names, deep, bad, place) = some r → CallsR Tryd.prog 77 [(.pointer (some ⟨b, 0, none⟩)), (.func (.func 90) #[] #[])] w (fun v w' => ∃ v3 : SLV, ∃ R4 : List Nat, v = (.agg #[(.int .i64 r.1.op), (.int .i64 r.1.n), (.int .i64 r.1.at_), (sl v3)]) ∧ Sat (osl RExpr 51 (sl v3) r.1.l R4 :: box b 115 [(sl v2), (.int .i64 r.2.1), (sl v4), (.int .i64 r.2.2.1), (.int .i64 r.2.2.2.1), (.int .i64 r.2.2.2.2)] :: osl (RP (RI .i64) (RP RS (RP (RI .i64) (RI .i64)))) 28 (sl v2) l R :: osl RS 9 (sl v4) names R5 :: Φ) w')) {Φ : Ctx} {w : World} {ops : (List Int)} {l : (List (Int × Str × Int × Int))} {at_ : Int} {names : (List Str)} {deep : Int} {bad : Int} {place : Int} {b : Nat} {v2 : SLV} {v4 : SLV} {R : List Nat} {v6 : SLV} {R7 : List Nat} {r : (Ex × Int × Int × Int × Int)} (hs : Sat (box b 115 [(sl v4), (.int .i64 at_), (sl v6), (.int .i64 deep), (.int .i64 bad), (.int .i64 place)] :: imm (RSl (RI .i64)) [sl v2] ops :: osl (RP (RI .i64) (RP RS (RP (RI .i64) (RI .i64)))) 28 (sl v4) l R :: osl RS 9 (sl v6) names R7 :: gl 0 (keysL.map S) :: gl 1 (textsL.map S) :: Φ) w) (hm : expr_read_right_s9 k_expr_read_lower_s11 k_expr_read_lower_s13 ops l at_ names deep bad place = some r) :
  CallsR Tryd.prog 81 [(.pointer (some ⟨b, 0, none⟩)), (.func (.func 91) #[] #[]), (.func (.func 90) #[] #[]), (sl v2)] w (fun v w' => ∃ v3 : SLV, ∃ R4 : List Nat, v = (.agg #[(.int .i64 r.1.op), (.int .i64 r.1.n), (.int .i64 r.1.at_), (sl v3)]) ∧ Sat (osl RExpr 51 (sl v3) r.1.l R4 :: box b 115 [(sl v4), (.int .i64 r.2.1), (sl v6), (.int .i64 r.2.2.1), (.int .i64 r.2.2.2.1), (.int .i64 r.2.2.2.2)] :: osl (RP (RI .i64) (RP RS (RP (RI .i64) (RI .i64)))) 28 (sl v4) l R :: osl RS 9 (sl v6) names R7 :: Φ) w') := by
 refine CallsX_enter Tryd.func81 rfl Tryd.ntmps81 rfl ?_
 unfold expr_read_right_s9 at hm
 refine WC_seq <| WC_region ?_
 refine WS_alloc (zs := [(.int .i64 0), (.int .i64 0), (.int .i64 0), (sl (none, 0, 0))]) hs ti51 rfl rfl ?_
 intro b9 w10 hs
 replace hs := Sat.n7 (Γ := Φ) hs rfl
 refine WL_nil <| At_then <| WC_seq <| WC_region ?_
 refine Wo (Run_move (O rfl)) rfl <| Wo (Run_move (O rfl)) rfl <| ?_
 obtain ⟨r11, hr12, hm⟩ := bind_some' hm
 refine WL_call (f := 91) (first := []) (cap := []) (xs := [(.tmp 15)]) (vs := [(.pointer (some ⟨b, 0, none⟩))]) (args := [(.pointer (some ⟨b, 0, none⟩))]) Tryd.call91 (O rfl) (.cons (O rfl) .nil) rfl rfl (expr_read_deepPre_s3_ok (@ih_expr_read_lower_s11) (hs.re 7 [1, 3, 4, 5, 6, 0, 2, 5, 6] rfl) hr12) ?_
 rintro _ w15 ⟨v13, R14, rfl, hs⟩
 replace hs := Sat.n8 (Γ := Φ) hs rfl
 refine WS_alloc (zs := [(.int .i64 0), (.int .i64 0), (.int .i64 0), (sl (none, 0, 0))]) hs ti51 rfl rfl ?_
 intro b16 w17 hs
 replace hs := Sat.n9 (Γ := Φ) hs rfl
 refine WS_store (us := [(.int .i64 r11.1.op), (.int .i64 r11.1.n), (.int .i64 r11.1.at_), (sl v13)]) (vs' := [(.int .i64 r11.1.op), (.int .i64 r11.1.n), (.int .i64 r11.1.at_), (sl v13)]) hs 0 rfl ti51 (O rfl) (O rfl) rfl rfl rfl rfl rfl ?_
 intro w18 hs
 replace hs := Sat.n9 (Γ := Φ) hs rfl
 refine WL_nil <| At_then <| WC_seq <| WC_region ?_
 refine Wo (Run_move (O rfl)) rfl <| Wo (Run_move (O rfl)) rfl <| ?_
 obtain ⟨r19, hr20, hm⟩ := bind_some' hm
 refine WL_call (f := 83) (first := []) (cap := []) (xs := [(.tmp 18), (.tmp 19)]) (vs := [(.pointer (some ⟨b, 0, none⟩)), (sl v2)]) (args := [(.pointer (some ⟨b, 0, none⟩)), (sl v2)]) Tryd.call83 Opd.f (.cons (O rfl) (.cons (O rfl) .nil)) rfl rfl (expr_read_is_s3_ok (hs.re 9 [2, 6, 3, 4, 7, 8, 0, 1, 5, 6, 7, 8] rfl) hr20) ?_
 rintro _ w21 ⟨rfl, hs⟩
 replace hs := Sat.n9 (Γ := Φ) hs rfl
 refine Wo (Run_move (O rfl)) rfl <| Wo (Run_extract (vs := [(.int .i64 r19.1), (.bool r19.2)]) (O rfl) rfl) rfl <| Wo (Run_extract (vs := [(.int .i64 r19.1), (.bool r19.2)]) (O rfl) rfl) rfl <| Wo (Run_assign (O rfl)) rfl <| Wo (Run_assign (O rfl)) rfl <| ?_
 refine WL_nil <| At_then <| WC_seq <| WC_seq <| WC_region ?_
 refine Wo (Run_move (O rfl)) rfl <| Wo (Run_nilP (O rfl)) rfl <| Wo (Run_fieldAddr fo115_4 (O rfl)) rfl <| Wo (Run_load1 (v := (.int .i64 r11.2.2.2.1)) Tryd.underlying34 rfl (O rfl) (fun _ => (hs.box (i := 0) rfl).part 4 rfl)) rfl <| ?_
 obtain ⟨b22, e23, hm⟩ := letv_some hm
 refine Wo (Run.eqB (Run_neI (O rfl) Opd.c) e23) rfl <| Wo (Run_move (O rfl)) rfl <| Wg rfl guard_neg (Run_move (O rfl)) rfl <| ?_
 obtain ⟨b24, e25, hm⟩ := letv_some hm
 refine Wg rfl guard_neg (Run.eqB (Run_notB (Opd.g rfl id)) e25) rfl <| ?_
 obtain ⟨b26, e27, hm⟩ := letv_some hm
 refine Wo (Run.eqB (Run_or (O rfl) (Opd.g rfl id)) e27) rfl <| ?_
 refine WL_nil <| At_then ?_
 refine WC_cond (O rfl) (fun hc28 => ?_) (fun hc28 => ?_)
 ·
  replace hm := bif_t hc28 hm
  refine WC_seq <| WC_region ?_
  refine Wo (Run_loadA (vs := [(.int .i64 r11.1.op), (.int .i64 r11.1.n), (.int .i64 r11.1.at_), (sl v13)]) Tryd.underlying51 rfl ti51 (O rfl) (fun _ => (hs.box (i := 3) rfl).part 0 rfl) rfl) rfl <| ?_
  refine WS_store (us := [(.int .i64 r11.1.op), (.int .i64 r11.1.n), (.int .i64 r11.1.at_), (sl v13)]) (vs' := [(.int .i64 r11.1.op), (.int .i64 r11.1.n), (.int .i64 r11.1.at_), (sl v13)]) hs 5 rfl ti51 (O rfl) (O rfl) rfl rfl rfl rfl rfl ?_
  intro w29 hs
  replace hs := Sat.n9 (Γ := Φ) hs rfl
  refine WL_nil <| At_then ?_
  refine WC_ret ?_
  refine At_then_ret <| ?_
  refine At_r1 rfl (ResIs.cA (vs := [(.int .i64 r11.1.op), (.int .i64 r11.1.n), (.int .i64 r11.1.at_), (sl v13)]) rfl Tryd.underlying51 rfl ti51 ((hs.box (i := 5) rfl).part 0 rfl) rfl) ?_
  cases hm
  exact ⟨v13, R14, rfl, (hs.re 9 [4, 0, 1, 2] rfl)⟩
 ·
  replace hm := bif_f hc28 hm
  refine WC_skip ?_
  refine At_then <| WC_seq <| WC_region ?_
  refine Wo (Run_move (O rfl)) rfl <| ?_
  obtain ⟨r30, hr31, hm⟩ := bind_some' hm
  refine WL_call (f := 84) (first := []) (cap := []) (xs := [(.tmp 33)]) (vs := [(.pointer (some ⟨b, 0, none⟩))]) (args := [(.pointer (some ⟨b, 0, none⟩))]) Tryd.call84 Opd.f (.cons (O rfl) .nil) rfl rfl (expr_read_next_s3_ok (hs.re 9 [0, 1, 2, 3, 4, 5, 6, 7, 8] rfl) hr31) ?_
  rintro _ w32 ⟨rfl, hs⟩
  replace hs := Sat.n9 (Γ := Φ) hs rfl
  refine WS_alloc (zs := [(.int .i64 0), (S []), (.int .i64 0), (.int .i64 0)]) hs ti28 rfl rfl ?_
  intro b33 w34 hs
  replace hs := Sat.n10 (Γ := Φ) hs rfl
  refine WS_store (us := [(.int .i64 r30.1), (S r30.2.1), (.int .i64 r30.2.2.1), (.int .i64 r30.2.2.2)]) (vs' := [(.int .i64 r30.1), (S r30.2.1), (.int .i64 r30.2.2.1), (.int .i64 r30.2.2.2)]) hs 0 rfl ti28 (O rfl) (O rfl) rfl rfl rfl rfl rfl ?_
  intro w35 hs
  replace hs := Sat.n10 (Γ := Φ) hs rfl
  refine WL_nil <| At_then <| WC_seq <| WC_region ?_
  refine Wo (Run_move (O rfl)) rfl <| Wo (Run_nilP (O rfl)) rfl <| Wo (Run_fieldAddr fo115_1 (O rfl)) rfl <| Wo (Run_load1 (v := (.int .i64 r11.2.1)) Tryd.underlying3 rfl (O rfl) (fun _ => (hs.box (i := 1) rfl).part 1 rfl)) rfl <| Wo (Run_add (O rfl) Opd.c) rfl <| Wo (Run_nilP (O rfl)) rfl <| Wo (Run_fieldAddr fo115_1 (O rfl)) rfl <| ?_
  refine WS_store (us := [(.int .i64 (IntKind.i64.wrap (r11.2.1 + 1)))]) (vs' := [(sl v4), (.int .i64 (IntKind.i64.wrap (r11.2.1 + 1))), (sl v6), (.int .i64 r11.2.2.1), (.int .i64 r11.2.2.2.1), (.int .i64 r11.2.2.2.2)]) hs 1 rfl ti3 (O rfl) (O rfl) rfl rfl rfl rfl rfl ?_
  intro w36 hs
  replace hs := Sat.n10 (Γ := Φ) hs rfl
  refine WL_nil <| At_then <| WC_seq <| WC_region ?_
  refine Wo (Run_move (O rfl)) rfl <| Wo (Run_move (O rfl)) rfl <| ?_
  obtain ⟨r37, hr38, hm⟩ := bind_some' hm
  refine WL_call (f := 77) (first := []) (cap := []) (xs := [(.tmp 42), (.tmp 43)]) (vs := [(.pointer (some ⟨b, 0, none⟩)), (.func (.func 90) #[] #[])]) (args := [(.pointer (some ⟨b, 0, none⟩)), (.func (.func 90) #[] #[])]) Tryd.call77 Opd.f (.cons (O rfl) (.cons (O rfl) .nil)) rfl rfl (ih_expr_read_lower_s13 (hs.re 10 [1, 2, 3, 8, 9, 0, 4, 5, 6, 7, 8, 9] rfl) hr38) ?_
  rintro _ w41 ⟨v39, R40, rfl, hs⟩
  replace hs := Sat.n11 (Γ := Φ) hs rfl
  refine WS_alloc (zs := [(.int .i64 0), (.int .i64 0), (.int .i64 0), (sl (none, 0, 0))]) hs ti51 rfl rfl ?_
  intro b42 w43 hs
  replace hs := Sat.n12 (Γ := Φ) hs rfl
  refine WS_store (us := [(.int .i64 r37.1.op), (.int .i64 r37.1.n), (.int .i64 r37.1.at_), (sl v39)]) (vs' := [(.int .i64 r37.1.op), (.int .i64 r37.1.n), (.int .i64 r37.1.at_), (sl v39)]) hs 0 rfl ti51 (O rfl) (O rfl) rfl rfl rfl rfl rfl ?_
  intro w44 hs
  replace hs := Sat.n12 (Γ := Φ) hs rfl
  refine WL_nil <| At_then <| WC_seq <| WC_region ?_
  refine Wo (Run_move (O rfl)) rfl <| Wo (Run_fieldAddr fo28_3 (O rfl)) rfl <| Wo (Run_load1 (v := (.int .i64 r30.2.2.2)) Tryd.underlying3 rfl (O rfl) (fun _ => (hs.box (i := 5) rfl).part 3 rfl)) rfl <| Wo (Run_loadA (vs := [(.int .i64 r11.1.op), (.int .i64 r11.1.n), (.int .i64 r11.1.at_), (sl v13)]) Tryd.underlying51 rfl ti51 (O rfl) (fun _ => (hs.box (i := 6) rfl).part 0 rfl) rfl) rfl <| Wo (Run_loadA (vs := [(.int .i64 r37.1.op), (.int .i64 r37.1.n), (.int .i64 r37.1.at_), (sl v39)]) Tryd.underlying51 rfl ti51 (O rfl) (fun _ => (hs.box (i := 0) rfl).part 0 rfl) rfl) rfl <| ?_
  replace hs := hs.freeze (i := 7) rfl
  replace hs := hs.freeze (i := 1) rfl
  refine WS_lit (A := RExpr) (xs := [r11.1, r37.1]) (zs := [(.int .i64 0), (.int .i64 0), (.int .i64 0), (sl (none, 0, 0))]) (cells := [(.int .i64 r11.1.op), (.int .i64 r11.1.n), (.int .i64 r11.1.at_), (sl v13), (.int .i64 r37.1.op), (.int .i64 r37.1.n), (.int .i64 r37.1.at_), (sl v39)]) (parts := [(0, (.tmp 48)), (1, (.tmp 49))]) hs Tryd.underlying49 ti51 rfl rfl rfl (.cons (O rfl) (.cons (O rfl) .nil)) (by kernel_rfl) rfl (ARd.cons (A := RExpr) (c := [(.int .i64 r11.1.op), (.int .i64 r11.1.n), (.int .i64 r11.1.at_), (sl v13)]) (x := r11.1) (RExpr_closeE (⟨_, rfl, (hs.sl (i := 7) rfl)⟩)) (ARd.cons (A := RExpr) (c := [(.int .i64 r37.1.op), (.int .i64 r37.1.n), (.int .i64 r37.1.at_), (sl v39)]) (x := r37.1) (RExpr_closeE (⟨_, rfl, (hs.sl (i := 1) rfl)⟩)) ARd.nil)) rfl ?_
  intro b45 w46 hs
  replace hs := Sat.n13 (Γ := Φ) hs rfl
  refine Wo (Run_build (parts := [(0, (.tmp 45)), (2, (.tmp 47)), (3, (.tmp 50))]) (v := (.agg #[(.int .i64 r19.1), (.int .i64 0), (.int .i64 r30.2.2.2), (sl (some ⟨b45, 0, none⟩, 2, 2))])) (.cons (O rfl) (.cons (O rfl) (.cons (O rfl) .nil))) (fun _ => by kernel_rfl)) rfl <| ?_
  refine WS_store (us := [(.int .i64 r19.1), (.int .i64 0), (.int .i64 r30.2.2.2), (sl (some ⟨b45, 0, none⟩, 2, 2))]) (vs' := [(.int .i64 r19.1), (.int .i64 0), (.int .i64 r30.2.2.2), (sl (some ⟨b45, 0, none⟩, 2, 2))]) hs 9 rfl ti51 (O rfl) (O rfl) rfl rfl rfl rfl rfl ?_
  intro w47 hs
  replace hs := Sat.n13 (Γ := Φ) hs rfl
  refine WL_nil <| At_then ?_
  refine WC_ret ?_
  refine At_r1 rfl (ResIs.cA (vs := [(.int .i64 r19.1), (.int .i64 0), (.int .i64 r30.2.2.2), (sl (some ⟨b45, 0, none⟩, 2, 2))]) rfl Tryd.underlying51 rfl ti51 ((hs.box (i := 9) rfl).part 0 rfl) rfl) ?_
  cases hm
  exact ⟨(some ⟨b45, 0, none⟩, 2, 2), [b45], rfl, (hs.re 13 [0, 3, 4, 5] rfl)⟩
set_option maxRecDepth 100000 in
set_option maxHeartbeats 4000000 in
theorem expr_read_until_s3_ok {k_expr_read_lower_s11 : ((List (Int × Str × Int × Int)) × Int × (List Str) × Int × Int × Int) → Option (Ex × Int × Int × Int × Int)} {k_expr_read_lower_s13 : ((List (Int × Str × Int × Int)) × Int × (List Str) × Int × Int × Int) → Option (Ex × Int × Int × Int × Int)} (ih_expr_read_lower_s11 : ∀ {Φ : Ctx} {w : World} {l : (List (Int × Str × Int × Int))} {at_ : Int} {names : (List Str)} {deep : Int} {bad : Int} {place : Int} {b : Nat} {v2 : SLV} {R : List Nat} {v4 : SLV} {R5 : List Nat} {r : (Ex × Int × Int × Int × Int)}, Sat (box b 115 [(sl v2), (.int .i64 at_), (sl v4), (.int .i64 deep), (.int .i64 bad), (.int .i64 place)] :: osl (RP (RI .i64) (RP RS (RP (RI .i64) (RI .i64)))) 28 (sl v2) l R :: osl RS 9 (sl v4) names R5 :: gl 0 (keysL.map S) :: gl 1 (textsL.map S) :: Φ) w → k_expr_read_lower_s11 (l, at_, names, deep, bad, place) = some r → CallsR Tryd.prog 77 [(.pointer (some ⟨b, 0, none⟩)), (.func (.func 78) #[] #[])] w (fun v w' => ∃ v3 : SLV, ∃ R4 : List Nat, v = (.agg #[(.int .i64 r.1.op), (.int .i64 r.1.n), (.int .i64 r.1.at_), (sl v3)]) ∧ Sat (osl RExpr 51 (sl v3) r.1.l R4 :: box b 115 [(sl v2), (.int .i64 r.2.1), (sl v4), (.int .i64 r.2.2.1), (.int .i64 r.2.2.2.1), (.int .i64 r.2.2.2.2)] :: osl (RP (RI .i64) (RP RS (RP (RI .i64) (RI .i64)))) 28 (sl v2) l R :: osl RS 9 (sl v4) names R5 :: Φ) w')) (ih_expr_read_lower_s13 : ∀ {Φ : Ctx} {w : World} {l : (List (Int × Str × Int × Int))} {at_ : Int} {names : (List Str)} {deep : Int} {bad : Int} {place : Int} {b : Nat} {v2 : SLV} {R : List Nat} {v4 : SLV} {R5 : List Nat} {r : (Ex × Int × Int × Int × Int)}, Sat (box b 115 [(sl v2), (.int .i64 at_), (sl v4), (.int .i64 deep), (.int .i64 bad), (.int .i64 place)] :: osl (RP (RI .i64) (RP RS (RP (RI .i64) (RI .i64)))) 28 (sl v2) l R :: osl RS 9 (sl v4) names R5 :: gl 0 (keysL.map S) :: gl 1 (textsL.map S) :: Φ) w → k_expr_read_lower_s13 (l, at_, names, deep, bad, place) = some r → CallsR Tryd.prog 77 [(.pointer (some ⟨b, 0, none⟩)), (.func (.func 90) #[] #[])] w (fun v w' => ∃ v3 : SLV, ∃ R4 : List Nat, v = (.agg #[(.int .i64 r.1.op), (.int .i64 r.1.n), (.int .i64 r.1.at_), (sl v3)]) ∧ Sat (osl RExpr 51 (sl v3) r.1.l R4 :: box b 115 [(sl v2), (.int .i64 r.2.1), (sl v4), (.int .i64 r.2.2.1), (.int .i64 r.2.2.2.1), (.int .i64 r.2.2.2.2)] :: osl (RP (RI .i64) (RP RS (RP (RI .i64) (RI .i64)))) 28 (sl v2) l R :: osl RS 9 (sl v4) names R5 :: Φ) w')) {Φ : Ctx} {w : World} {l : (List (Int × Str × Int × Int))} {at_ : Int} {names : (List Str)} {deep : Int} {bad : Int} {place : Int} {b : Nat} {v2 : SLV} {R : List Nat} {v4 : SLV} {R5 : List Nat} {r : (Ex × Int × Int × Int × Int)} (hs : Sat (box b 115 [(sl v2), (.int .i64 at_), (sl v4), (.int .i64 deep), (.int .i64 bad), (.int .i64 place)] :: osl (RP (RI .i64) (RP RS (RP (RI .i64) (RI .i64)))) 28 (sl v2) l R :: osl RS 9 (sl v4) names R5 :: gl 0 (keysL.map S) :: gl 1 (textsL.map S) :: Φ) w) (hm : expr_read_until_s3 k_expr_read_lower_s11 k_expr_read_lower_s13 l at_ names deep bad place = some r) :
  CallsR Tryd.prog 90 [(.pointer (some ⟨b, 0, none⟩))] w (fun v w' => ∃ v3 : SLV, ∃ R4 : List Nat, v = (.agg #[(.int .i64 r.1.op), (.int .i64 r.1.n), (.int .i64 r.1.at_), (sl v3)]) ∧ Sat (osl RExpr 51 (sl v3) r.1.l R4 :: box b 115 [(sl v2), (.int .i64 r.2.1), (sl v4), (.int .i64 r.2.2.1), (.int .i64 r.2.2.2.1), (.int .i64 r.2.2.2.2)] :: osl (RP (RI .i64) (RP RS (RP (RI .i64) (RI .i64)))) 28 (sl v2) l R :: osl RS 9 (sl v4) names R5 :: Φ) w') := by
 refine CallsX_enter Tryd.func90 rfl Tryd.ntmps90 rfl ?_
 unfold expr_read_until_s3 at hm
 refine WC_seq <| WC_region ?_
 refine WS_alloc (zs := [(.int .i64 0), (.int .i64 0), (.int .i64 0), (sl (none, 0, 0))]) hs ti51 rfl rfl ?_
 intro b9 w10 hs
 replace hs := Sat.n6 (Γ := Φ) hs rfl
 refine WL_nil <| At_then <| WC_seq <| WC_region ?_
 refine Wo (Run_move (O rfl)) rfl <| ?_
 refine WS_lit (A := (RI .i64)) (xs := [23, 24]) (zs := [(.int .i64 0)]) (cells := [(.int .i64 23), (.int .i64 24)]) (parts := [(0, (.const (.int .i64 23))), (1, (.const (.int .i64 24)))]) hs Tryd.underlying30 ti3 rfl rfl rfl (.cons Opd.c (.cons Opd.c .nil)) (by kernel_rfl) rfl (ARd.cons (A := (RI .i64)) (c := [(.int .i64 23)]) (x := 23) rfl (ARd.cons (A := (RI .i64)) (c := [(.int .i64 24)]) (x := 24) rfl ARd.nil)) rfl ?_
 intro b11 w12 hs
 replace hs := Sat.n7 (Γ := Φ) hs rfl
 replace hs := hs.freeze (i := 0) rfl
 obtain ⟨r13, hr14, hm⟩ := bind_some' hm
 refine WL_call (f := 81) (first := []) (cap := []) (xs := [(.tmp 3), (.func 91), (.func 90), (.tmp 4)]) (vs := [(.pointer (some ⟨b, 0, none⟩)), (.func (.func 91) #[] #[]), (.func (.func 90) #[] #[]), (sl (some ⟨b11, 0, none⟩, 2, 2))]) (args := [(.pointer (some ⟨b, 0, none⟩)), (.func (.func 91) #[] #[]), (.func (.func 90) #[] #[]), (sl (some ⟨b11, 0, none⟩, 2, 2))]) Tryd.call81 Opd.f (.cons (O rfl) (.cons Opd.f (.cons Opd.f (.cons (O rfl) .nil)))) rfl rfl (expr_read_right_s9_ok (@ih_expr_read_lower_s11) (@ih_expr_read_lower_s13) (hs.re 7 [2, 0, 3, 4, 5, 6, 0, 1, 5, 6] rfl) hr14) ?_
 rintro _ w17 ⟨v15, R16, rfl, hs⟩
 replace hs := Sat.n8 (Γ := Φ) hs rfl
 refine WS_store (us := [(.int .i64 r13.1.op), (.int .i64 r13.1.n), (.int .i64 r13.1.at_), (sl v15)]) (vs' := [(.int .i64 r13.1.op), (.int .i64 r13.1.n), (.int .i64 r13.1.at_), (sl v15)]) hs 5 rfl ti51 (O rfl) (O rfl) rfl rfl rfl rfl rfl ?_
 intro w18 hs
 replace hs := Sat.n8 (Γ := Φ) hs rfl
 refine WL_nil <| At_then ?_
 refine WC_ret ?_
 refine At_r1 rfl (ResIs.cA (vs := [(.int .i64 r13.1.op), (.int .i64 r13.1.n), (.int .i64 r13.1.at_), (sl v15)]) rfl Tryd.underlying51 rfl ti51 ((hs.box (i := 5) rfl).part 0 rfl) rfl) ?_
 cases hm
 exact ⟨v15, R16, rfl, (hs.re 8 [0, 1, 2, 3] rfl)⟩
set_option maxRecDepth 100000 in
set_option maxHeartbeats 4000000 in
theorem expr_read_lower_s13_F_ok {k_expr_read_lower_s11 : ((List (Int × Str × Int × Int)) × Int × (List Str) × Int × Int × Int) → Option (Ex × Int × Int × Int × Int)} {k_expr_read_lower_s13 : ((List (Int × Str × Int × Int)) × Int × (List Str) × Int × Int × Int) → Option (Ex × Int × Int × Int × Int)} (ih_expr_read_lower_s11 : ∀ {Φ : Ctx} {w : World} {l : (List (Int × Str × Int × Int))} {at_ : Int} {names : (List Str)} {deep : Int} {bad : Int} {place : Int} {b : Nat} {v2 : SLV} {R : List Nat} {v4 : SLV} {R5 : List Nat} {r : (Ex × Int × Int × Int × Int)}, Sat (box b 115 [(sl v2), (.int .i64 at_), (sl v4), (.int .i64 deep), (.int .i64 bad), (.int .i64 place)] :: osl (RP (RI .i64) (RP RS (RP (RI .i64) (RI .i64)))) 28 (sl v2) l R :: osl RS 9 (sl v4) names R5 :: gl 0 (keysL.map S) :: gl 1 (textsL.map S) :: Φ) w → k_expr_read_lower_s11 (l, at_, names, deep, bad, place) = some r → CallsR Tryd.prog 77 [(.pointer (some ⟨b, 0, none⟩)), (.func (.func 78) #[] #[])] w (fun v w' => ∃ v3 : SLV, ∃ R4 : List Nat, v = (.agg #[(.int .i64 r.1.op), (.int .i64 r.1.n), (.int .i64 r.1.at_), (sl v3)]) ∧ Sat (osl RExpr 51 (sl v3) r.1.l R4 :: box b 115 [(sl v2), (.int .i64 r.2.1), (sl v4), (.int .i64 r.2.2.1), (.int .i64 r.2.2.2.1), (.int .i64 r.2.2.2.2)] :: osl (RP (RI .i64) (RP RS (RP (RI .i64) (RI .i64)))) 28 (sl v2) l R :: osl RS 9 (sl v4) names R5 :: Φ) w')) (ih_expr_read_lower_s13 : ∀ {Φ : Ctx} {w : World} {l : (List (Int × Str × Int × Int))} {at_ : Int} {names : (List Str)} {deep : Int} {bad : Int} {place : Int} {b : Nat} {v2 : SLV} {R : List Nat} {v4 : SLV} {R5 : List Nat} {r : (Ex × Int × Int × Int × Int)}, Sat (box b 115 [(sl v2), (.int .i64 at_), (sl v4), (.int .i64 deep), (.int .i64 bad), (.int .i64 place)] :: osl (RP (RI .i64) (RP RS (RP (RI .i64) (RI .i64)))) 28 (sl v2) l R :: osl RS 9 (sl v4) names R5 :: gl 0 (keysL.map S) :: gl 1 (textsL.map S) :: Φ) w → k_expr_read_lower_s13 (l, at_, names, deep, bad, place) = some r → CallsR Tryd.prog 77 [(.pointer (some ⟨b, 0, none⟩)), (.func (.func 90) #[] #[])] w (fun v w' => ∃ v3 : SLV, ∃ R4 : List Nat, v = (.agg #[(.int .i64 r.1.op), (.int .i64 r.1.n), (.int .i64 r.1.at_), (sl v3)]) ∧ Sat (osl RExpr 51 (sl v3) r.1.l R4 :: box b 115 [(sl v2), (.int .i64 r.2.1), (sl v4), (.int .i64 r.2.2.1), (.int .i64 r.2.2.2.1), (.int .i64 r.2.2.2.2)] :: osl (RP (RI .i64) (RP RS (RP (RI .i64) (RI .i64)))) 28 (sl v2) l R :: osl RS 9 (sl v4) names R5 :: Φ) w')) {Φ : Ctx} {w : World} {l : (List (Int × Str × Int × Int))} {at_ : Int} {names : (List Str)} {deep : Int} {bad : Int} {place : Int} {b : Nat} {v2 : SLV} {R : List Nat} {v4 : SLV} {R5 : List Nat} {r : (Ex × Int × Int × Int × Int)} (hs : Sat (box b 115 [(sl v2), (.int .i64 at_), (sl v4), (.int .i64 deep), (.int .i64 bad), (.int .i64 place)] :: osl (RP (RI .i64) (RP RS (RP (RI .i64) (RI .i64)))) 28 (sl v2) l R :: osl RS 9 (sl v4) names R5 :: gl 0 (keysL.map S) :: gl 1 (textsL.map S) :: Φ) w) (hm : expr_read_lower_s13_F k_expr_read_lower_s11 k_expr_read_lower_s13 l at_ names deep bad place = some r) :
  CallsR Tryd.prog 77 [(.pointer (some ⟨b, 0, none⟩)), (.func (.func 90) #[] #[])] w (fun v w' => ∃ v3 : SLV, ∃ R4 : List Nat, v = (.agg #[(.int .i64 r.1.op), (.int .i64 r.1.n), (.int .i64 r.1.at_), (sl v3)]) ∧ Sat (osl RExpr 51 (sl v3) r.1.l R4 :: box b 115 [(sl v2), (.int .i64 r.2.1), (sl v4), (.int .i64 r.2.2.1), (.int .i64 r.2.2.2.1), (.int .i64 r.2.2.2.2)] :: osl (RP (RI .i64) (RP RS (RP (RI .i64) (RI .i64)))) 28 (sl v2) l R :: osl RS 9 (sl v4) names R5 :: Φ) w') := by
 refine CallsX_enter Tryd.func77 rfl Tryd.ntmps77 rfl ?_
 unfold expr_read_lower_s13_F at hm
 refine WC_seq <| WC_region ?_
 refine WS_alloc (zs := [(.int .i64 0), (.int .i64 0), (.int .i64 0), (sl (none, 0, 0))]) hs ti51 rfl rfl ?_
 intro b9 w10 hs
 replace hs := Sat.n6 (Γ := Φ) hs rfl
 refine WL_nil <| At_then <| WC_seq <| WC_seq <| WC_region ?_
 refine Wo (Run_move (O rfl)) rfl <| Wo (Run_nilP (O rfl)) rfl <| Wo (Run_fieldAddr fo115_3 (O rfl)) rfl <| Wo (Run_load1 (v := (.int .i64 deep)) Tryd.underlying3 rfl (O rfl) (fun _ => (hs.box (i := 1) rfl).part 3 rfl)) rfl <| Wo (Run_geI (O rfl) Opd.c) rfl <| ?_
 refine WL_nil <| At_then ?_
 refine WC_cond (O rfl) (fun hc11 => ?_) (fun hc11 => ?_)
 ·
  replace hm := bif_t hc11 hm
  refine WC_seq <| WC_region ?_
  refine Wo (Run_move (O rfl)) rfl <| ?_
  obtain ⟨r12, hr13, hm⟩ := bind_some' hm
  refine WL_call (f := 80) (first := []) (cap := []) (xs := [(.tmp 11), (.const (.int .i64 9))]) (vs := [(.pointer (some ⟨b, 0, none⟩)), (.int .i64 9)]) (args := [(.pointer (some ⟨b, 0, none⟩)), (.int .i64 9)]) Tryd.call80 Opd.f (.cons (O rfl) (.cons Opd.c .nil)) rfl rfl (expr_read_fail_s3_ok (hs.re 6 [1, 2, 3, 0, 4, 5] rfl) hr13) ?_
  rintro _ w16 ⟨v14, R15, rfl, hs⟩
  replace hs := Sat.n7 (Γ := Φ) hs rfl
  refine WS_store (us := [(.int .i64 r12.1.op), (.int .i64 r12.1.n), (.int .i64 r12.1.at_), (sl v14)]) (vs' := [(.int .i64 r12.1.op), (.int .i64 r12.1.n), (.int .i64 r12.1.at_), (sl v14)]) hs 4 rfl ti51 (O rfl) (O rfl) rfl rfl rfl rfl rfl ?_
  intro w17 hs
  replace hs := Sat.n7 (Γ := Φ) hs rfl
  refine WL_nil <| At_then ?_
  refine WC_ret ?_
  refine At_then_ret <| ?_
  refine At_r1 rfl (ResIs.cA (vs := [(.int .i64 r12.1.op), (.int .i64 r12.1.n), (.int .i64 r12.1.at_), (sl v14)]) rfl Tryd.underlying51 rfl ti51 ((hs.box (i := 4) rfl).part 0 rfl) rfl) ?_
  cases hm
  exact ⟨v14, R15, rfl, (hs.re 7 [0, 1, 2, 3] rfl)⟩
 ·
  replace hm := bif_f hc11 hm
  refine WC_skip ?_
  refine At_then <| WC_seq <| WC_region ?_
  refine Wo (Run_move (O rfl)) rfl <| Wo (Run_nilP (O rfl)) rfl <| Wo (Run_fieldAddr fo115_3 (O rfl)) rfl <| Wo (Run_load1 (v := (.int .i64 deep)) Tryd.underlying3 rfl (O rfl) (fun _ => (hs.box (i := 1) rfl).part 3 rfl)) rfl <| Wo (Run_add (O rfl) Opd.c) rfl <| Wo (Run_nilP (O rfl)) rfl <| Wo (Run_fieldAddr fo115_3 (O rfl)) rfl <| ?_
  refine WS_store (us := [(.int .i64 (IntKind.i64.wrap (deep + 1)))]) (vs' := [(sl v2), (.int .i64 at_), (sl v4), (.int .i64 (IntKind.i64.wrap (deep + 1))), (.int .i64 bad), (.int .i64 place)]) hs 1 rfl ti3 (O rfl) (O rfl) rfl rfl rfl rfl rfl ?_
  intro w18 hs
  replace hs := Sat.n6 (Γ := Φ) hs rfl
  refine WL_nil <| At_then <| WC_seq <| WC_region ?_
  refine Wo (Run_move (O rfl)) rfl <| Wo (Run_move (O rfl)) rfl <| ?_
  obtain ⟨r19, hr20, hm⟩ := bind_some' hm
  refine WL_call (f := 90) (first := []) (cap := []) (xs := [(.tmp 21)]) (vs := [(.pointer (some ⟨b, 0, none⟩))]) (args := [(.pointer (some ⟨b, 0, none⟩))]) Tryd.call90 (O rfl) (.cons (O rfl) .nil) rfl rfl (expr_read_until_s3_ok (@ih_expr_read_lower_s11) (@ih_expr_read_lower_s13) (hs.re 6 [1, 2, 3, 4, 5, 0, 4, 5] rfl) hr20) ?_
  rintro _ w23 ⟨v21, R22, rfl, hs⟩
  replace hs := Sat.n7 (Γ := Φ) hs rfl
  refine WS_alloc (zs := [(.int .i64 0), (.int .i64 0), (.int .i64 0), (sl (none, 0, 0))]) hs ti51 rfl rfl ?_
  intro b24 w25 hs
  replace hs := Sat.n8 (Γ := Φ) hs rfl
  refine WS_store (us := [(.int .i64 r19.1.op), (.int .i64 r19.1.n), (.int .i64 r19.1.at_), (sl v21)]) (vs' := [(.int .i64 r19.1.op), (.int .i64 r19.1.n), (.int .i64 r19.1.at_), (sl v21)]) hs 0 rfl ti51 (O rfl) (O rfl) rfl rfl rfl rfl rfl ?_
  intro w26 hs
  replace hs := Sat.n8 (Γ := Φ) hs rfl
  refine WL_nil <| At_then <| WC_seq <| WC_region ?_
  refine Wo (Run_move (O rfl)) rfl <| Wo (Run_nilP (O rfl)) rfl <| Wo (Run_fieldAddr fo115_3 (O rfl)) rfl <| Wo (Run_load1 (v := (.int .i64 r19.2.2.1)) Tryd.underlying3 rfl (O rfl) (fun _ => (hs.box (i := 2) rfl).part 3 rfl)) rfl <| Wo (Run_sub (O rfl) Opd.c) rfl <| Wo (Run_nilP (O rfl)) rfl <| Wo (Run_fieldAddr fo115_3 (O rfl)) rfl <| ?_
  refine WS_store (us := [(.int .i64 (IntKind.i64.wrap (r19.2.2.1 - 1)))]) (vs' := [(sl v2), (.int .i64 r19.2.1), (sl v4), (.int .i64 (IntKind.i64.wrap (r19.2.2.1 - 1))), (.int .i64 r19.2.2.2.1), (.int .i64 r19.2.2.2.2)]) hs 2 rfl ti3 (O rfl) (O rfl) rfl rfl rfl rfl rfl ?_
  intro w27 hs
  replace hs := Sat.n8 (Γ := Φ) hs rfl
  refine WL_nil <| At_then <| WC_seq <| WC_region ?_
  refine Wo (Run_loadA (vs := [(.int .i64 r19.1.op), (.int .i64 r19.1.n), (.int .i64 r19.1.at_), (sl v21)]) Tryd.underlying51 rfl ti51 (O rfl) (fun _ => (hs.box (i := 0) rfl).part 0 rfl) rfl) rfl <| ?_
  refine WS_store (us := [(.int .i64 r19.1.op), (.int .i64 r19.1.n), (.int .i64 r19.1.at_), (sl v21)]) (vs' := [(.int .i64 r19.1.op), (.int .i64 r19.1.n), (.int .i64 r19.1.at_), (sl v21)]) hs 5 rfl ti51 (O rfl) (O rfl) rfl rfl rfl rfl rfl ?_
  intro w28 hs
  replace hs := Sat.n8 (Γ := Φ) hs rfl
  refine WL_nil <| At_then ?_
  refine WC_ret ?_
  refine At_r1 rfl (ResIs.cA (vs := [(.int .i64 r19.1.op), (.int .i64 r19.1.n), (.int .i64 r19.1.at_), (sl v21)]) rfl Tryd.underlying51 rfl ti51 ((hs.box (i := 5) rfl).part 0 rfl) rfl) ?_
  cases hm
  exact ⟨v21, R22, rfl, (hs.re 8 [1, 2, 3, 4] rfl)⟩
set_option maxRecDepth 100000 in
set_option maxHeartbeats 4000000 in
theorem expr_read_lower_s13_ok {k_expr_read_lower_s11 : ((List (Int × Str × Int × Int)) × Int × (List Str) × Int × Int × Int) → Option (Ex × Int × Int × Int × Int)} (ih_expr_read_lower_s11 : ∀ {Φ : Ctx} {w : World} {l : (List (Int × Str × Int × Int))} {at_ : Int} {names : (List Str)} {deep : Int} {bad : Int} {place : Int} {b : Nat} {v2 : SLV} {R : List Nat} {v4 : SLV} {R5 : List Nat} {r : (Ex × Int × Int × Int × Int)}, Sat (box b 115 [(sl v2), (.int .i64 at_), (sl v4), (.int .i64 deep), (.int .i64 bad), (.int .i64 place)] :: osl (RP (RI .i64) (RP RS (RP (RI .i64) (RI .i64)))) 28 (sl v2) l R :: osl RS 9 (sl v4) names R5 :: gl 0 (keysL.map S) :: gl 1 (textsL.map S) :: Φ) w → k_expr_read_lower_s11 (l, at_, names, deep, bad, place) = some r → CallsR Tryd.prog 77 [(.pointer (some ⟨b, 0, none⟩)), (.func (.func 78) #[] #[])] w (fun v w' => ∃ v3 : SLV, ∃ R4 : List Nat, v = (.agg #[(.int .i64 r.1.op), (.int .i64 r.1.n), (.int .i64 r.1.at_), (sl v3)]) ∧ Sat (osl RExpr 51 (sl v3) r.1.l R4 :: box b 115 [(sl v2), (.int .i64 r.2.1), (sl v4), (.int .i64 r.2.2.1), (.int .i64 r.2.2.2.1), (.int .i64 r.2.2.2.2)] :: osl (RP (RI .i64) (RP RS (RP (RI .i64) (RI .i64)))) 28 (sl v2) l R :: osl RS 9 (sl v4) names R5 :: Φ) w')) {Φ : Ctx} {w : World} {l : (List (Int × Str × Int × Int))} {at_ : Int} {names : (List Str)} {deep : Int} {bad : Int} {place : Int} {b : Nat} {v2 : SLV} {R : List Nat} {v4 : SLV} {R5 : List Nat} {r : (Ex × Int × Int × Int × Int)} (hs : Sat (box b 115 [(sl v2), (.int .i64 at_), (sl v4), (.int .i64 deep), (.int .i64 bad), (.int .i64 place)] :: osl (RP (RI .i64) (RP RS (RP (RI .i64) (RI .i64)))) 28 (sl v2) l R :: osl RS 9 (sl v4) names R5 :: gl 0 (keysL.map S) :: gl 1 (textsL.map S) :: Φ) w) (hm : expr_read_lower_s13 k_expr_read_lower_s11 l at_ names deep bad place = some r) :
  CallsR Tryd.prog 77 [(.pointer (some ⟨b, 0, none⟩)), (.func (.func 90) #[] #[])] w (fun v w' => ∃ v3 : SLV, ∃ R4 : List Nat, v = (.agg #[(.int .i64 r.1.op), (.int .i64 r.1.n), (.int .i64 r.1.at_), (sl v3)]) ∧ Sat (osl RExpr 51 (sl v3) r.1.l R4 :: box b 115 [(sl v2), (.int .i64 r.2.1), (sl v4), (.int .i64 r.2.2.1), (.int .i64 r.2.2.2.1), (.int .i64 r.2.2.2.2)] :: osl (RP (RI .i64) (RP RS (RP (RI .i64) (RI .i64)))) 28 (sl v2) l R :: osl RS 9 (sl v4) names R5 :: Φ) w') := by
 have key : ∀ (N : Nat) {Φ : Ctx} {w : World} {l : (List (Int × Str × Int × Int))} {at_ : Int} {names : (List Str)} {deep : Int} {bad : Int} {place : Int} {b : Nat} {v2 : SLV} {R : List Nat} {v4 : SLV} {R5 : List Nat} {r : (Ex × Int × Int × Int × Int)}, Sat (box b 115 [(sl v2), (.int .i64 at_), (sl v4), (.int .i64 deep), (.int .i64 bad), (.int .i64 place)] :: osl (RP (RI .i64) (RP RS (RP (RI .i64) (RI .i64)))) 28 (sl v2) l R :: osl RS 9 (sl v4) names R5 :: gl 0 (keysL.map S) :: gl 1 (textsL.map S) :: Φ) w → fixN (fun k (s : ((List (Int × Str × Int × Int)) × Int × (List Str) × Int × Int × Int)) => expr_read_lower_s13_F k_expr_read_lower_s11 k s.1 s.2.1 s.2.2.1 s.2.2.2.1 s.2.2.2.2.1 s.2.2.2.2.2) N (l, at_, names, deep, bad, place) = some r → CallsR Tryd.prog 77 [(.pointer (some ⟨b, 0, none⟩)), (.func (.func 90) #[] #[])] w (fun v w' => ∃ v3 : SLV, ∃ R4 : List Nat, v = (.agg #[(.int .i64 r.1.op), (.int .i64 r.1.n), (.int .i64 r.1.at_), (sl v3)]) ∧ Sat (osl RExpr 51 (sl v3) r.1.l R4 :: box b 115 [(sl v2), (.int .i64 r.2.1), (sl v4), (.int .i64 r.2.2.1), (.int .i64 r.2.2.2.1), (.int .i64 r.2.2.2.2)] :: osl (RP (RI .i64) (RP RS (RP (RI .i64) (RI .i64)))) 28 (sl v2) l R :: osl RS 9 (sl v4) names R5 :: Φ) w') := by
  intro N
  induction N with
  | zero => intros; rename_i h; cases h
  | succ N ih => intros; rename_i hs hm; rw [fixN_succ] at hm; exact expr_read_lower_s13_F_ok (@ih_expr_read_lower_s11) (@ih) hs hm
 unfold expr_read_lower_s13 at hm
 exact key FUEL hs hm
set_option maxRecDepth 100000 in
set_option maxHeartbeats 4000000 in
theorem expr_read_deepUntil_s3_ok {k_expr_read_lower_s11 : ((List (Int × Str × Int × Int)) × Int × (List Str) × Int × Int × Int) → Option (Ex × Int × Int × Int × Int)} (ih_expr_read_lower_s11 : ∀ {Φ : Ctx} {w : World} {l : (List (Int × Str × Int × Int))} {at_ : Int} {names : (List Str)} {deep : Int} {bad : Int} {place : Int} {b : Nat} {v2 : SLV} {R : List Nat} {v4 : SLV} {R5 : List Nat} {r : (Ex × Int × Int × Int × Int)}, Sat (box b 115 [(sl v2), (.int .i64 at_), (sl v4), (.int .i64 deep), (.int .i64 bad), (.int .i64 place)] :: osl (RP (RI .i64) (RP RS (RP (RI .i64) (RI .i64)))) 28 (sl v2) l R :: osl RS 9 (sl v4) names R5 :: gl 0 (keysL.map S) :: gl 1 (textsL.map S) :: Φ) w → k_expr_read_lower_s11 (l, at_, names, deep, bad, place) = some r → CallsR Tryd.prog 77 [(.pointer (some ⟨b, 0, none⟩)), (.func (.func 78) #[] #[])] w (fun v w' => ∃ v3 : SLV, ∃ R4 : List Nat, v = (.agg #[(.int .i64 r.1.op), (.int .i64 r.1.n), (.int .i64 r.1.at_), (sl v3)]) ∧ Sat (osl RExpr 51 (sl v3) r.1.l R4 :: box b 115 [(sl v2), (.int .i64 r.2.1), (sl v4), (.int .i64 r.2.2.1), (.int .i64 r.2.2.2.1), (.int .i64 r.2.2.2.2)] :: osl (RP (RI .i64) (RP RS (RP (RI .i64) (RI .i64)))) 28 (sl v2) l R :: osl RS 9 (sl v4) names R5 :: Φ) w')) {Φ : Ctx} {w : World} {l : (List (Int × Str × Int × Int))} {at_ : Int} {names : (List Str)} {deep : Int} {bad : Int} {place : Int} {b : Nat} {v2 : SLV} {R : List Nat} {v4 : SLV} {R5 : List Nat} {r : (Ex × Int × Int × Int × Int)} (hs : Sat (box b 115 [(sl v2), (.int .i64 at_), (sl v4), (.int .i64 deep), (.int .i64 bad), (.int .i64 place)] :: osl (RP (RI .i64) (RP RS (RP (RI .i64) (RI .i64)))) 28 (sl v2) l R :: osl RS 9 (sl v4) names R5 :: gl 0 (keysL.map S) :: gl 1 (textsL.map S) :: Φ) w) (hm : expr_read_deepUntil_s3 k_expr_read_lower_s11 l at_ names deep bad place = some r) :
  CallsR Tryd.prog 89 [(.pointer (some ⟨b, 0, none⟩))] w (fun v w' => ∃ v3 : SLV, ∃ R4 : List Nat, v = (.agg #[(.int .i64 r.1.op), (.int .i64 r.1.n), (.int .i64 r.1.at_), (sl v3)]) ∧ Sat (osl RExpr 51 (sl v3) r.1.l R4 :: box b 115 [(sl v2), (.int .i64 r.2.1), (sl v4), (.int .i64 r.2.2.1), (.int .i64 r.2.2.2.1), (.int .i64 r.2.2.2.2)] :: osl (RP (RI .i64) (RP RS (RP (RI .i64) (RI .i64)))) 28 (sl v2) l R :: osl RS 9 (sl v4) names R5 :: Φ) w') := by
 refine CallsX_enter Tryd.func89 rfl Tryd.ntmps89 rfl ?_
 unfold expr_read_deepUntil_s3 at hm
 refine WC_seq <| WC_region ?_
 refine WS_alloc (zs := [(.int .i64 0), (.int .i64 0), (.int .i64 0), (sl (none, 0, 0))]) hs ti51 rfl rfl ?_
 intro b9 w10 hs
 replace hs := Sat.n6 (Γ := Φ) hs rfl
 refine WL_nil <| At_then <| WC_seq <| WC_region ?_
 refine Wo (Run_move (O rfl)) rfl <| ?_
 obtain ⟨r11, hr12, hm⟩ := bind_some' hm
 refine WL_call (f := 77) (first := []) (cap := []) (xs := [(.tmp 3), (.func 90)]) (vs := [(.pointer (some ⟨b, 0, none⟩)), (.func (.func 90) #[] #[])]) (args := [(.pointer (some ⟨b, 0, none⟩)), (.func (.func 90) #[] #[])]) Tryd.call77 Opd.f (.cons (O rfl) (.cons Opd.f .nil)) rfl rfl (expr_read_lower_s13_ok (@ih_expr_read_lower_s11) (hs.re 6 [1, 2, 3, 4, 5, 0, 4, 5] rfl) hr12) ?_
 rintro _ w15 ⟨v13, R14, rfl, hs⟩
 replace hs := Sat.n7 (Γ := Φ) hs rfl
 refine WS_store (us := [(.int .i64 r11.1.op), (.int .i64 r11.1.n), (.int .i64 r11.1.at_), (sl v13)]) (vs' := [(.int .i64 r11.1.op), (.int .i64 r11.1.n), (.int .i64 r11.1.at_), (sl v13)]) hs 4 rfl ti51 (O rfl) (O rfl) rfl rfl rfl rfl rfl ?_
 intro w16 hs
 replace hs := Sat.n7 (Γ := Φ) hs rfl
 refine WL_nil <| At_then ?_
 refine WC_ret ?_
 refine At_r1 rfl (ResIs.cA (vs := [(.int .i64 r11.1.op), (.int .i64 r11.1.n), (.int .i64 r11.1.at_), (sl v13)]) rfl Tryd.underlying51 rfl ti51 ((hs.box (i := 4) rfl).part 0 rfl) rfl) ?_
 cases hm
 exact ⟨v13, R14, rfl, (hs.re 7 [0, 1, 2, 3] rfl)⟩
end Go.Proofs.YtdhgpnejphlfpaaDoor
namespace Go.Proofs.YtdhgpnejphlfpaaDoor
open Go.Proofs
set_option maxRecDepth 100000 in
set_option maxHeartbeats 4000000 in
theorem expr_read_left_s10_ok {k_expr_read_lower_s11 : ((List (Int × Str × Int × Int)) × Int × (List Str) × Int × Int × Int) → Option (Ex × Int × Int × Int × Int)} (ih_expr_read_lower_s11 : ∀ {Φ : Ctx} {w : World} {l : (List (Int × Str × Int × Int))} {at_ : Int} {names : (List Str)} {deep : Int} {bad : Int} {place : Int} {b : Nat} {v2 : SLV} {R : List Nat} {v4 : SLV} {R5 : List Nat} {r : (Ex × Int × Int × Int × Int)}, Sat (box b 115 [(sl v2), (.int .i64 at_), (sl v4), (.int .i64 deep), (.int .i64 bad), (.int .i64 place)] :: osl (RP (RI .i64) (RP RS (RP (RI .i64) (RI .i64)))) 28 (sl v2) l R :: osl RS 9 (sl v4) names R5 :: gl 0 (keysL.map S) :: gl 1 (textsL.map S) :: Φ) w → k_expr_read_lower_s11 (l, at_, names, deep, bad, place) = some r → CallsR Tryd.prog 77 [(.pointer (some ⟨b, 0, none⟩)), (.func (.func 78) #[] #[])] w (fun v w' => ∃ v3 : SLV, ∃ R4 : List Nat, v = (.agg #[(.int .i64 r.1.op), (.int .i64 r.1.n), (.int .i64 r.1.at_), (sl v3)]) ∧ Sat (osl RExpr 51 (sl v3) r.1.l R4 :: box b 115 [(sl v2), (.int .i64 r.2.1), (sl v4), (.int .i64 r.2.2.1), (.int .i64 r.2.2.2.1), (.int .i64 r.2.2.2.2)] :: osl (RP (RI .i64) (RP RS (RP (RI .i64) (RI .i64)))) 28 (sl v2) l R :: osl RS 9 (sl v4) names R5 :: Φ) w')) {Φ : Ctx} {w : World} {ops : (List Int)} {l : (List (Int × Str × Int × Int))} {at_ : Int} {names : (List Str)} {deep : Int} {bad : Int} {place : Int} {b : Nat} {v2 : SLV} {v4 : SLV} {R : List Nat} {v6 : SLV} {R7 : List Nat} {r : (Ex × Int × Int × Int × Int)} (hs : Sat (box b 115 [(sl v4), (.int .i64 at_), (sl v6), (.int .i64 deep), (.int .i64 bad), (.int .i64 place)] :: imm (RSl (RI .i64)) [sl v2] ops :: osl (RP (RI .i64) (RP RS (RP (RI .i64) (RI .i64)))) 28 (sl v4) l R :: osl RS 9 (sl v6) names R7 :: gl 0 (keysL.map S) :: gl 1 (textsL.map S) :: Φ) w) (hm : expr_read_left_s10 k_expr_read_lower_s11 ops l at_ names deep bad place = some r) :
  CallsR Tryd.prog 87 [(.pointer (some ⟨b, 0, none⟩)), (.func (.func 89) #[] #[]), (sl v2)] w (fun v w' => ∃ v3 : SLV, ∃ R4 : List Nat, v = (.agg #[(.int .i64 r.1.op), (.int .i64 r.1.n), (.int .i64 r.1.at_), (sl v3)]) ∧ Sat (osl RExpr 51 (sl v3) r.1.l R4 :: box b 115 [(sl v4), (.int .i64 r.2.1), (sl v6), (.int .i64 r.2.2.1), (.int .i64 r.2.2.2.1), (.int .i64 r.2.2.2.2)] :: osl (RP (RI .i64) (RP RS (RP (RI .i64) (RI .i64)))) 28 (sl v4) l R :: osl RS 9 (sl v6) names R7 :: Φ) w') := by
 refine CallsX_enter Tryd.func87 rfl Tryd.ntmps87 rfl ?_
 unfold expr_read_left_s10 at hm
 refine WC_seq <| WC_region ?_
 refine WS_alloc (zs := [(.int .i64 0), (.int .i64 0), (.int .i64 0), (sl (none, 0, 0))]) hs ti51 rfl rfl ?_
 intro b9 w10 hs
 replace hs := Sat.n7 (Γ := Φ) hs rfl
 refine WL_nil <| At_then <| WC_seq <| WC_region ?_
 refine Wo (Run_move (O rfl)) rfl <| Wo (Run_move (O rfl)) rfl <| ?_
 obtain ⟨r11, hr12, hm⟩ := bind_some' hm
 refine WL_call (f := 89) (first := []) (cap := []) (xs := [(.tmp 13)]) (vs := [(.pointer (some ⟨b, 0, none⟩))]) (args := [(.pointer (some ⟨b, 0, none⟩))]) Tryd.call89 (O rfl) (.cons (O rfl) .nil) rfl rfl (expr_read_deepUntil_s3_ok (@ih_expr_read_lower_s11) (hs.re 7 [1, 3, 4, 5, 6, 0, 2, 5, 6] rfl) hr12) ?_
 rintro _ w15 ⟨v13, R14, rfl, hs⟩
 replace hs := Sat.n8 (Γ := Φ) hs rfl
 refine WS_alloc (zs := [(.int .i64 0), (.int .i64 0), (.int .i64 0), (sl (none, 0, 0))]) hs ti51 rfl rfl ?_
 intro b16 w17 hs
 replace hs := Sat.n9 (Γ := Φ) hs rfl
 refine WS_store (us := [(.int .i64 r11.1.op), (.int .i64 r11.1.n), (.int .i64 r11.1.at_), (sl v13)]) (vs' := [(.int .i64 r11.1.op), (.int .i64 r11.1.n), (.int .i64 r11.1.at_), (sl v13)]) hs 0 rfl ti51 (O rfl) (O rfl) rfl rfl rfl rfl rfl ?_
 intro w18 hs
 replace hs := Sat.n9 (Γ := Φ) hs rfl
 refine WL_nil <| At_then <| WC_seq ?_
 refine WC_block ?_
 refine WC_loop (σ := Int × Int × Int × Int × Int × Int × Int × (List Ex)) (γ := SLV × List Nat) (F := (expr_read_left_s10_L1 k_expr_read_lower_s11 ops l names)) (N := FUEL) (s0 := (r11.2.1, r11.2.2.1, r11.2.2.2.1, r11.2.2.2.2, r11.1.op, r11.1.n, r11.1.at_, r11.1.l)) (r := r) (fun ⟨c20, c21, c22, c23, c24, c25, c26, c27⟩ ⟨v28, R29⟩ w19 => Sat (box b 115 [(sl v4), (.int .i64 c20), (sl v6), (.int .i64 c21), (.int .i64 c22), (.int .i64 c23)] :: osl (RP (RI .i64) (RP RS (RP (RI .i64) (RI .i64)))) 28 (sl v4) l R :: osl RS 9 (sl v6) names R7 :: imm (RSl (RI .i64)) [sl v2] ops :: box b9 51 [(.int .i64 0), (.int .i64 0), (.int .i64 0), (sl (none, 0, 0))] :: box b16 51 [(.int .i64 c24), (.int .i64 c25), (.int .i64 c26), (sl v28)] :: osl RExpr 51 (sl v28) c27 R29 :: gl 0 (keysL.map S) :: gl 1 (textsL.map S) :: Φ) w19) (fun ⟨c20, c21, c22, c23, c24, c25, c26, c27⟩ ⟨v28, R29⟩ => [(0, true, (.pointer (some ⟨b, 0, none⟩))), (1, true, (.func (.func 89) #[] #[])), (2, true, (sl v2)), (6, true, (.pointer (some ⟨b9, 0, none⟩))), (7, true, (.pointer (some ⟨b16, 0, none⟩)))]) hm (v13, R14) (hs.re 9 [2, 3, 4, 6, 5, 0, 1, 7, 8] rfl) rfl ?_
 rintro again30 ⟨c20, c21, c22, c23, c24, c25, c26, c27⟩ ⟨v28, R29⟩ w19 hm hs
 unfold expr_read_left_s10_L1 at hm
 dsimp only at hm
 refine WC_seq <| WC_seq <| WC_region ?_
 refine Wo (Run_move (O rfl)) rfl <| Wo (Run_nilP (O rfl)) rfl <| Wo (Run_fieldAddr fo115_4 (O rfl)) rfl <| Wo (Run_load1 (v := (.int .i64 c22)) Tryd.underlying34 rfl (O rfl) (fun _ => (hs.box (i := 0) rfl).part 4 rfl)) rfl <| Wo (Run_eqI (O rfl) Opd.c) rfl <| ?_
 refine WL_nil <| At_then ?_
 refine WC_cond (O rfl) (fun hc31 => ?_) (fun hc31 => ?_)
 ·
  replace hm := bif_t hc31 hm
  refine WC_skip ?_
  refine At_then ?_
  refine WC_block ?_
  refine WC_seq <| WC_region ?_
  refine Wo (Run_move (O rfl)) rfl <| Wo (Run_move (O rfl)) rfl <| ?_
  obtain ⟨r32, hr33, hm⟩ := bind_some' hm
  refine WL_call (f := 83) (first := []) (cap := []) (xs := [(.tmp 21), (.tmp 22)]) (vs := [(.pointer (some ⟨b, 0, none⟩)), (sl v2)]) (args := [(.pointer (some ⟨b, 0, none⟩)), (sl v2)]) Tryd.call83 Opd.f (.cons (O rfl) (.cons (O rfl) .nil)) rfl rfl (expr_read_is_s3_ok (hs.re 9 [0, 3, 1, 2, 7, 8, 3, 4, 5, 6, 7, 8] rfl) hr33) ?_
  rintro _ w34 ⟨rfl, hs⟩
  replace hs := Sat.n9 (Γ := Φ) hs rfl
  refine Wo (Run_move (O rfl)) rfl <| Wo (Run_extract (vs := [(.int .i64 r32.1), (.bool r32.2)]) (O rfl) rfl) rfl <| Wo (Run_extract (vs := [(.int .i64 r32.1), (.bool r32.2)]) (O rfl) rfl) rfl <| Wo (Run_assign (O rfl)) rfl <| Wo (Run_assign (O rfl)) rfl <| ?_
  refine WL_nil <| At_then <| WC_seq <| WC_seq <| WC_region ?_
  refine Wo (Run_move (O rfl)) rfl <| Wo (Run_notB (O rfl)) rfl <| ?_
  refine WL_nil <| At_then ?_
  refine WC_cond (O rfl) (fun hc35 => ?_) (fun hc35 => ?_)
  ·
   replace hm := bif_t hc35 hm
   refine WC_exit ?_
   refine At_then_exit <| At_blk_other rfl <| At_then_exit <| At_blk_here <| ?_
   refine At_then <| WC_seq <| WC_region ?_
   refine Wo (Run_loadA (vs := [(.int .i64 c24), (.int .i64 c25), (.int .i64 c26), (sl v28)]) Tryd.underlying51 rfl ti51 (O rfl) (fun _ => (hs.box (i := 5) rfl).part 0 rfl) rfl) rfl <| ?_
   refine WS_store (us := [(.int .i64 c24), (.int .i64 c25), (.int .i64 c26), (sl v28)]) (vs' := [(.int .i64 c24), (.int .i64 c25), (.int .i64 c26), (sl v28)]) hs 4 rfl ti51 (O rfl) (O rfl) rfl rfl rfl rfl rfl ?_
   intro w36 hs
   replace hs := Sat.n9 (Γ := Φ) hs rfl
   refine WL_nil <| At_then ?_
   refine WC_ret ?_
   refine At_r1 rfl (ResIs.cA (vs := [(.int .i64 c24), (.int .i64 c25), (.int .i64 c26), (sl v28)]) rfl Tryd.underlying51 rfl ti51 ((hs.box (i := 4) rfl).part 0 rfl) rfl) ?_
   cases hm
   exact ⟨v28, R29, rfl, (hs.re 9 [6, 0, 1, 2] rfl)⟩
  ·
   replace hm := bif_f hc35 hm
   refine WC_skip ?_
   refine At_then <| WC_seq <| WC_region ?_
   refine Wo (Run_move (O rfl)) rfl <| ?_
   obtain ⟨r37, hr38, hm⟩ := bind_some' hm
   refine WL_call (f := 84) (first := []) (cap := []) (xs := [(.tmp 28)]) (vs := [(.pointer (some ⟨b, 0, none⟩))]) (args := [(.pointer (some ⟨b, 0, none⟩))]) Tryd.call84 Opd.f (.cons (O rfl) .nil) rfl rfl (expr_read_next_s3_ok (hs.re 9 [0, 1, 2, 3, 4, 5, 6, 7, 8] rfl) hr38) ?_
   rintro _ w39 ⟨rfl, hs⟩
   replace hs := Sat.n9 (Γ := Φ) hs rfl
   refine WS_alloc (zs := [(.int .i64 0), (S []), (.int .i64 0), (.int .i64 0)]) hs ti28 rfl rfl ?_
   intro b40 w41 hs
   replace hs := Sat.n10 (Γ := Φ) hs rfl
   refine WS_store (us := [(.int .i64 r37.1), (S r37.2.1), (.int .i64 r37.2.2.1), (.int .i64 r37.2.2.2)]) (vs' := [(.int .i64 r37.1), (S r37.2.1), (.int .i64 r37.2.2.1), (.int .i64 r37.2.2.2)]) hs 0 rfl ti28 (O rfl) (O rfl) rfl rfl rfl rfl rfl ?_
   intro w42 hs
   replace hs := Sat.n10 (Γ := Φ) hs rfl
   refine WL_nil <| At_then <| WC_seq <| WC_region ?_
   refine Wo (Run_move (O rfl)) rfl <| Wo (Run_nilP (O rfl)) rfl <| Wo (Run_fieldAddr fo115_1 (O rfl)) rfl <| Wo (Run_load1 (v := (.int .i64 c20)) Tryd.underlying3 rfl (O rfl) (fun _ => (hs.box (i := 1) rfl).part 1 rfl)) rfl <| Wo (Run_add (O rfl) Opd.c) rfl <| Wo (Run_nilP (O rfl)) rfl <| Wo (Run_fieldAddr fo115_1 (O rfl)) rfl <| ?_
   refine WS_store (us := [(.int .i64 (IntKind.i64.wrap (c20 + 1)))]) (vs' := [(sl v4), (.int .i64 (IntKind.i64.wrap (c20 + 1))), (sl v6), (.int .i64 c21), (.int .i64 c22), (.int .i64 c23)]) hs 1 rfl ti3 (O rfl) (O rfl) rfl rfl rfl rfl rfl ?_
   intro w43 hs
   replace hs := Sat.n10 (Γ := Φ) hs rfl
   refine WL_nil <| At_then <| WC_seq <| WC_region ?_
   refine Wo (Run_move (O rfl)) rfl <| Wo (Run_move (O rfl)) rfl <| ?_
   obtain ⟨r44, hr45, hm⟩ := bind_some' hm
   refine WL_call (f := 89) (first := []) (cap := []) (xs := [(.tmp 38)]) (vs := [(.pointer (some ⟨b, 0, none⟩))]) (args := [(.pointer (some ⟨b, 0, none⟩))]) Tryd.call89 (O rfl) (.cons (O rfl) .nil) rfl rfl (expr_read_deepUntil_s3_ok (@ih_expr_read_lower_s11) (hs.re 10 [1, 2, 3, 8, 9, 0, 4, 5, 6, 7, 8, 9] rfl) hr45) ?_
   rintro _ w48 ⟨v46, R47, rfl, hs⟩
   replace hs := Sat.n11 (Γ := Φ) hs rfl
   refine WS_alloc (zs := [(.int .i64 0), (.int .i64 0), (.int .i64 0), (sl (none, 0, 0))]) hs ti51 rfl rfl ?_
   intro b49 w50 hs
   replace hs := Sat.n12 (Γ := Φ) hs rfl
   refine WS_store (us := [(.int .i64 r44.1.op), (.int .i64 r44.1.n), (.int .i64 r44.1.at_), (sl v46)]) (vs' := [(.int .i64 r44.1.op), (.int .i64 r44.1.n), (.int .i64 r44.1.at_), (sl v46)]) hs 0 rfl ti51 (O rfl) (O rfl) rfl rfl rfl rfl rfl ?_
   intro w51 hs
   replace hs := Sat.n12 (Γ := Φ) hs rfl
   refine WL_nil <| At_then <| WC_region ?_
   refine Wo (Run_move (O rfl)) rfl <| Wo (Run_fieldAddr fo28_3 (O rfl)) rfl <| Wo (Run_load1 (v := (.int .i64 r37.2.2.2)) Tryd.underlying3 rfl (O rfl) (fun _ => (hs.box (i := 5) rfl).part 3 rfl)) rfl <| Wo (Run_loadA (vs := [(.int .i64 c24), (.int .i64 c25), (.int .i64 c26), (sl v28)]) Tryd.underlying51 rfl ti51 (O rfl) (fun _ => (hs.box (i := 8) rfl).part 0 rfl) rfl) rfl <| Wo (Run_loadA (vs := [(.int .i64 r44.1.op), (.int .i64 r44.1.n), (.int .i64 r44.1.at_), (sl v46)]) Tryd.underlying51 rfl ti51 (O rfl) (fun _ => (hs.box (i := 0) rfl).part 0 rfl) rfl) rfl <| ?_
   replace hs := hs.freeze (i := 9) rfl
   replace hs := hs.freeze (i := 1) rfl
   refine WS_lit (A := RExpr) (xs := [(Ex.mk c24 c25 c26 c27), r44.1]) (zs := [(.int .i64 0), (.int .i64 0), (.int .i64 0), (sl (none, 0, 0))]) (cells := [(.int .i64 c24), (.int .i64 c25), (.int .i64 c26), (sl v28), (.int .i64 r44.1.op), (.int .i64 r44.1.n), (.int .i64 r44.1.at_), (sl v46)]) (parts := [(0, (.tmp 43)), (1, (.tmp 44))]) hs Tryd.underlying49 ti51 rfl rfl rfl (.cons (O rfl) (.cons (O rfl) .nil)) (by kernel_rfl) rfl (ARd.cons (A := RExpr) (c := [(.int .i64 c24), (.int .i64 c25), (.int .i64 c26), (sl v28)]) (x := (Ex.mk c24 c25 c26 c27)) (RExpr_close (⟨_, rfl, (hs.sl (i := 9) rfl)⟩)) (ARd.cons (A := RExpr) (c := [(.int .i64 r44.1.op), (.int .i64 r44.1.n), (.int .i64 r44.1.at_), (sl v46)]) (x := r44.1) (RExpr_closeE (⟨_, rfl, (hs.sl (i := 1) rfl)⟩)) ARd.nil)) rfl ?_
   intro b52 w53 hs
   replace hs := Sat.n13 (Γ := Φ) hs rfl
   refine Wo (Run_build (parts := [(0, (.tmp 40)), (2, (.tmp 42)), (3, (.tmp 45))]) (v := (.agg #[(.int .i64 r32.1), (.int .i64 0), (.int .i64 r37.2.2.2), (sl (some ⟨b52, 0, none⟩, 2, 2))])) (.cons (O rfl) (.cons (O rfl) (.cons (O rfl) .nil))) (fun _ => by kernel_rfl)) rfl <| ?_
   refine WS_store (us := [(.int .i64 r32.1), (.int .i64 0), (.int .i64 r37.2.2.2), (sl (some ⟨b52, 0, none⟩, 2, 2))]) (vs' := [(.int .i64 r32.1), (.int .i64 0), (.int .i64 r37.2.2.2), (sl (some ⟨b52, 0, none⟩, 2, 2))]) hs 9 rfl ti51 (O rfl) (O rfl) rfl rfl rfl rfl rfl ?_
   intro w54 hs
   replace hs := Sat.n13 (Γ := Φ) hs rfl
   refine WL_nil ?_
   refine At_blk_normal ?_
   exact At_again (r44.2.1, r44.2.2.1, r44.2.2.2.1, r44.2.2.2.2, r32.1, 0, r37.2.2.2, ([(Ex.mk c24 c25 c26 c27), r44.1] : List Ex)) ((some ⟨b52, 0, none⟩, 2, 2), [b52]) hm (hs.re 13 [3, 4, 5, 7, 8, 9, 0, 11, 12] rfl) rfl
 ·
  replace hm := bif_f hc31 hm
  refine WC_exit ?_
  refine At_then_exit <| At_then_exit <| At_blk_here <| ?_
  refine At_then <| WC_seq <| WC_region ?_
  refine Wo (Run_loadA (vs := [(.int .i64 c24), (.int .i64 c25), (.int .i64 c26), (sl v28)]) Tryd.underlying51 rfl ti51 (O rfl) (fun _ => (hs.box (i := 5) rfl).part 0 rfl) rfl) rfl <| ?_
  refine WS_store (us := [(.int .i64 c24), (.int .i64 c25), (.int .i64 c26), (sl v28)]) (vs' := [(.int .i64 c24), (.int .i64 c25), (.int .i64 c26), (sl v28)]) hs 4 rfl ti51 (O rfl) (O rfl) rfl rfl rfl rfl rfl ?_
  intro w55 hs
  replace hs := Sat.n9 (Γ := Φ) hs rfl
  refine WL_nil <| At_then ?_
  refine WC_ret ?_
  refine At_r1 rfl (ResIs.cA (vs := [(.int .i64 c24), (.int .i64 c25), (.int .i64 c26), (sl v28)]) rfl Tryd.underlying51 rfl ti51 ((hs.box (i := 4) rfl).part 0 rfl) rfl) ?_
  cases hm
  exact ⟨v28, R29, rfl, (hs.re 9 [6, 0, 1, 2] rfl)⟩
set_option maxRecDepth 100000 in
set_option maxHeartbeats 4000000 in
theorem expr_read_and_s3_ok {k_expr_read_lower_s11 : ((List (Int × Str × Int × Int)) × Int × (List Str) × Int × Int × Int) → Option (Ex × Int × Int × Int × Int)} (ih_expr_read_lower_s11 : ∀ {Φ : Ctx} {w : World} {l : (List (Int × Str × Int × Int))} {at_ : Int} {names : (List Str)} {deep : Int} {bad : Int} {place : Int} {b : Nat} {v2 : SLV} {R : List Nat} {v4 : SLV} {R5 : List Nat} {r : (Ex × Int × Int × Int × Int)}, Sat (box b 115 [(sl v2), (.int .i64 at_), (sl v4), (.int .i64 deep), (.int .i64 bad), (.int .i64 place)] :: osl (RP (RI .i64) (RP RS (RP (RI .i64) (RI .i64)))) 28 (sl v2) l R :: osl RS 9 (sl v4) names R5 :: gl 0 (keysL.map S) :: gl 1 (textsL.map S) :: Φ) w → k_expr_read_lower_s11 (l, at_, names, deep, bad, place) = some r → CallsR Tryd.prog 77 [(.pointer (some ⟨b, 0, none⟩)), (.func (.func 78) #[] #[])] w (fun v w' => ∃ v3 : SLV, ∃ R4 : List Nat, v = (.agg #[(.int .i64 r.1.op), (.int .i64 r.1.n), (.int .i64 r.1.at_), (sl v3)]) ∧ Sat (osl RExpr 51 (sl v3) r.1.l R4 :: box b 115 [(sl v2), (.int .i64 r.2.1), (sl v4), (.int .i64 r.2.2.1), (.int .i64 r.2.2.2.1), (.int .i64 r.2.2.2.2)] :: osl (RP (RI .i64) (RP RS (RP (RI .i64) (RI .i64)))) 28 (sl v2) l R :: osl RS 9 (sl v4) names R5 :: Φ) w')) {Φ : Ctx} {w : World} {l : (List (Int × Str × Int × Int))} {at_ : Int} {names : (List Str)} {deep : Int} {bad : Int} {place : Int} {b : Nat} {v2 : SLV} {R : List Nat} {v4 : SLV} {R5 : List Nat} {r : (Ex × Int × Int × Int × Int)} (hs : Sat (box b 115 [(sl v2), (.int .i64 at_), (sl v4), (.int .i64 deep), (.int .i64 bad), (.int .i64 place)] :: osl (RP (RI .i64) (RP RS (RP (RI .i64) (RI .i64)))) 28 (sl v2) l R :: osl RS 9 (sl v4) names R5 :: gl 0 (keysL.map S) :: gl 1 (textsL.map S) :: Φ) w) (hm : expr_read_and_s3 k_expr_read_lower_s11 l at_ names deep bad place = some r) :
  CallsR Tryd.prog 88 [(.pointer (some ⟨b, 0, none⟩))] w (fun v w' => ∃ v3 : SLV, ∃ R4 : List Nat, v = (.agg #[(.int .i64 r.1.op), (.int .i64 r.1.n), (.int .i64 r.1.at_), (sl v3)]) ∧ Sat (osl RExpr 51 (sl v3) r.1.l R4 :: box b 115 [(sl v2), (.int .i64 r.2.1), (sl v4), (.int .i64 r.2.2.1), (.int .i64 r.2.2.2.1), (.int .i64 r.2.2.2.2)] :: osl (RP (RI .i64) (RP RS (RP (RI .i64) (RI .i64)))) 28 (sl v2) l R :: osl RS 9 (sl v4) names R5 :: Φ) w') := by
 refine CallsX_enter Tryd.func88 rfl Tryd.ntmps88 rfl ?_
 unfold expr_read_and_s3 at hm
 refine WC_seq <| WC_region ?_
 refine WS_alloc (zs := [(.int .i64 0), (.int .i64 0), (.int .i64 0), (sl (none, 0, 0))]) hs ti51 rfl rfl ?_
 intro b9 w10 hs
 replace hs := Sat.n6 (Γ := Φ) hs rfl
 refine WL_nil <| At_then <| WC_seq <| WC_region ?_
 refine Wo (Run_move (O rfl)) rfl <| ?_
 refine WS_lit (A := (RI .i64)) (xs := [16]) (zs := [(.int .i64 0)]) (cells := [(.int .i64 16)]) (parts := [(0, (.const (.int .i64 16)))]) hs Tryd.underlying30 ti3 rfl rfl rfl (.cons Opd.c .nil) (by kernel_rfl) rfl (ARd.cons (A := (RI .i64)) (c := [(.int .i64 16)]) (x := 16) rfl ARd.nil) rfl ?_
 intro b11 w12 hs
 replace hs := Sat.n7 (Γ := Φ) hs rfl
 replace hs := hs.freeze (i := 0) rfl
 obtain ⟨r13, hr14, hm⟩ := bind_some' hm
 refine WL_call (f := 87) (first := []) (cap := []) (xs := [(.tmp 3), (.func 89), (.tmp 4)]) (vs := [(.pointer (some ⟨b, 0, none⟩)), (.func (.func 89) #[] #[]), (sl (some ⟨b11, 0, none⟩, 1, 1))]) (args := [(.pointer (some ⟨b, 0, none⟩)), (.func (.func 89) #[] #[]), (sl (some ⟨b11, 0, none⟩, 1, 1))]) Tryd.call87 Opd.f (.cons (O rfl) (.cons Opd.f (.cons (O rfl) .nil))) rfl rfl (expr_read_left_s10_ok (@ih_expr_read_lower_s11) (hs.re 7 [2, 0, 3, 4, 5, 6, 0, 1, 5, 6] rfl) hr14) ?_
 rintro _ w17 ⟨v15, R16, rfl, hs⟩
 replace hs := Sat.n8 (Γ := Φ) hs rfl
 refine WS_store (us := [(.int .i64 r13.1.op), (.int .i64 r13.1.n), (.int .i64 r13.1.at_), (sl v15)]) (vs' := [(.int .i64 r13.1.op), (.int .i64 r13.1.n), (.int .i64 r13.1.at_), (sl v15)]) hs 5 rfl ti51 (O rfl) (O rfl) rfl rfl rfl rfl rfl ?_
 intro w18 hs
 replace hs := Sat.n8 (Γ := Φ) hs rfl
 refine WL_nil <| At_then ?_
 refine WC_ret ?_
 refine At_r1 rfl (ResIs.cA (vs := [(.int .i64 r13.1.op), (.int .i64 r13.1.n), (.int .i64 r13.1.at_), (sl v15)]) rfl Tryd.underlying51 rfl ti51 ((hs.box (i := 5) rfl).part 0 rfl) rfl) ?_
 cases hm
 exact ⟨v15, R16, rfl, (hs.re 8 [0, 1, 2, 3] rfl)⟩
set_option maxRecDepth 100000 in
set_option maxHeartbeats 4000000 in
theorem expr_read_left_s9_ok {k_expr_read_lower_s11 : ((List (Int × Str × Int × Int)) × Int × (List Str) × Int × Int × Int) → Option (Ex × Int × Int × Int × Int)} (ih_expr_read_lower_s11 : ∀ {Φ : Ctx} {w : World} {l : (List (Int × Str × Int × Int))} {at_ : Int} {names : (List Str)} {deep : Int} {bad : Int} {place : Int} {b : Nat} {v2 : SLV} {R : List Nat} {v4 : SLV} {R5 : List Nat} {r : (Ex × Int × Int × Int × Int)}, Sat (box b 115 [(sl v2), (.int .i64 at_), (sl v4), (.int .i64 deep), (.int .i64 bad), (.int .i64 place)] :: osl (RP (RI .i64) (RP RS (RP (RI .i64) (RI .i64)))) 28 (sl v2) l R :: osl RS 9 (sl v4) names R5 :: gl 0 (keysL.map S) :: gl 1 (textsL.map S) :: Φ) w → k_expr_read_lower_s11 (l, at_, names, deep, bad, place) = some r → CallsR Tryd.prog 77 [(.pointer (some ⟨b, 0, none⟩)), (.func (.func 78) #[] #[])] w (fun v w' => ∃ v3 : SLV, ∃ R4 : List Nat, v = (.agg #[(.int .i64 r.1.op), (.int .i64 r.1.n), (.int .i64 r.1.at_), (sl v3)]) ∧ Sat (osl RExpr 51 (sl v3) r.1.l R4 :: box b 115 [(sl v2), (.int .i64 r.2.1), (sl v4), (.int .i64 r.2.2.1), (.int .i64 r.2.2.2.1), (.int .i64 r.2.2.2.2)] :: osl (RP (RI .i64) (RP RS (RP (RI .i64) (RI .i64)))) 28 (sl v2) l R :: osl RS 9 (sl v4) names R5 :: Φ) w')) {Φ : Ctx} {w : World} {ops : (List Int)} {l : (List (Int × Str × Int × Int))} {at_ : Int} {names : (List Str)} {deep : Int} {bad : Int} {place : Int} {b : Nat} {v2 : SLV} {v4 : SLV} {R : List Nat} {v6 : SLV} {R7 : List Nat} {r : (Ex × Int × Int × Int × Int)} (hs : Sat (box b 115 [(sl v4), (.int .i64 at_), (sl v6), (.int .i64 deep), (.int .i64 bad), (.int .i64 place)] :: imm (RSl (RI .i64)) [sl v2] ops :: osl (RP (RI .i64) (RP RS (RP (RI .i64) (RI .i64)))) 28 (sl v4) l R :: osl RS 9 (sl v6) names R7 :: gl 0 (keysL.map S) :: gl 1 (textsL.map S) :: Φ) w) (hm : expr_read_left_s9 k_expr_read_lower_s11 ops l at_ names deep bad place = some r) :
  CallsR Tryd.prog 87 [(.pointer (some ⟨b, 0, none⟩)), (.func (.func 88) #[] #[]), (sl v2)] w (fun v w' => ∃ v3 : SLV, ∃ R4 : List Nat, v = (.agg #[(.int .i64 r.1.op), (.int .i64 r.1.n), (.int .i64 r.1.at_), (sl v3)]) ∧ Sat (osl RExpr 51 (sl v3) r.1.l R4 :: box b 115 [(sl v4), (.int .i64 r.2.1), (sl v6), (.int .i64 r.2.2.1), (.int .i64 r.2.2.2.1), (.int .i64 r.2.2.2.2)] :: osl (RP (RI .i64) (RP RS (RP (RI .i64) (RI .i64)))) 28 (sl v4) l R :: osl RS 9 (sl v6) names R7 :: Φ) w') := by
 refine CallsX_enter Tryd.func87 rfl Tryd.ntmps87 rfl ?_
 unfold expr_read_left_s9 at hm
 refine WC_seq <| WC_region ?_
 refine WS_alloc (zs := [(.int .i64 0), (.int .i64 0), (.int .i64 0), (sl (none, 0, 0))]) hs ti51 rfl rfl ?_
 intro b9 w10 hs
 replace hs := Sat.n7 (Γ := Φ) hs rfl
 refine WL_nil <| At_then <| WC_seq <| WC_region ?_
 refine Wo (Run_move (O rfl)) rfl <| Wo (Run_move (O rfl)) rfl <| ?_
 obtain ⟨r11, hr12, hm⟩ := bind_some' hm
 refine WL_call (f := 88) (first := []) (cap := []) (xs := [(.tmp 13)]) (vs := [(.pointer (some ⟨b, 0, none⟩))]) (args := [(.pointer (some ⟨b, 0, none⟩))]) Tryd.call88 (O rfl) (.cons (O rfl) .nil) rfl rfl (expr_read_and_s3_ok (@ih_expr_read_lower_s11) (hs.re 7 [1, 3, 4, 5, 6, 0, 2, 5, 6] rfl) hr12) ?_
 rintro _ w15 ⟨v13, R14, rfl, hs⟩
 replace hs := Sat.n8 (Γ := Φ) hs rfl
 refine WS_alloc (zs := [(.int .i64 0), (.int .i64 0), (.int .i64 0), (sl (none, 0, 0))]) hs ti51 rfl rfl ?_
 intro b16 w17 hs
 replace hs := Sat.n9 (Γ := Φ) hs rfl
 refine WS_store (us := [(.int .i64 r11.1.op), (.int .i64 r11.1.n), (.int .i64 r11.1.at_), (sl v13)]) (vs' := [(.int .i64 r11.1.op), (.int .i64 r11.1.n), (.int .i64 r11.1.at_), (sl v13)]) hs 0 rfl ti51 (O rfl) (O rfl) rfl rfl rfl rfl rfl ?_
 intro w18 hs
 replace hs := Sat.n9 (Γ := Φ) hs rfl
 refine WL_nil <| At_then <| WC_seq ?_
 refine WC_block ?_
 refine WC_loop (σ := Int × Int × Int × Int × Int × Int × Int × (List Ex)) (γ := SLV × List Nat) (F := (expr_read_left_s9_L1 k_expr_read_lower_s11 ops l names)) (N := FUEL) (s0 := (r11.2.1, r11.2.2.1, r11.2.2.2.1, r11.2.2.2.2, r11.1.op, r11.1.n, r11.1.at_, r11.1.l)) (r := r) (fun ⟨c20, c21, c22, c23, c24, c25, c26, c27⟩ ⟨v28, R29⟩ w19 => Sat (box b 115 [(sl v4), (.int .i64 c20), (sl v6), (.int .i64 c21), (.int .i64 c22), (.int .i64 c23)] :: osl (RP (RI .i64) (RP RS (RP (RI .i64) (RI .i64)))) 28 (sl v4) l R :: osl RS 9 (sl v6) names R7 :: imm (RSl (RI .i64)) [sl v2] ops :: box b9 51 [(.int .i64 0), (.int .i64 0), (.int .i64 0), (sl (none, 0, 0))] :: box b16 51 [(.int .i64 c24), (.int .i64 c25), (.int .i64 c26), (sl v28)] :: osl RExpr 51 (sl v28) c27 R29 :: gl 0 (keysL.map S) :: gl 1 (textsL.map S) :: Φ) w19) (fun ⟨c20, c21, c22, c23, c24, c25, c26, c27⟩ ⟨v28, R29⟩ => [(0, true, (.pointer (some ⟨b, 0, none⟩))), (1, true, (.func (.func 88) #[] #[])), (2, true, (sl v2)), (6, true, (.pointer (some ⟨b9, 0, none⟩))), (7, true, (.pointer (some ⟨b16, 0, none⟩)))]) hm (v13, R14) (hs.re 9 [2, 3, 4, 6, 5, 0, 1, 7, 8] rfl) rfl ?_
 rintro again30 ⟨c20, c21, c22, c23, c24, c25, c26, c27⟩ ⟨v28, R29⟩ w19 hm hs
 unfold expr_read_left_s9_L1 at hm
 dsimp only at hm
 refine WC_seq <| WC_seq <| WC_region ?_
 refine Wo (Run_move (O rfl)) rfl <| Wo (Run_nilP (O rfl)) rfl <| Wo (Run_fieldAddr fo115_4 (O rfl)) rfl <| Wo (Run_load1 (v := (.int .i64 c22)) Tryd.underlying34 rfl (O rfl) (fun _ => (hs.box (i := 0) rfl).part 4 rfl)) rfl <| Wo (Run_eqI (O rfl) Opd.c) rfl <| ?_
 refine WL_nil <| At_then ?_
 refine WC_cond (O rfl) (fun hc31 => ?_) (fun hc31 => ?_)
 ·
  replace hm := bif_t hc31 hm
  refine WC_skip ?_
  refine At_then ?_
  refine WC_block ?_
  refine WC_seq <| WC_region ?_
  refine Wo (Run_move (O rfl)) rfl <| Wo (Run_move (O rfl)) rfl <| ?_
  obtain ⟨r32, hr33, hm⟩ := bind_some' hm
  refine WL_call (f := 83) (first := []) (cap := []) (xs := [(.tmp 21), (.tmp 22)]) (vs := [(.pointer (some ⟨b, 0, none⟩)), (sl v2)]) (args := [(.pointer (some ⟨b, 0, none⟩)), (sl v2)]) Tryd.call83 Opd.f (.cons (O rfl) (.cons (O rfl) .nil)) rfl rfl (expr_read_is_s3_ok (hs.re 9 [0, 3, 1, 2, 7, 8, 3, 4, 5, 6, 7, 8] rfl) hr33) ?_
  rintro _ w34 ⟨rfl, hs⟩
  replace hs := Sat.n9 (Γ := Φ) hs rfl
  refine Wo (Run_move (O rfl)) rfl <| Wo (Run_extract (vs := [(.int .i64 r32.1), (.bool r32.2)]) (O rfl) rfl) rfl <| Wo (Run_extract (vs := [(.int .i64 r32.1), (.bool r32.2)]) (O rfl) rfl) rfl <| Wo (Run_assign (O rfl)) rfl <| Wo (Run_assign (O rfl)) rfl <| ?_
  refine WL_nil <| At_then <| WC_seq <| WC_seq <| WC_region ?_
  refine Wo (Run_move (O rfl)) rfl <| Wo (Run_notB (O rfl)) rfl <| ?_
  refine WL_nil <| At_then ?_
  refine WC_cond (O rfl) (fun hc35 => ?_) (fun hc35 => ?_)
  ·
   replace hm := bif_t hc35 hm
   refine WC_exit ?_
   refine At_then_exit <| At_blk_other rfl <| At_then_exit <| At_blk_here <| ?_
   refine At_then <| WC_seq <| WC_region ?_
   refine Wo (Run_loadA (vs := [(.int .i64 c24), (.int .i64 c25), (.int .i64 c26), (sl v28)]) Tryd.underlying51 rfl ti51 (O rfl) (fun _ => (hs.box (i := 5) rfl).part 0 rfl) rfl) rfl <| ?_
   refine WS_store (us := [(.int .i64 c24), (.int .i64 c25), (.int .i64 c26), (sl v28)]) (vs' := [(.int .i64 c24), (.int .i64 c25), (.int .i64 c26), (sl v28)]) hs 4 rfl ti51 (O rfl) (O rfl) rfl rfl rfl rfl rfl ?_
   intro w36 hs
   replace hs := Sat.n9 (Γ := Φ) hs rfl
   refine WL_nil <| At_then ?_
   refine WC_ret ?_
   refine At_r1 rfl (ResIs.cA (vs := [(.int .i64 c24), (.int .i64 c25), (.int .i64 c26), (sl v28)]) rfl Tryd.underlying51 rfl ti51 ((hs.box (i := 4) rfl).part 0 rfl) rfl) ?_
   cases hm
   exact ⟨v28, R29, rfl, (hs.re 9 [6, 0, 1, 2] rfl)⟩
  ·
   replace hm := bif_f hc35 hm
   refine WC_skip ?_
   refine At_then <| WC_seq <| WC_region ?_
   refine Wo (Run_move (O rfl)) rfl <| ?_
   obtain ⟨r37, hr38, hm⟩ := bind_some' hm
   refine WL_call (f := 84) (first := []) (cap := []) (xs := [(.tmp 28)]) (vs := [(.pointer (some ⟨b, 0, none⟩))]) (args := [(.pointer (some ⟨b, 0, none⟩))]) Tryd.call84 Opd.f (.cons (O rfl) .nil) rfl rfl (expr_read_next_s3_ok (hs.re 9 [0, 1, 2, 3, 4, 5, 6, 7, 8] rfl) hr38) ?_
   rintro _ w39 ⟨rfl, hs⟩
   replace hs := Sat.n9 (Γ := Φ) hs rfl
   refine WS_alloc (zs := [(.int .i64 0), (S []), (.int .i64 0), (.int .i64 0)]) hs ti28 rfl rfl ?_
   intro b40 w41 hs
   replace hs := Sat.n10 (Γ := Φ) hs rfl
   refine WS_store (us := [(.int .i64 r37.1), (S r37.2.1), (.int .i64 r37.2.2.1), (.int .i64 r37.2.2.2)]) (vs' := [(.int .i64 r37.1), (S r37.2.1), (.int .i64 r37.2.2.1), (.int .i64 r37.2.2.2)]) hs 0 rfl ti28 (O rfl) (O rfl) rfl rfl rfl rfl rfl ?_
   intro w42 hs
   replace hs := Sat.n10 (Γ := Φ) hs rfl
   refine WL_nil <| At_then <| WC_seq <| WC_region ?_
   refine Wo (Run_move (O rfl)) rfl <| Wo (Run_nilP (O rfl)) rfl <| Wo (Run_fieldAddr fo115_1 (O rfl)) rfl <| Wo (Run_load1 (v := (.int .i64 c20)) Tryd.underlying3 rfl (O rfl) (fun _ => (hs.box (i := 1) rfl).part 1 rfl)) rfl <| Wo (Run_add (O rfl) Opd.c) rfl <| Wo (Run_nilP (O rfl)) rfl <| Wo (Run_fieldAddr fo115_1 (O rfl)) rfl <| ?_
   refine WS_store (us := [(.int .i64 (IntKind.i64.wrap (c20 + 1)))]) (vs' := [(sl v4), (.int .i64 (IntKind.i64.wrap (c20 + 1))), (sl v6), (.int .i64 c21), (.int .i64 c22), (.int .i64 c23)]) hs 1 rfl ti3 (O rfl) (O rfl) rfl rfl rfl rfl rfl ?_
   intro w43 hs
   replace hs := Sat.n10 (Γ := Φ) hs rfl
   refine WL_nil <| At_then <| WC_seq <| WC_region ?_
   refine Wo (Run_move (O rfl)) rfl <| Wo (Run_move (O rfl)) rfl <| ?_
   obtain ⟨r44, hr45, hm⟩ := bind_some' hm
   refine WL_call (f := 88) (first := []) (cap := []) (xs := [(.tmp 38)]) (vs := [(.pointer (some ⟨b, 0, none⟩))]) (args := [(.pointer (some ⟨b, 0, none⟩))]) Tryd.call88 (O rfl) (.cons (O rfl) .nil) rfl rfl (expr_read_and_s3_ok (@ih_expr_read_lower_s11) (hs.re 10 [1, 2, 3, 8, 9, 0, 4, 5, 6, 7, 8, 9] rfl) hr45) ?_
   rintro _ w48 ⟨v46, R47, rfl, hs⟩
   replace hs := Sat.n11 (Γ := Φ) hs rfl
   refine WS_alloc (zs := [(.int .i64 0), (.int .i64 0), (.int .i64 0), (sl (none, 0, 0))]) hs ti51 rfl rfl ?_
   intro b49 w50 hs
   replace hs := Sat.n12 (Γ := Φ) hs rfl
   refine WS_store (us := [(.int .i64 r44.1.op), (.int .i64 r44.1.n), (.int .i64 r44.1.at_), (sl v46)]) (vs' := [(.int .i64 r44.1.op), (.int .i64 r44.1.n), (.int .i64 r44.1.at_), (sl v46)]) hs 0 rfl ti51 (O rfl) (O rfl) rfl rfl rfl rfl rfl ?_
   intro w51 hs
   replace hs := Sat.n12 (Γ := Φ) hs rfl
   refine WL_nil <| At_then <| WC_region ?_
   refine Wo (Run_move (O rfl)) rfl <| Wo (Run_fieldAddr fo28_3 (O rfl)) rfl <| Wo (Run_load1 (v := (.int .i64 r37.2.2.2)) Tryd.underlying3 rfl (O rfl) (fun _ => (hs.box (i := 5) rfl).part 3 rfl)) rfl <| Wo (Run_loadA (vs := [(.int .i64 c24), (.int .i64 c25), (.int .i64 c26), (sl v28)]) Tryd.underlying51 rfl ti51 (O rfl) (fun _ => (hs.box (i := 8) rfl).part 0 rfl) rfl) rfl <| Wo (Run_loadA (vs := [(.int .i64 r44.1.op), (.int .i64 r44.1.n), (.int .i64 r44.1.at_), (sl v46)]) Tryd.underlying51 rfl ti51 (O rfl) (fun _ => (hs.box (i := 0) rfl).part 0 rfl) rfl) rfl <| ?_
   replace hs := hs.freeze (i := 9) rfl
   replace hs := hs.freeze (i := 1) rfl
   refine WS_lit (A := RExpr) (xs := [(Ex.mk c24 c25 c26 c27), r44.1]) (zs := [(.int .i64 0), (.int .i64 0), (.int .i64 0), (sl (none, 0, 0))]) (cells := [(.int .i64 c24), (.int .i64 c25), (.int .i64 c26), (sl v28), (.int .i64 r44.1.op), (.int .i64 r44.1.n), (.int .i64 r44.1.at_), (sl v46)]) (parts := [(0, (.tmp 43)), (1, (.tmp 44))]) hs Tryd.underlying49 ti51 rfl rfl rfl (.cons (O rfl) (.cons (O rfl) .nil)) (by kernel_rfl) rfl (ARd.cons (A := RExpr) (c := [(.int .i64 c24), (.int .i64 c25), (.int .i64 c26), (sl v28)]) (x := (Ex.mk c24 c25 c26 c27)) (RExpr_close (⟨_, rfl, (hs.sl (i := 9) rfl)⟩)) (ARd.cons (A := RExpr) (c := [(.int .i64 r44.1.op), (.int .i64 r44.1.n), (.int .i64 r44.1.at_), (sl v46)]) (x := r44.1) (RExpr_closeE (⟨_, rfl, (hs.sl (i := 1) rfl)⟩)) ARd.nil)) rfl ?_
   intro b52 w53 hs
   replace hs := Sat.n13 (Γ := Φ) hs rfl
   refine Wo (Run_build (parts := [(0, (.tmp 40)), (2, (.tmp 42)), (3, (.tmp 45))]) (v := (.agg #[(.int .i64 r32.1), (.int .i64 0), (.int .i64 r37.2.2.2), (sl (some ⟨b52, 0, none⟩, 2, 2))])) (.cons (O rfl) (.cons (O rfl) (.cons (O rfl) .nil))) (fun _ => by kernel_rfl)) rfl <| ?_
   refine WS_store (us := [(.int .i64 r32.1), (.int .i64 0), (.int .i64 r37.2.2.2), (sl (some ⟨b52, 0, none⟩, 2, 2))]) (vs' := [(.int .i64 r32.1), (.int .i64 0), (.int .i64 r37.2.2.2), (sl (some ⟨b52, 0, none⟩, 2, 2))]) hs 9 rfl ti51 (O rfl) (O rfl) rfl rfl rfl rfl rfl ?_
   intro w54 hs
   replace hs := Sat.n13 (Γ := Φ) hs rfl
   refine WL_nil ?_
   refine At_blk_normal ?_
   exact At_again (r44.2.1, r44.2.2.1, r44.2.2.2.1, r44.2.2.2.2, r32.1, 0, r37.2.2.2, ([(Ex.mk c24 c25 c26 c27), r44.1] : List Ex)) ((some ⟨b52, 0, none⟩, 2, 2), [b52]) hm (hs.re 13 [3, 4, 5, 7, 8, 9, 0, 11, 12] rfl) rfl
 ·
  replace hm := bif_f hc31 hm
  refine WC_exit ?_
  refine At_then_exit <| At_then_exit <| At_blk_here <| ?_
  refine At_then <| WC_seq <| WC_region ?_
  refine Wo (Run_loadA (vs := [(.int .i64 c24), (.int .i64 c25), (.int .i64 c26), (sl v28)]) Tryd.underlying51 rfl ti51 (O rfl) (fun _ => (hs.box (i := 5) rfl).part 0 rfl) rfl) rfl <| ?_
  refine WS_store (us := [(.int .i64 c24), (.int .i64 c25), (.int .i64 c26), (sl v28)]) (vs' := [(.int .i64 c24), (.int .i64 c25), (.int .i64 c26), (sl v28)]) hs 4 rfl ti51 (O rfl) (O rfl) rfl rfl rfl rfl rfl ?_
  intro w55 hs
  replace hs := Sat.n9 (Γ := Φ) hs rfl
  refine WL_nil <| At_then ?_
  refine WC_ret ?_
  refine At_r1 rfl (ResIs.cA (vs := [(.int .i64 c24), (.int .i64 c25), (.int .i64 c26), (sl v28)]) rfl Tryd.underlying51 rfl ti51 ((hs.box (i := 4) rfl).part 0 rfl) rfl) ?_
  cases hm
  exact ⟨v28, R29, rfl, (hs.re 9 [6, 0, 1, 2] rfl)⟩
set_option maxRecDepth 100000 in
set_option maxHeartbeats 4000000 in
theorem expr_read_or_s3_ok {k_expr_read_lower_s11 : ((List (Int × Str × Int × Int)) × Int × (List Str) × Int × Int × Int) → Option (Ex × Int × Int × Int × Int)} (ih_expr_read_lower_s11 : ∀ {Φ : Ctx} {w : World} {l : (List (Int × Str × Int × Int))} {at_ : Int} {names : (List Str)} {deep : Int} {bad : Int} {place : Int} {b : Nat} {v2 : SLV} {R : List Nat} {v4 : SLV} {R5 : List Nat} {r : (Ex × Int × Int × Int × Int)}, Sat (box b 115 [(sl v2), (.int .i64 at_), (sl v4), (.int .i64 deep), (.int .i64 bad), (.int .i64 place)] :: osl (RP (RI .i64) (RP RS (RP (RI .i64) (RI .i64)))) 28 (sl v2) l R :: osl RS 9 (sl v4) names R5 :: gl 0 (keysL.map S) :: gl 1 (textsL.map S) :: Φ) w → k_expr_read_lower_s11 (l, at_, names, deep, bad, place) = some r → CallsR Tryd.prog 77 [(.pointer (some ⟨b, 0, none⟩)), (.func (.func 78) #[] #[])] w (fun v w' => ∃ v3 : SLV, ∃ R4 : List Nat, v = (.agg #[(.int .i64 r.1.op), (.int .i64 r.1.n), (.int .i64 r.1.at_), (sl v3)]) ∧ Sat (osl RExpr 51 (sl v3) r.1.l R4 :: box b 115 [(sl v2), (.int .i64 r.2.1), (sl v4), (.int .i64 r.2.2.1), (.int .i64 r.2.2.2.1), (.int .i64 r.2.2.2.2)] :: osl (RP (RI .i64) (RP RS (RP (RI .i64) (RI .i64)))) 28 (sl v2) l R :: osl RS 9 (sl v4) names R5 :: Φ) w')) {Φ : Ctx} {w : World} {l : (List (Int × Str × Int × Int))} {at_ : Int} {names : (List Str)} {deep : Int} {bad : Int} {place : Int} {b : Nat} {v2 : SLV} {R : List Nat} {v4 : SLV} {R5 : List Nat} {r : (Ex × Int × Int × Int × Int)} (hs : Sat (box b 115 [(sl v2), (.int .i64 at_), (sl v4), (.int .i64 deep), (.int .i64 bad), (.int .i64 place)] :: osl (RP (RI .i64) (RP RS (RP (RI .i64) (RI .i64)))) 28 (sl v2) l R :: osl RS 9 (sl v4) names R5 :: gl 0 (keysL.map S) :: gl 1 (textsL.map S) :: Φ) w) (hm : expr_read_or_s3 k_expr_read_lower_s11 l at_ names deep bad place = some r) :
  CallsR Tryd.prog 86 [(.pointer (some ⟨b, 0, none⟩))] w (fun v w' => ∃ v3 : SLV, ∃ R4 : List Nat, v = (.agg #[(.int .i64 r.1.op), (.int .i64 r.1.n), (.int .i64 r.1.at_), (sl v3)]) ∧ Sat (osl RExpr 51 (sl v3) r.1.l R4 :: box b 115 [(sl v2), (.int .i64 r.2.1), (sl v4), (.int .i64 r.2.2.1), (.int .i64 r.2.2.2.1), (.int .i64 r.2.2.2.2)] :: osl (RP (RI .i64) (RP RS (RP (RI .i64) (RI .i64)))) 28 (sl v2) l R :: osl RS 9 (sl v4) names R5 :: Φ) w') := by
 refine CallsX_enter Tryd.func86 rfl Tryd.ntmps86 rfl ?_
 unfold expr_read_or_s3 at hm
 refine WC_seq <| WC_region ?_
 refine WS_alloc (zs := [(.int .i64 0), (.int .i64 0), (.int .i64 0), (sl (none, 0, 0))]) hs ti51 rfl rfl ?_
 intro b9 w10 hs
 replace hs := Sat.n6 (Γ := Φ) hs rfl
 refine WL_nil <| At_then <| WC_seq <| WC_region ?_
 refine Wo (Run_move (O rfl)) rfl <| ?_
 refine WS_lit (A := (RI .i64)) (xs := [17]) (zs := [(.int .i64 0)]) (cells := [(.int .i64 17)]) (parts := [(0, (.const (.int .i64 17)))]) hs Tryd.underlying30 ti3 rfl rfl rfl (.cons Opd.c .nil) (by kernel_rfl) rfl (ARd.cons (A := (RI .i64)) (c := [(.int .i64 17)]) (x := 17) rfl ARd.nil) rfl ?_
 intro b11 w12 hs
 replace hs := Sat.n7 (Γ := Φ) hs rfl
 replace hs := hs.freeze (i := 0) rfl
 obtain ⟨r13, hr14, hm⟩ := bind_some' hm
 refine WL_call (f := 87) (first := []) (cap := []) (xs := [(.tmp 3), (.func 88), (.tmp 4)]) (vs := [(.pointer (some ⟨b, 0, none⟩)), (.func (.func 88) #[] #[]), (sl (some ⟨b11, 0, none⟩, 1, 1))]) (args := [(.pointer (some ⟨b, 0, none⟩)), (.func (.func 88) #[] #[]), (sl (some ⟨b11, 0, none⟩, 1, 1))]) Tryd.call87 Opd.f (.cons (O rfl) (.cons Opd.f (.cons (O rfl) .nil))) rfl rfl (expr_read_left_s9_ok (@ih_expr_read_lower_s11) (hs.re 7 [2, 0, 3, 4, 5, 6, 0, 1, 5, 6] rfl) hr14) ?_
 rintro _ w17 ⟨v15, R16, rfl, hs⟩
 replace hs := Sat.n8 (Γ := Φ) hs rfl
 refine WS_store (us := [(.int .i64 r13.1.op), (.int .i64 r13.1.n), (.int .i64 r13.1.at_), (sl v15)]) (vs' := [(.int .i64 r13.1.op), (.int .i64 r13.1.n), (.int .i64 r13.1.at_), (sl v15)]) hs 5 rfl ti51 (O rfl) (O rfl) rfl rfl rfl rfl rfl ?_
 intro w18 hs
 replace hs := Sat.n8 (Γ := Φ) hs rfl
 refine WL_nil <| At_then ?_
 refine WC_ret ?_
 refine At_r1 rfl (ResIs.cA (vs := [(.int .i64 r13.1.op), (.int .i64 r13.1.n), (.int .i64 r13.1.at_), (sl v15)]) rfl Tryd.underlying51 rfl ti51 ((hs.box (i := 5) rfl).part 0 rfl) rfl) ?_
 cases hm
 exact ⟨v15, R16, rfl, (hs.re 8 [0, 1, 2, 3] rfl)⟩
end Go.Proofs.YtdhgpnejphlfpaaDoor
namespace Go.Proofs.YtdhgpnejphlfpaaDoor
open Go.Proofs
set_option maxRecDepth 100000 in
set_option maxHeartbeats 4000000 in
theorem expr_read_right_s8_ok {k_expr_read_lower_s11 : ((List (Int × Str × Int × Int)) × Int × (List Str) × Int × Int × Int) → Option (Ex × Int × Int × Int × Int)} {k_expr_read_lower_s12 : ((List (Int × Str × Int × Int)) × Int × (List Str) × Int × Int × Int) → Option (Ex × Int × Int × Int × Int)} (ih_expr_read_lower_s11 : ∀ {Φ : Ctx} {w : World} {l : (List (Int × Str × Int × Int))} {at_ : Int} {names : (List Str)} {deep : Int} {bad : Int} {place : Int} {b : Nat} {v2 : SLV} {R : List Nat} {v4 : SLV} {R5 : List Nat} {r : (Ex × Int × Int × Int × Int)}, Sat (box b 115 [(sl v2), (.int .i64 at_), (sl v4), (.int .i64 deep), (.int .i64 bad), (.int .i64 place)] :: osl (RP (RI .i64) (RP RS (RP (RI .i64) (RI .i64)))) 28 (sl v2) l R :: osl RS 9 (sl v4) names R5 :: gl 0 (keysL.map S) :: gl 1 (textsL.map S) :: Φ) w → k_expr_read_lower_s11 (l, at_, names, deep, bad, place) = some r → CallsR Tryd.prog 77 [(.pointer (some ⟨b, 0, none⟩)), (.func (.func 78) #[] #[])] w (fun v w' => ∃ v3 : SLV, ∃ R4 : List Nat, v = (.agg #[(.int .i64 r.1.op), (.int .i64 r.1.n), (.int .i64 r.1.at_), (sl v3)]) ∧ Sat (osl RExpr 51 (sl v3) r.1.l R4 :: box b 115 [(sl v2), (.int .i64 r.2.1), (sl v4), (.int .i64 r.2.2.1), (.int .i64 r.2.2.2.1), (.int .i64 r.2.2.2.2)] :: osl (RP (RI .i64) (RP RS (RP (RI .i64) (RI .i64)))) 28 (sl v2) l R :: osl RS 9 (sl v4) names R5 :: Φ) w')) (ih_expr_read_lower_s12 : ∀ {Φ : Ctx} {w : World} {l : (List (Int × Str × Int × Int))} {at_ : Int} {names : (List Str)} {deep : Int} {bad : Int} {place : Int} {b : Nat} {v2 : SLV} {R : List Nat} {v4 : SLV} {R5 : List Nat} {r : (Ex × Int × Int × Int × Int)}, Sat (box b 115 [(sl v2), (.int .i64 at_), (sl v4), (.int .i64 deep), (.int .i64 bad), (.int .i64 place)] :: osl (RP (RI .i64) (RP RS (RP (RI .i64) (RI .i64)))) 28 (sl v2) l R :: osl RS 9 (sl v4) names R5 :: gl 0 (keysL.map S) :: gl 1 (textsL.map S) :: Φ) w → k_expr_read_lower_s12 (l, at_, names, deep, bad, place) = some r → CallsR Tryd.prog 77 [(.pointer (some ⟨b, 0, none⟩)), (.func (.func 85) #[] #[])] w (fun v w' => ∃ v3 : SLV, ∃ R4 : List Nat, v = (.agg #[(.int .i64 r.1.op), (.int .i64 r.1.n), (.int .i64 r.1.at_), (sl v3)]) ∧ Sat (osl RExpr 51 (sl v3) r.1.l R4 :: box b 115 [(sl v2), (.int .i64 r.2.1), (sl v4), (.int .i64 r.2.2.1), (.int .i64 r.2.2.2.1), (.int .i64 r.2.2.2.2)] :: osl (RP (RI .i64) (RP RS (RP (RI .i64) (RI .i64)))) 28 (sl v2) l R :: osl RS 9 (sl v4) names R5 :: Φ) w')) {Φ : Ctx} {w : World} {ops : (List Int)} {l : (List (Int × Str × Int × Int))} {at_ : Int} {names : (List Str)} {deep : Int} {bad : Int} {place : Int} {b : Nat} {v2 : SLV} {v4 : SLV} {R : List Nat} {v6 : SLV} {R7 : List Nat} {r : (Ex × Int × Int × Int × Int)} (hs : Sat (box b 115 [(sl v4), (.int .i64 at_), (sl v6), (.int .i64 deep), (.int .i64 bad), (.int .i64 place)] :: imm (RSl (RI .i64)) [sl v2] ops :: osl (RP (RI .i64) (RP RS (RP (RI .i64) (RI .i64)))) 28 (sl v4) l R :: osl RS 9 (sl v6) names R7 :: gl 0 (keysL.map S) :: gl 1 (textsL.map S) :: Φ) w) (hm : expr_read_right_s8 k_expr_read_lower_s11 k_expr_read_lower_s12 ops l at_ names deep bad place = some r) :
  CallsR Tryd.prog 81 [(.pointer (some ⟨b, 0, none⟩)), (.func (.func 86) #[] #[]), (.func (.func 85) #[] #[]), (sl v2)] w (fun v w' => ∃ v3 : SLV, ∃ R4 : List Nat, v = (.agg #[(.int .i64 r.1.op), (.int .i64 r.1.n), (.int .i64 r.1.at_), (sl v3)]) ∧ Sat (osl RExpr 51 (sl v3) r.1.l R4 :: box b 115 [(sl v4), (.int .i64 r.2.1), (sl v6), (.int .i64 r.2.2.1), (.int .i64 r.2.2.2.1), (.int .i64 r.2.2.2.2)] :: osl (RP (RI .i64) (RP RS (RP (RI .i64) (RI .i64)))) 28 (sl v4) l R :: osl RS 9 (sl v6) names R7 :: Φ) w') := by
 refine CallsX_enter Tryd.func81 rfl Tryd.ntmps81 rfl ?_
 unfold expr_read_right_s8 at hm
 refine WC_seq <| WC_region ?_
 refine WS_alloc (zs := [(.int .i64 0), (.int .i64 0), (.int .i64 0), (sl (none, 0, 0))]) hs ti51 rfl rfl ?_
 intro b9 w10 hs
 replace hs := Sat.n7 (Γ := Φ) hs rfl
 refine WL_nil <| At_then <| WC_seq <| WC_region ?_
 refine Wo (Run_move (O rfl)) rfl <| Wo (Run_move (O rfl)) rfl <| ?_
 obtain ⟨r11, hr12, hm⟩ := bind_some' hm
 refine WL_call (f := 86) (first := []) (cap := []) (xs := [(.tmp 15)]) (vs := [(.pointer (some ⟨b, 0, none⟩))]) (args := [(.pointer (some ⟨b, 0, none⟩))]) Tryd.call86 (O rfl) (.cons (O rfl) .nil) rfl rfl (expr_read_or_s3_ok (@ih_expr_read_lower_s11) (hs.re 7 [1, 3, 4, 5, 6, 0, 2, 5, 6] rfl) hr12) ?_
 rintro _ w15 ⟨v13, R14, rfl, hs⟩
 replace hs := Sat.n8 (Γ := Φ) hs rfl
 refine WS_alloc (zs := [(.int .i64 0), (.int .i64 0), (.int .i64 0), (sl (none, 0, 0))]) hs ti51 rfl rfl ?_
 intro b16 w17 hs
 replace hs := Sat.n9 (Γ := Φ) hs rfl
 refine WS_store (us := [(.int .i64 r11.1.op), (.int .i64 r11.1.n), (.int .i64 r11.1.at_), (sl v13)]) (vs' := [(.int .i64 r11.1.op), (.int .i64 r11.1.n), (.int .i64 r11.1.at_), (sl v13)]) hs 0 rfl ti51 (O rfl) (O rfl) rfl rfl rfl rfl rfl ?_
 intro w18 hs
 replace hs := Sat.n9 (Γ := Φ) hs rfl
 refine WL_nil <| At_then <| WC_seq <| WC_region ?_
 refine Wo (Run_move (O rfl)) rfl <| Wo (Run_move (O rfl)) rfl <| ?_
 obtain ⟨r19, hr20, hm⟩ := bind_some' hm
 refine WL_call (f := 83) (first := []) (cap := []) (xs := [(.tmp 18), (.tmp 19)]) (vs := [(.pointer (some ⟨b, 0, none⟩)), (sl v2)]) (args := [(.pointer (some ⟨b, 0, none⟩)), (sl v2)]) Tryd.call83 Opd.f (.cons (O rfl) (.cons (O rfl) .nil)) rfl rfl (expr_read_is_s3_ok (hs.re 9 [2, 6, 3, 4, 7, 8, 0, 1, 5, 6, 7, 8] rfl) hr20) ?_
 rintro _ w21 ⟨rfl, hs⟩
 replace hs := Sat.n9 (Γ := Φ) hs rfl
 refine Wo (Run_move (O rfl)) rfl <| Wo (Run_extract (vs := [(.int .i64 r19.1), (.bool r19.2)]) (O rfl) rfl) rfl <| Wo (Run_extract (vs := [(.int .i64 r19.1), (.bool r19.2)]) (O rfl) rfl) rfl <| Wo (Run_assign (O rfl)) rfl <| Wo (Run_assign (O rfl)) rfl <| ?_
 refine WL_nil <| At_then <| WC_seq <| WC_seq <| WC_region ?_
 refine Wo (Run_move (O rfl)) rfl <| Wo (Run_nilP (O rfl)) rfl <| Wo (Run_fieldAddr fo115_4 (O rfl)) rfl <| Wo (Run_load1 (v := (.int .i64 r11.2.2.2.1)) Tryd.underlying34 rfl (O rfl) (fun _ => (hs.box (i := 0) rfl).part 4 rfl)) rfl <| ?_
 obtain ⟨b22, e23, hm⟩ := letv_some hm
 refine Wo (Run.eqB (Run_neI (O rfl) Opd.c) e23) rfl <| Wo (Run_move (O rfl)) rfl <| Wg rfl guard_neg (Run_move (O rfl)) rfl <| ?_
 obtain ⟨b24, e25, hm⟩ := letv_some hm
 refine Wg rfl guard_neg (Run.eqB (Run_notB (Opd.g rfl id)) e25) rfl <| ?_
 obtain ⟨b26, e27, hm⟩ := letv_some hm
 refine Wo (Run.eqB (Run_or (O rfl) (Opd.g rfl id)) e27) rfl <| ?_
 refine WL_nil <| At_then ?_
 refine WC_cond (O rfl) (fun hc28 => ?_) (fun hc28 => ?_)
 ·
  replace hm := bif_t hc28 hm
  refine WC_seq <| WC_region ?_
  refine Wo (Run_loadA (vs := [(.int .i64 r11.1.op), (.int .i64 r11.1.n), (.int .i64 r11.1.at_), (sl v13)]) Tryd.underlying51 rfl ti51 (O rfl) (fun _ => (hs.box (i := 3) rfl).part 0 rfl) rfl) rfl <| ?_
  refine WS_store (us := [(.int .i64 r11.1.op), (.int .i64 r11.1.n), (.int .i64 r11.1.at_), (sl v13)]) (vs' := [(.int .i64 r11.1.op), (.int .i64 r11.1.n), (.int .i64 r11.1.at_), (sl v13)]) hs 5 rfl ti51 (O rfl) (O rfl) rfl rfl rfl rfl rfl ?_
  intro w29 hs
  replace hs := Sat.n9 (Γ := Φ) hs rfl
  refine WL_nil <| At_then ?_
  refine WC_ret ?_
  refine At_then_ret <| ?_
  refine At_r1 rfl (ResIs.cA (vs := [(.int .i64 r11.1.op), (.int .i64 r11.1.n), (.int .i64 r11.1.at_), (sl v13)]) rfl Tryd.underlying51 rfl ti51 ((hs.box (i := 5) rfl).part 0 rfl) rfl) ?_
  cases hm
  exact ⟨v13, R14, rfl, (hs.re 9 [4, 0, 1, 2] rfl)⟩
 ·
  replace hm := bif_f hc28 hm
  refine WC_skip ?_
  refine At_then <| WC_seq <| WC_region ?_
  refine Wo (Run_move (O rfl)) rfl <| ?_
  obtain ⟨r30, hr31, hm⟩ := bind_some' hm
  refine WL_call (f := 84) (first := []) (cap := []) (xs := [(.tmp 33)]) (vs := [(.pointer (some ⟨b, 0, none⟩))]) (args := [(.pointer (some ⟨b, 0, none⟩))]) Tryd.call84 Opd.f (.cons (O rfl) .nil) rfl rfl (expr_read_next_s3_ok (hs.re 9 [0, 1, 2, 3, 4, 5, 6, 7, 8] rfl) hr31) ?_
  rintro _ w32 ⟨rfl, hs⟩
  replace hs := Sat.n9 (Γ := Φ) hs rfl
  refine WS_alloc (zs := [(.int .i64 0), (S []), (.int .i64 0), (.int .i64 0)]) hs ti28 rfl rfl ?_
  intro b33 w34 hs
  replace hs := Sat.n10 (Γ := Φ) hs rfl
  refine WS_store (us := [(.int .i64 r30.1), (S r30.2.1), (.int .i64 r30.2.2.1), (.int .i64 r30.2.2.2)]) (vs' := [(.int .i64 r30.1), (S r30.2.1), (.int .i64 r30.2.2.1), (.int .i64 r30.2.2.2)]) hs 0 rfl ti28 (O rfl) (O rfl) rfl rfl rfl rfl rfl ?_
  intro w35 hs
  replace hs := Sat.n10 (Γ := Φ) hs rfl
  refine WL_nil <| At_then <| WC_seq <| WC_region ?_
  refine Wo (Run_move (O rfl)) rfl <| Wo (Run_nilP (O rfl)) rfl <| Wo (Run_fieldAddr fo115_1 (O rfl)) rfl <| Wo (Run_load1 (v := (.int .i64 r11.2.1)) Tryd.underlying3 rfl (O rfl) (fun _ => (hs.box (i := 1) rfl).part 1 rfl)) rfl <| Wo (Run_add (O rfl) Opd.c) rfl <| Wo (Run_nilP (O rfl)) rfl <| Wo (Run_fieldAddr fo115_1 (O rfl)) rfl <| ?_
  refine WS_store (us := [(.int .i64 (IntKind.i64.wrap (r11.2.1 + 1)))]) (vs' := [(sl v4), (.int .i64 (IntKind.i64.wrap (r11.2.1 + 1))), (sl v6), (.int .i64 r11.2.2.1), (.int .i64 r11.2.2.2.1), (.int .i64 r11.2.2.2.2)]) hs 1 rfl ti3 (O rfl) (O rfl) rfl rfl rfl rfl rfl ?_
  intro w36 hs
  replace hs := Sat.n10 (Γ := Φ) hs rfl
  refine WL_nil <| At_then <| WC_seq <| WC_region ?_
  refine Wo (Run_move (O rfl)) rfl <| Wo (Run_move (O rfl)) rfl <| ?_
  obtain ⟨r37, hr38, hm⟩ := bind_some' hm
  refine WL_call (f := 77) (first := []) (cap := []) (xs := [(.tmp 42), (.tmp 43)]) (vs := [(.pointer (some ⟨b, 0, none⟩)), (.func (.func 85) #[] #[])]) (args := [(.pointer (some ⟨b, 0, none⟩)), (.func (.func 85) #[] #[])]) Tryd.call77 Opd.f (.cons (O rfl) (.cons (O rfl) .nil)) rfl rfl (ih_expr_read_lower_s12 (hs.re 10 [1, 2, 3, 8, 9, 0, 4, 5, 6, 7, 8, 9] rfl) hr38) ?_
  rintro _ w41 ⟨v39, R40, rfl, hs⟩
  replace hs := Sat.n11 (Γ := Φ) hs rfl
  refine WS_alloc (zs := [(.int .i64 0), (.int .i64 0), (.int .i64 0), (sl (none, 0, 0))]) hs ti51 rfl rfl ?_
  intro b42 w43 hs
  replace hs := Sat.n12 (Γ := Φ) hs rfl
  refine WS_store (us := [(.int .i64 r37.1.op), (.int .i64 r37.1.n), (.int .i64 r37.1.at_), (sl v39)]) (vs' := [(.int .i64 r37.1.op), (.int .i64 r37.1.n), (.int .i64 r37.1.at_), (sl v39)]) hs 0 rfl ti51 (O rfl) (O rfl) rfl rfl rfl rfl rfl ?_
  intro w44 hs
  replace hs := Sat.n12 (Γ := Φ) hs rfl
  refine WL_nil <| At_then <| WC_seq <| WC_region ?_
  refine Wo (Run_move (O rfl)) rfl <| Wo (Run_fieldAddr fo28_3 (O rfl)) rfl <| Wo (Run_load1 (v := (.int .i64 r30.2.2.2)) Tryd.underlying3 rfl (O rfl) (fun _ => (hs.box (i := 5) rfl).part 3 rfl)) rfl <| Wo (Run_loadA (vs := [(.int .i64 r11.1.op), (.int .i64 r11.1.n), (.int .i64 r11.1.at_), (sl v13)]) Tryd.underlying51 rfl ti51 (O rfl) (fun _ => (hs.box (i := 6) rfl).part 0 rfl) rfl) rfl <| Wo (Run_loadA (vs := [(.int .i64 r37.1.op), (.int .i64 r37.1.n), (.int .i64 r37.1.at_), (sl v39)]) Tryd.underlying51 rfl ti51 (O rfl) (fun _ => (hs.box (i := 0) rfl).part 0 rfl) rfl) rfl <| ?_
  replace hs := hs.freeze (i := 7) rfl
  replace hs := hs.freeze (i := 1) rfl
  refine WS_lit (A := RExpr) (xs := [r11.1, r37.1]) (zs := [(.int .i64 0), (.int .i64 0), (.int .i64 0), (sl (none, 0, 0))]) (cells := [(.int .i64 r11.1.op), (.int .i64 r11.1.n), (.int .i64 r11.1.at_), (sl v13), (.int .i64 r37.1.op), (.int .i64 r37.1.n), (.int .i64 r37.1.at_), (sl v39)]) (parts := [(0, (.tmp 48)), (1, (.tmp 49))]) hs Tryd.underlying49 ti51 rfl rfl rfl (.cons (O rfl) (.cons (O rfl) .nil)) (by kernel_rfl) rfl (ARd.cons (A := RExpr) (c := [(.int .i64 r11.1.op), (.int .i64 r11.1.n), (.int .i64 r11.1.at_), (sl v13)]) (x := r11.1) (RExpr_closeE (⟨_, rfl, (hs.sl (i := 7) rfl)⟩)) (ARd.cons (A := RExpr) (c := [(.int .i64 r37.1.op), (.int .i64 r37.1.n), (.int .i64 r37.1.at_), (sl v39)]) (x := r37.1) (RExpr_closeE (⟨_, rfl, (hs.sl (i := 1) rfl)⟩)) ARd.nil)) rfl ?_
  intro b45 w46 hs
  replace hs := Sat.n13 (Γ := Φ) hs rfl
  refine Wo (Run_build (parts := [(0, (.tmp 45)), (2, (.tmp 47)), (3, (.tmp 50))]) (v := (.agg #[(.int .i64 r19.1), (.int .i64 0), (.int .i64 r30.2.2.2), (sl (some ⟨b45, 0, none⟩, 2, 2))])) (.cons (O rfl) (.cons (O rfl) (.cons (O rfl) .nil))) (fun _ => by kernel_rfl)) rfl <| ?_
  refine WS_store (us := [(.int .i64 r19.1), (.int .i64 0), (.int .i64 r30.2.2.2), (sl (some ⟨b45, 0, none⟩, 2, 2))]) (vs' := [(.int .i64 r19.1), (.int .i64 0), (.int .i64 r30.2.2.2), (sl (some ⟨b45, 0, none⟩, 2, 2))]) hs 9 rfl ti51 (O rfl) (O rfl) rfl rfl rfl rfl rfl ?_
  intro w47 hs
  replace hs := Sat.n13 (Γ := Φ) hs rfl
  refine WL_nil <| At_then ?_
  refine WC_ret ?_
  refine At_r1 rfl (ResIs.cA (vs := [(.int .i64 r19.1), (.int .i64 0), (.int .i64 r30.2.2.2), (sl (some ⟨b45, 0, none⟩, 2, 2))]) rfl Tryd.underlying51 rfl ti51 ((hs.box (i := 9) rfl).part 0 rfl) rfl) ?_
  cases hm
  exact ⟨(some ⟨b45, 0, none⟩, 2, 2), [b45], rfl, (hs.re 13 [0, 3, 4, 5] rfl)⟩
set_option maxRecDepth 100000 in
set_option maxHeartbeats 4000000 in
theorem expr_read_imp_s3_ok {k_expr_read_lower_s11 : ((List (Int × Str × Int × Int)) × Int × (List Str) × Int × Int × Int) → Option (Ex × Int × Int × Int × Int)} {k_expr_read_lower_s12 : ((List (Int × Str × Int × Int)) × Int × (List Str) × Int × Int × Int) → Option (Ex × Int × Int × Int × Int)} (ih_expr_read_lower_s11 : ∀ {Φ : Ctx} {w : World} {l : (List (Int × Str × Int × Int))} {at_ : Int} {names : (List Str)} {deep : Int} {bad : Int} {place : Int} {b : Nat} {v2 : SLV} {R : List Nat} {v4 : SLV} {R5 : List Nat} {r : (Ex × Int × Int × Int × Int)}, Sat (box b 115 [(sl v2), (.int .i64 at_), (sl v4), (.int .i64 deep), (.int .i64 bad), (.int .i64 place)] :: osl (RP (RI .i64) (RP RS (RP (RI .i64) (RI .i64)))) 28 (sl v2) l R :: osl RS 9 (sl v4) names R5 :: gl 0 (keysL.map S) :: gl 1 (textsL.map S) :: Φ) w → k_expr_read_lower_s11 (l, at_, names, deep, bad, place) = some r → CallsR Tryd.prog 77 [(.pointer (some ⟨b, 0, none⟩)), (.func (.func 78) #[] #[])] w (fun v w' => ∃ v3 : SLV, ∃ R4 : List Nat, v = (.agg #[(.int .i64 r.1.op), (.int .i64 r.1.n), (.int .i64 r.1.at_), (sl v3)]) ∧ Sat (osl RExpr 51 (sl v3) r.1.l R4 :: box b 115 [(sl v2), (.int .i64 r.2.1), (sl v4), (.int .i64 r.2.2.1), (.int .i64 r.2.2.2.1), (.int .i64 r.2.2.2.2)] :: osl (RP (RI .i64) (RP RS (RP (RI .i64) (RI .i64)))) 28 (sl v2) l R :: osl RS 9 (sl v4) names R5 :: Φ) w')) (ih_expr_read_lower_s12 : ∀ {Φ : Ctx} {w : World} {l : (List (Int × Str × Int × Int))} {at_ : Int} {names : (List Str)} {deep : Int} {bad : Int} {place : Int} {b : Nat} {v2 : SLV} {R : List Nat} {v4 : SLV} {R5 : List Nat} {r : (Ex × Int × Int × Int × Int)}, Sat (box b 115 [(sl v2), (.int .i64 at_), (sl v4), (.int .i64 deep), (.int .i64 bad), (.int .i64 place)] :: osl (RP (RI .i64) (RP RS (RP (RI .i64) (RI .i64)))) 28 (sl v2) l R :: osl RS 9 (sl v4) names R5 :: gl 0 (keysL.map S) :: gl 1 (textsL.map S) :: Φ) w → k_expr_read_lower_s12 (l, at_, names, deep, bad, place) = some r → CallsR Tryd.prog 77 [(.pointer (some ⟨b, 0, none⟩)), (.func (.func 85) #[] #[])] w (fun v w' => ∃ v3 : SLV, ∃ R4 : List Nat, v = (.agg #[(.int .i64 r.1.op), (.int .i64 r.1.n), (.int .i64 r.1.at_), (sl v3)]) ∧ Sat (osl RExpr 51 (sl v3) r.1.l R4 :: box b 115 [(sl v2), (.int .i64 r.2.1), (sl v4), (.int .i64 r.2.2.1), (.int .i64 r.2.2.2.1), (.int .i64 r.2.2.2.2)] :: osl (RP (RI .i64) (RP RS (RP (RI .i64) (RI .i64)))) 28 (sl v2) l R :: osl RS 9 (sl v4) names R5 :: Φ) w')) {Φ : Ctx} {w : World} {l : (List (Int × Str × Int × Int))} {at_ : Int} {names : (List Str)} {deep : Int} {bad : Int} {place : Int} {b : Nat} {v2 : SLV} {R : List Nat} {v4 : SLV} {R5 : List Nat} {r : (Ex × Int × Int × Int × Int)} (hs : Sat (box b 115 [(sl v2), (.int .i64 at_), (sl v4), (.int .i64 deep), (.int .i64 bad), (.int .i64 place)] :: osl (RP (RI .i64) (RP RS (RP (RI .i64) (RI .i64)))) 28 (sl v2) l R :: osl RS 9 (sl v4) names R5 :: gl 0 (keysL.map S) :: gl 1 (textsL.map S) :: Φ) w) (hm : expr_read_imp_s3 k_expr_read_lower_s11 k_expr_read_lower_s12 l at_ names deep bad place = some r) :
  CallsR Tryd.prog 85 [(.pointer (some ⟨b, 0, none⟩))] w (fun v w' => ∃ v3 : SLV, ∃ R4 : List Nat, v = (.agg #[(.int .i64 r.1.op), (.int .i64 r.1.n), (.int .i64 r.1.at_), (sl v3)]) ∧ Sat (osl RExpr 51 (sl v3) r.1.l R4 :: box b 115 [(sl v2), (.int .i64 r.2.1), (sl v4), (.int .i64 r.2.2.1), (.int .i64 r.2.2.2.1), (.int .i64 r.2.2.2.2)] :: osl (RP (RI .i64) (RP RS (RP (RI .i64) (RI .i64)))) 28 (sl v2) l R :: osl RS 9 (sl v4) names R5 :: Φ) w') := by
 refine CallsX_enter Tryd.func85 rfl Tryd.ntmps85 rfl ?_
 unfold expr_read_imp_s3 at hm
 refine WC_seq <| WC_region ?_
 refine WS_alloc (zs := [(.int .i64 0), (.int .i64 0), (.int .i64 0), (sl (none, 0, 0))]) hs ti51 rfl rfl ?_
 intro b9 w10 hs
 replace hs := Sat.n6 (Γ := Φ) hs rfl
 refine WL_nil <| At_then <| WC_seq <| WC_region ?_
 refine Wo (Run_move (O rfl)) rfl <| ?_
 refine WS_lit (A := (RI .i64)) (xs := [18]) (zs := [(.int .i64 0)]) (cells := [(.int .i64 18)]) (parts := [(0, (.const (.int .i64 18)))]) hs Tryd.underlying30 ti3 rfl rfl rfl (.cons Opd.c .nil) (by kernel_rfl) rfl (ARd.cons (A := (RI .i64)) (c := [(.int .i64 18)]) (x := 18) rfl ARd.nil) rfl ?_
 intro b11 w12 hs
 replace hs := Sat.n7 (Γ := Φ) hs rfl
 replace hs := hs.freeze (i := 0) rfl
 obtain ⟨r13, hr14, hm⟩ := bind_some' hm
 refine WL_call (f := 81) (first := []) (cap := []) (xs := [(.tmp 3), (.func 86), (.func 85), (.tmp 4)]) (vs := [(.pointer (some ⟨b, 0, none⟩)), (.func (.func 86) #[] #[]), (.func (.func 85) #[] #[]), (sl (some ⟨b11, 0, none⟩, 1, 1))]) (args := [(.pointer (some ⟨b, 0, none⟩)), (.func (.func 86) #[] #[]), (.func (.func 85) #[] #[]), (sl (some ⟨b11, 0, none⟩, 1, 1))]) Tryd.call81 Opd.f (.cons (O rfl) (.cons Opd.f (.cons Opd.f (.cons (O rfl) .nil)))) rfl rfl (expr_read_right_s8_ok (@ih_expr_read_lower_s11) (@ih_expr_read_lower_s12) (hs.re 7 [2, 0, 3, 4, 5, 6, 0, 1, 5, 6] rfl) hr14) ?_
 rintro _ w17 ⟨v15, R16, rfl, hs⟩
 replace hs := Sat.n8 (Γ := Φ) hs rfl
 refine WS_store (us := [(.int .i64 r13.1.op), (.int .i64 r13.1.n), (.int .i64 r13.1.at_), (sl v15)]) (vs' := [(.int .i64 r13.1.op), (.int .i64 r13.1.n), (.int .i64 r13.1.at_), (sl v15)]) hs 5 rfl ti51 (O rfl) (O rfl) rfl rfl rfl rfl rfl ?_
 intro w18 hs
 replace hs := Sat.n8 (Γ := Φ) hs rfl
 refine WL_nil <| At_then ?_
 refine WC_ret ?_
 refine At_r1 rfl (ResIs.cA (vs := [(.int .i64 r13.1.op), (.int .i64 r13.1.n), (.int .i64 r13.1.at_), (sl v15)]) rfl Tryd.underlying51 rfl ti51 ((hs.box (i := 5) rfl).part 0 rfl) rfl) ?_
 cases hm
 exact ⟨v15, R16, rfl, (hs.re 8 [0, 1, 2, 3] rfl)⟩
set_option maxRecDepth 100000 in
set_option maxHeartbeats 4000000 in
theorem expr_read_lower_s12_F_ok {k_expr_read_lower_s11 : ((List (Int × Str × Int × Int)) × Int × (List Str) × Int × Int × Int) → Option (Ex × Int × Int × Int × Int)} {k_expr_read_lower_s12 : ((List (Int × Str × Int × Int)) × Int × (List Str) × Int × Int × Int) → Option (Ex × Int × Int × Int × Int)} (ih_expr_read_lower_s11 : ∀ {Φ : Ctx} {w : World} {l : (List (Int × Str × Int × Int))} {at_ : Int} {names : (List Str)} {deep : Int} {bad : Int} {place : Int} {b : Nat} {v2 : SLV} {R : List Nat} {v4 : SLV} {R5 : List Nat} {r : (Ex × Int × Int × Int × Int)}, Sat (box b 115 [(sl v2), (.int .i64 at_), (sl v4), (.int .i64 deep), (.int .i64 bad), (.int .i64 place)] :: osl (RP (RI .i64) (RP RS (RP (RI .i64) (RI .i64)))) 28 (sl v2) l R :: osl RS 9 (sl v4) names R5 :: gl 0 (keysL.map S) :: gl 1 (textsL.map S) :: Φ) w → k_expr_read_lower_s11 (l, at_, names, deep, bad, place) = some r → CallsR Tryd.prog 77 [(.pointer (some ⟨b, 0, none⟩)), (.func (.func 78) #[] #[])] w (fun v w' => ∃ v3 : SLV, ∃ R4 : List Nat, v = (.agg #[(.int .i64 r.1.op), (.int .i64 r.1.n), (.int .i64 r.1.at_), (sl v3)]) ∧ Sat (osl RExpr 51 (sl v3) r.1.l R4 :: box b 115 [(sl v2), (.int .i64 r.2.1), (sl v4), (.int .i64 r.2.2.1), (.int .i64 r.2.2.2.1), (.int .i64 r.2.2.2.2)] :: osl (RP (RI .i64) (RP RS (RP (RI .i64) (RI .i64)))) 28 (sl v2) l R :: osl RS 9 (sl v4) names R5 :: Φ) w')) (ih_expr_read_lower_s12 : ∀ {Φ : Ctx} {w : World} {l : (List (Int × Str × Int × Int))} {at_ : Int} {names : (List Str)} {deep : Int} {bad : Int} {place : Int} {b : Nat} {v2 : SLV} {R : List Nat} {v4 : SLV} {R5 : List Nat} {r : (Ex × Int × Int × Int × Int)}, Sat (box b 115 [(sl v2), (.int .i64 at_), (sl v4), (.int .i64 deep), (.int .i64 bad), (.int .i64 place)] :: osl (RP (RI .i64) (RP RS (RP (RI .i64) (RI .i64)))) 28 (sl v2) l R :: osl RS 9 (sl v4) names R5 :: gl 0 (keysL.map S) :: gl 1 (textsL.map S) :: Φ) w → k_expr_read_lower_s12 (l, at_, names, deep, bad, place) = some r → CallsR Tryd.prog 77 [(.pointer (some ⟨b, 0, none⟩)), (.func (.func 85) #[] #[])] w (fun v w' => ∃ v3 : SLV, ∃ R4 : List Nat, v = (.agg #[(.int .i64 r.1.op), (.int .i64 r.1.n), (.int .i64 r.1.at_), (sl v3)]) ∧ Sat (osl RExpr 51 (sl v3) r.1.l R4 :: box b 115 [(sl v2), (.int .i64 r.2.1), (sl v4), (.int .i64 r.2.2.1), (.int .i64 r.2.2.2.1), (.int .i64 r.2.2.2.2)] :: osl (RP (RI .i64) (RP RS (RP (RI .i64) (RI .i64)))) 28 (sl v2) l R :: osl RS 9 (sl v4) names R5 :: Φ) w')) {Φ : Ctx} {w : World} {l : (List (Int × Str × Int × Int))} {at_ : Int} {names : (List Str)} {deep : Int} {bad : Int} {place : Int} {b : Nat} {v2 : SLV} {R : List Nat} {v4 : SLV} {R5 : List Nat} {r : (Ex × Int × Int × Int × Int)} (hs : Sat (box b 115 [(sl v2), (.int .i64 at_), (sl v4), (.int .i64 deep), (.int .i64 bad), (.int .i64 place)] :: osl (RP (RI .i64) (RP RS (RP (RI .i64) (RI .i64)))) 28 (sl v2) l R :: osl RS 9 (sl v4) names R5 :: gl 0 (keysL.map S) :: gl 1 (textsL.map S) :: Φ) w) (hm : expr_read_lower_s12_F k_expr_read_lower_s11 k_expr_read_lower_s12 l at_ names deep bad place = some r) :
  CallsR Tryd.prog 77 [(.pointer (some ⟨b, 0, none⟩)), (.func (.func 85) #[] #[])] w (fun v w' => ∃ v3 : SLV, ∃ R4 : List Nat, v = (.agg #[(.int .i64 r.1.op), (.int .i64 r.1.n), (.int .i64 r.1.at_), (sl v3)]) ∧ Sat (osl RExpr 51 (sl v3) r.1.l R4 :: box b 115 [(sl v2), (.int .i64 r.2.1), (sl v4), (.int .i64 r.2.2.1), (.int .i64 r.2.2.2.1), (.int .i64 r.2.2.2.2)] :: osl (RP (RI .i64) (RP RS (RP (RI .i64) (RI .i64)))) 28 (sl v2) l R :: osl RS 9 (sl v4) names R5 :: Φ) w') := by
 refine CallsX_enter Tryd.func77 rfl Tryd.ntmps77 rfl ?_
 unfold expr_read_lower_s12_F at hm
 refine WC_seq <| WC_region ?_
 refine WS_alloc (zs := [(.int .i64 0), (.int .i64 0), (.int .i64 0), (sl (none, 0, 0))]) hs ti51 rfl rfl ?_
 intro b9 w10 hs
 replace hs := Sat.n6 (Γ := Φ) hs rfl
 refine WL_nil <| At_then <| WC_seq <| WC_seq <| WC_region ?_
 refine Wo (Run_move (O rfl)) rfl <| Wo (Run_nilP (O rfl)) rfl <| Wo (Run_fieldAddr fo115_3 (O rfl)) rfl <| Wo (Run_load1 (v := (.int .i64 deep)) Tryd.underlying3 rfl (O rfl) (fun _ => (hs.box (i := 1) rfl).part 3 rfl)) rfl <| Wo (Run_geI (O rfl) Opd.c) rfl <| ?_
 refine WL_nil <| At_then ?_
 refine WC_cond (O rfl) (fun hc11 => ?_) (fun hc11 => ?_)
 ·
  replace hm := bif_t hc11 hm
  refine WC_seq <| WC_region ?_
  refine Wo (Run_move (O rfl)) rfl <| ?_
  obtain ⟨r12, hr13, hm⟩ := bind_some' hm
  refine WL_call (f := 80) (first := []) (cap := []) (xs := [(.tmp 11), (.const (.int .i64 9))]) (vs := [(.pointer (some ⟨b, 0, none⟩)), (.int .i64 9)]) (args := [(.pointer (some ⟨b, 0, none⟩)), (.int .i64 9)]) Tryd.call80 Opd.f (.cons (O rfl) (.cons Opd.c .nil)) rfl rfl (expr_read_fail_s3_ok (hs.re 6 [1, 2, 3, 0, 4, 5] rfl) hr13) ?_
  rintro _ w16 ⟨v14, R15, rfl, hs⟩
  replace hs := Sat.n7 (Γ := Φ) hs rfl
  refine WS_store (us := [(.int .i64 r12.1.op), (.int .i64 r12.1.n), (.int .i64 r12.1.at_), (sl v14)]) (vs' := [(.int .i64 r12.1.op), (.int .i64 r12.1.n), (.int .i64 r12.1.at_), (sl v14)]) hs 4 rfl ti51 (O rfl) (O rfl) rfl rfl rfl rfl rfl ?_
  intro w17 hs
  replace hs := Sat.n7 (Γ := Φ) hs rfl
  refine WL_nil <| At_then ?_
  refine WC_ret ?_
  refine At_then_ret <| ?_
  refine At_r1 rfl (ResIs.cA (vs := [(.int .i64 r12.1.op), (.int .i64 r12.1.n), (.int .i64 r12.1.at_), (sl v14)]) rfl Tryd.underlying51 rfl ti51 ((hs.box (i := 4) rfl).part 0 rfl) rfl) ?_
  cases hm
  exact ⟨v14, R15, rfl, (hs.re 7 [0, 1, 2, 3] rfl)⟩
 ·
  replace hm := bif_f hc11 hm
  refine WC_skip ?_
  refine At_then <| WC_seq <| WC_region ?_
  refine Wo (Run_move (O rfl)) rfl <| Wo (Run_nilP (O rfl)) rfl <| Wo (Run_fieldAddr fo115_3 (O rfl)) rfl <| Wo (Run_load1 (v := (.int .i64 deep)) Tryd.underlying3 rfl (O rfl) (fun _ => (hs.box (i := 1) rfl).part 3 rfl)) rfl <| Wo (Run_add (O rfl) Opd.c) rfl <| Wo (Run_nilP (O rfl)) rfl <| Wo (Run_fieldAddr fo115_3 (O rfl)) rfl <| ?_
  refine WS_store (us := [(.int .i64 (IntKind.i64.wrap (deep + 1)))]) (vs' := [(sl v2), (.int .i64 at_), (sl v4), (.int .i64 (IntKind.i64.wrap (deep + 1))), (.int .i64 bad), (.int .i64 place)]) hs 1 rfl ti3 (O rfl) (O rfl) rfl rfl rfl rfl rfl ?_
  intro w18 hs
  replace hs := Sat.n6 (Γ := Φ) hs rfl
  refine WL_nil <| At_then <| WC_seq <| WC_region ?_
  refine Wo (Run_move (O rfl)) rfl <| Wo (Run_move (O rfl)) rfl <| ?_
  obtain ⟨r19, hr20, hm⟩ := bind_some' hm
  refine WL_call (f := 85) (first := []) (cap := []) (xs := [(.tmp 21)]) (vs := [(.pointer (some ⟨b, 0, none⟩))]) (args := [(.pointer (some ⟨b, 0, none⟩))]) Tryd.call85 (O rfl) (.cons (O rfl) .nil) rfl rfl (expr_read_imp_s3_ok (@ih_expr_read_lower_s11) (@ih_expr_read_lower_s12) (hs.re 6 [1, 2, 3, 4, 5, 0, 4, 5] rfl) hr20) ?_
  rintro _ w23 ⟨v21, R22, rfl, hs⟩
  replace hs := Sat.n7 (Γ := Φ) hs rfl
  refine WS_alloc (zs := [(.int .i64 0), (.int .i64 0), (.int .i64 0), (sl (none, 0, 0))]) hs ti51 rfl rfl ?_
  intro b24 w25 hs
  replace hs := Sat.n8 (Γ := Φ) hs rfl
  refine WS_store (us := [(.int .i64 r19.1.op), (.int .i64 r19.1.n), (.int .i64 r19.1.at_), (sl v21)]) (vs' := [(.int .i64 r19.1.op), (.int .i64 r19.1.n), (.int .i64 r19.1.at_), (sl v21)]) hs 0 rfl ti51 (O rfl) (O rfl) rfl rfl rfl rfl rfl ?_
  intro w26 hs
  replace hs := Sat.n8 (Γ := Φ) hs rfl
  refine WL_nil <| At_then <| WC_seq <| WC_region ?_
  refine Wo (Run_move (O rfl)) rfl <| Wo (Run_nilP (O rfl)) rfl <| Wo (Run_fieldAddr fo115_3 (O rfl)) rfl <| Wo (Run_load1 (v := (.int .i64 r19.2.2.1)) Tryd.underlying3 rfl (O rfl) (fun _ => (hs.box (i := 2) rfl).part 3 rfl)) rfl <| Wo (Run_sub (O rfl) Opd.c) rfl <| Wo (Run_nilP (O rfl)) rfl <| Wo (Run_fieldAddr fo115_3 (O rfl)) rfl <| ?_
  refine WS_store (us := [(.int .i64 (IntKind.i64.wrap (r19.2.2.1 - 1)))]) (vs' := [(sl v2), (.int .i64 r19.2.1), (sl v4), (.int .i64 (IntKind.i64.wrap (r19.2.2.1 - 1))), (.int .i64 r19.2.2.2.1), (.int .i64 r19.2.2.2.2)]) hs 2 rfl ti3 (O rfl) (O rfl) rfl rfl rfl rfl rfl ?_
  intro w27 hs
  replace hs := Sat.n8 (Γ := Φ) hs rfl
  refine WL_nil <| At_then <| WC_seq <| WC_region ?_
  refine Wo (Run_loadA (vs := [(.int .i64 r19.1.op), (.int .i64 r19.1.n), (.int .i64 r19.1.at_), (sl v21)]) Tryd.underlying51 rfl ti51 (O rfl) (fun _ => (hs.box (i := 0) rfl).part 0 rfl) rfl) rfl <| ?_
  refine WS_store (us := [(.int .i64 r19.1.op), (.int .i64 r19.1.n), (.int .i64 r19.1.at_), (sl v21)]) (vs' := [(.int .i64 r19.1.op), (.int .i64 r19.1.n), (.int .i64 r19.1.at_), (sl v21)]) hs 5 rfl ti51 (O rfl) (O rfl) rfl rfl rfl rfl rfl ?_
  intro w28 hs
  replace hs := Sat.n8 (Γ := Φ) hs rfl
  refine WL_nil <| At_then ?_
  refine WC_ret ?_
  refine At_r1 rfl (ResIs.cA (vs := [(.int .i64 r19.1.op), (.int .i64 r19.1.n), (.int .i64 r19.1.at_), (sl v21)]) rfl Tryd.underlying51 rfl ti51 ((hs.box (i := 5) rfl).part 0 rfl) rfl) ?_
  cases hm
  exact ⟨v21, R22, rfl, (hs.re 8 [1, 2, 3, 4] rfl)⟩
set_option maxRecDepth 100000 in
set_option maxHeartbeats 4000000 in
theorem expr_read_lower_s12_ok {k_expr_read_lower_s11 : ((List (Int × Str × Int × Int)) × Int × (List Str) × Int × Int × Int) → Option (Ex × Int × Int × Int × Int)} (ih_expr_read_lower_s11 : ∀ {Φ : Ctx} {w : World} {l : (List (Int × Str × Int × Int))} {at_ : Int} {names : (List Str)} {deep : Int} {bad : Int} {place : Int} {b : Nat} {v2 : SLV} {R : List Nat} {v4 : SLV} {R5 : List Nat} {r : (Ex × Int × Int × Int × Int)}, Sat (box b 115 [(sl v2), (.int .i64 at_), (sl v4), (.int .i64 deep), (.int .i64 bad), (.int .i64 place)] :: osl (RP (RI .i64) (RP RS (RP (RI .i64) (RI .i64)))) 28 (sl v2) l R :: osl RS 9 (sl v4) names R5 :: gl 0 (keysL.map S) :: gl 1 (textsL.map S) :: Φ) w → k_expr_read_lower_s11 (l, at_, names, deep, bad, place) = some r → CallsR Tryd.prog 77 [(.pointer (some ⟨b, 0, none⟩)), (.func (.func 78) #[] #[])] w (fun v w' => ∃ v3 : SLV, ∃ R4 : List Nat, v = (.agg #[(.int .i64 r.1.op), (.int .i64 r.1.n), (.int .i64 r.1.at_), (sl v3)]) ∧ Sat (osl RExpr 51 (sl v3) r.1.l R4 :: box b 115 [(sl v2), (.int .i64 r.2.1), (sl v4), (.int .i64 r.2.2.1), (.int .i64 r.2.2.2.1), (.int .i64 r.2.2.2.2)] :: osl (RP (RI .i64) (RP RS (RP (RI .i64) (RI .i64)))) 28 (sl v2) l R :: osl RS 9 (sl v4) names R5 :: Φ) w')) {Φ : Ctx} {w : World} {l : (List (Int × Str × Int × Int))} {at_ : Int} {names : (List Str)} {deep : Int} {bad : Int} {place : Int} {b : Nat} {v2 : SLV} {R : List Nat} {v4 : SLV} {R5 : List Nat} {r : (Ex × Int × Int × Int × Int)} (hs : Sat (box b 115 [(sl v2), (.int .i64 at_), (sl v4), (.int .i64 deep), (.int .i64 bad), (.int .i64 place)] :: osl (RP (RI .i64) (RP RS (RP (RI .i64) (RI .i64)))) 28 (sl v2) l R :: osl RS 9 (sl v4) names R5 :: gl 0 (keysL.map S) :: gl 1 (textsL.map S) :: Φ) w) (hm : expr_read_lower_s12 k_expr_read_lower_s11 l at_ names deep bad place = some r) :
  CallsR Tryd.prog 77 [(.pointer (some ⟨b, 0, none⟩)), (.func (.func 85) #[] #[])] w (fun v w' => ∃ v3 : SLV, ∃ R4 : List Nat, v = (.agg #[(.int .i64 r.1.op), (.int .i64 r.1.n), (.int .i64 r.1.at_), (sl v3)]) ∧ Sat (osl RExpr 51 (sl v3) r.1.l R4 :: box b 115 [(sl v2), (.int .i64 r.2.1), (sl v4), (.int .i64 r.2.2.1), (.int .i64 r.2.2.2.1), (.int .i64 r.2.2.2.2)] :: osl (RP (RI .i64) (RP RS (RP (RI .i64) (RI .i64)))) 28 (sl v2) l R :: osl RS 9 (sl v4) names R5 :: Φ) w') := by
 have key : ∀ (N : Nat) {Φ : Ctx} {w : World} {l : (List (Int × Str × Int × Int))} {at_ : Int} {names : (List Str)} {deep : Int} {bad : Int} {place : Int} {b : Nat} {v2 : SLV} {R : List Nat} {v4 : SLV} {R5 : List Nat} {r : (Ex × Int × Int × Int × Int)}, Sat (box b 115 [(sl v2), (.int .i64 at_), (sl v4), (.int .i64 deep), (.int .i64 bad), (.int .i64 place)] :: osl (RP (RI .i64) (RP RS (RP (RI .i64) (RI .i64)))) 28 (sl v2) l R :: osl RS 9 (sl v4) names R5 :: gl 0 (keysL.map S) :: gl 1 (textsL.map S) :: Φ) w → fixN (fun k (s : ((List (Int × Str × Int × Int)) × Int × (List Str) × Int × Int × Int)) => expr_read_lower_s12_F k_expr_read_lower_s11 k s.1 s.2.1 s.2.2.1 s.2.2.2.1 s.2.2.2.2.1 s.2.2.2.2.2) N (l, at_, names, deep, bad, place) = some r → CallsR Tryd.prog 77 [(.pointer (some ⟨b, 0, none⟩)), (.func (.func 85) #[] #[])] w (fun v w' => ∃ v3 : SLV, ∃ R4 : List Nat, v = (.agg #[(.int .i64 r.1.op), (.int .i64 r.1.n), (.int .i64 r.1.at_), (sl v3)]) ∧ Sat (osl RExpr 51 (sl v3) r.1.l R4 :: box b 115 [(sl v2), (.int .i64 r.2.1), (sl v4), (.int .i64 r.2.2.1), (.int .i64 r.2.2.2.1), (.int .i64 r.2.2.2.2)] :: osl (RP (RI .i64) (RP RS (RP (RI .i64) (RI .i64)))) 28 (sl v2) l R :: osl RS 9 (sl v4) names R5 :: Φ) w') := by
  intro N
  induction N with
  | zero => intros; rename_i h; cases h
  | succ N ih => intros; rename_i hs hm; rw [fixN_succ] at hm; exact expr_read_lower_s12_F_ok (@ih_expr_read_lower_s11) (@ih) hs hm
 unfold expr_read_lower_s12 at hm
 exact key FUEL hs hm
set_option maxRecDepth 100000 in
set_option maxHeartbeats 4000000 in
theorem expr_read_deepImp_s3_ok {k_expr_read_lower_s11 : ((List (Int × Str × Int × Int)) × Int × (List Str) × Int × Int × Int) → Option (Ex × Int × Int × Int × Int)} (ih_expr_read_lower_s11 : ∀ {Φ : Ctx} {w : World} {l : (List (Int × Str × Int × Int))} {at_ : Int} {names : (List Str)} {deep : Int} {bad : Int} {place : Int} {b : Nat} {v2 : SLV} {R : List Nat} {v4 : SLV} {R5 : List Nat} {r : (Ex × Int × Int × Int × Int)}, Sat (box b 115 [(sl v2), (.int .i64 at_), (sl v4), (.int .i64 deep), (.int .i64 bad), (.int .i64 place)] :: osl (RP (RI .i64) (RP RS (RP (RI .i64) (RI .i64)))) 28 (sl v2) l R :: osl RS 9 (sl v4) names R5 :: gl 0 (keysL.map S) :: gl 1 (textsL.map S) :: Φ) w → k_expr_read_lower_s11 (l, at_, names, deep, bad, place) = some r → CallsR Tryd.prog 77 [(.pointer (some ⟨b, 0, none⟩)), (.func (.func 78) #[] #[])] w (fun v w' => ∃ v3 : SLV, ∃ R4 : List Nat, v = (.agg #[(.int .i64 r.1.op), (.int .i64 r.1.n), (.int .i64 r.1.at_), (sl v3)]) ∧ Sat (osl RExpr 51 (sl v3) r.1.l R4 :: box b 115 [(sl v2), (.int .i64 r.2.1), (sl v4), (.int .i64 r.2.2.1), (.int .i64 r.2.2.2.1), (.int .i64 r.2.2.2.2)] :: osl (RP (RI .i64) (RP RS (RP (RI .i64) (RI .i64)))) 28 (sl v2) l R :: osl RS 9 (sl v4) names R5 :: Φ) w')) {Φ : Ctx} {w : World} {l : (List (Int × Str × Int × Int))} {at_ : Int} {names : (List Str)} {deep : Int} {bad : Int} {place : Int} {b : Nat} {v2 : SLV} {R : List Nat} {v4 : SLV} {R5 : List Nat} {r : (Ex × Int × Int × Int × Int)} (hs : Sat (box b 115 [(sl v2), (.int .i64 at_), (sl v4), (.int .i64 deep), (.int .i64 bad), (.int .i64 place)] :: osl (RP (RI .i64) (RP RS (RP (RI .i64) (RI .i64)))) 28 (sl v2) l R :: osl RS 9 (sl v4) names R5 :: gl 0 (keysL.map S) :: gl 1 (textsL.map S) :: Φ) w) (hm : expr_read_deepImp_s3 k_expr_read_lower_s11 l at_ names deep bad place = some r) :
  CallsR Tryd.prog 82 [(.pointer (some ⟨b, 0, none⟩))] w (fun v w' => ∃ v3 : SLV, ∃ R4 : List Nat, v = (.agg #[(.int .i64 r.1.op), (.int .i64 r.1.n), (.int .i64 r.1.at_), (sl v3)]) ∧ Sat (osl RExpr 51 (sl v3) r.1.l R4 :: box b 115 [(sl v2), (.int .i64 r.2.1), (sl v4), (.int .i64 r.2.2.1), (.int .i64 r.2.2.2.1), (.int .i64 r.2.2.2.2)] :: osl (RP (RI .i64) (RP RS (RP (RI .i64) (RI .i64)))) 28 (sl v2) l R :: osl RS 9 (sl v4) names R5 :: Φ) w') := by
 refine CallsX_enter Tryd.func82 rfl Tryd.ntmps82 rfl ?_
 unfold expr_read_deepImp_s3 at hm
 refine WC_seq <| WC_region ?_
 refine WS_alloc (zs := [(.int .i64 0), (.int .i64 0), (.int .i64 0), (sl (none, 0, 0))]) hs ti51 rfl rfl ?_
 intro b9 w10 hs
 replace hs := Sat.n6 (Γ := Φ) hs rfl
 refine WL_nil <| At_then <| WC_seq <| WC_region ?_
 refine Wo (Run_move (O rfl)) rfl <| ?_
 obtain ⟨r11, hr12, hm⟩ := bind_some' hm
 refine WL_call (f := 77) (first := []) (cap := []) (xs := [(.tmp 3), (.func 85)]) (vs := [(.pointer (some ⟨b, 0, none⟩)), (.func (.func 85) #[] #[])]) (args := [(.pointer (some ⟨b, 0, none⟩)), (.func (.func 85) #[] #[])]) Tryd.call77 Opd.f (.cons (O rfl) (.cons Opd.f .nil)) rfl rfl (expr_read_lower_s12_ok (@ih_expr_read_lower_s11) (hs.re 6 [1, 2, 3, 4, 5, 0, 4, 5] rfl) hr12) ?_
 rintro _ w15 ⟨v13, R14, rfl, hs⟩
 replace hs := Sat.n7 (Γ := Φ) hs rfl
 refine WS_store (us := [(.int .i64 r11.1.op), (.int .i64 r11.1.n), (.int .i64 r11.1.at_), (sl v13)]) (vs' := [(.int .i64 r11.1.op), (.int .i64 r11.1.n), (.int .i64 r11.1.at_), (sl v13)]) hs 4 rfl ti51 (O rfl) (O rfl) rfl rfl rfl rfl rfl ?_
 intro w16 hs
 replace hs := Sat.n7 (Γ := Φ) hs rfl
 refine WL_nil <| At_then ?_
 refine WC_ret ?_
 refine At_r1 rfl (ResIs.cA (vs := [(.int .i64 r11.1.op), (.int .i64 r11.1.n), (.int .i64 r11.1.at_), (sl v13)]) rfl Tryd.underlying51 rfl ti51 ((hs.box (i := 4) rfl).part 0 rfl) rfl) ?_
 cases hm
 exact ⟨v13, R14, rfl, (hs.re 7 [0, 1, 2, 3] rfl)⟩
end Go.Proofs.YtdhgpnejphlfpaaDoor
namespace Go.Proofs.YtdhgpnejphlfpaaDoor
open Go.Proofs
set_option maxRecDepth 100000 in
set_option maxHeartbeats 4000000 in
theorem expr_read_right_s7_ok {k_expr_read_lower_s11 : ((List (Int × Str × Int × Int)) × Int × (List Str) × Int × Int × Int) → Option (Ex × Int × Int × Int × Int)} (ih_expr_read_lower_s11 : ∀ {Φ : Ctx} {w : World} {l : (List (Int × Str × Int × Int))} {at_ : Int} {names : (List Str)} {deep : Int} {bad : Int} {place : Int} {b : Nat} {v2 : SLV} {R : List Nat} {v4 : SLV} {R5 : List Nat} {r : (Ex × Int × Int × Int × Int)}, Sat (box b 115 [(sl v2), (.int .i64 at_), (sl v4), (.int .i64 deep), (.int .i64 bad), (.int .i64 place)] :: osl (RP (RI .i64) (RP RS (RP (RI .i64) (RI .i64)))) 28 (sl v2) l R :: osl RS 9 (sl v4) names R5 :: gl 0 (keysL.map S) :: gl 1 (textsL.map S) :: Φ) w → k_expr_read_lower_s11 (l, at_, names, deep, bad, place) = some r → CallsR Tryd.prog 77 [(.pointer (some ⟨b, 0, none⟩)), (.func (.func 78) #[] #[])] w (fun v w' => ∃ v3 : SLV, ∃ R4 : List Nat, v = (.agg #[(.int .i64 r.1.op), (.int .i64 r.1.n), (.int .i64 r.1.at_), (sl v3)]) ∧ Sat (osl RExpr 51 (sl v3) r.1.l R4 :: box b 115 [(sl v2), (.int .i64 r.2.1), (sl v4), (.int .i64 r.2.2.1), (.int .i64 r.2.2.2.1), (.int .i64 r.2.2.2.2)] :: osl (RP (RI .i64) (RP RS (RP (RI .i64) (RI .i64)))) 28 (sl v2) l R :: osl RS 9 (sl v4) names R5 :: Φ) w')) {Φ : Ctx} {w : World} {ops : (List Int)} {l : (List (Int × Str × Int × Int))} {at_ : Int} {names : (List Str)} {deep : Int} {bad : Int} {place : Int} {b : Nat} {v2 : SLV} {v4 : SLV} {R : List Nat} {v6 : SLV} {R7 : List Nat} {r : (Ex × Int × Int × Int × Int)} (hs : Sat (box b 115 [(sl v4), (.int .i64 at_), (sl v6), (.int .i64 deep), (.int .i64 bad), (.int .i64 place)] :: imm (RSl (RI .i64)) [sl v2] ops :: osl (RP (RI .i64) (RP RS (RP (RI .i64) (RI .i64)))) 28 (sl v4) l R :: osl RS 9 (sl v6) names R7 :: gl 0 (keysL.map S) :: gl 1 (textsL.map S) :: Φ) w) (hm : expr_read_right_s7 k_expr_read_lower_s11 ops l at_ names deep bad place = some r) :
  CallsR Tryd.prog 81 [(.pointer (some ⟨b, 0, none⟩)), (.func (.func 82) #[] #[]), (.func (.func 78) #[] #[]), (sl v2)] w (fun v w' => ∃ v3 : SLV, ∃ R4 : List Nat, v = (.agg #[(.int .i64 r.1.op), (.int .i64 r.1.n), (.int .i64 r.1.at_), (sl v3)]) ∧ Sat (osl RExpr 51 (sl v3) r.1.l R4 :: box b 115 [(sl v4), (.int .i64 r.2.1), (sl v6), (.int .i64 r.2.2.1), (.int .i64 r.2.2.2.1), (.int .i64 r.2.2.2.2)] :: osl (RP (RI .i64) (RP RS (RP (RI .i64) (RI .i64)))) 28 (sl v4) l R :: osl RS 9 (sl v6) names R7 :: Φ) w') := by
 refine CallsX_enter Tryd.func81 rfl Tryd.ntmps81 rfl ?_
 unfold expr_read_right_s7 at hm
 refine WC_seq <| WC_region ?_
 refine WS_alloc (zs := [(.int .i64 0), (.int .i64 0), (.int .i64 0), (sl (none, 0, 0))]) hs ti51 rfl rfl ?_
 intro b9 w10 hs
 replace hs := Sat.n7 (Γ := Φ) hs rfl
 refine WL_nil <| At_then <| WC_seq <| WC_region ?_
 refine Wo (Run_move (O rfl)) rfl <| Wo (Run_move (O rfl)) rfl <| ?_
 obtain ⟨r11, hr12, hm⟩ := bind_some' hm
 refine WL_call (f := 82) (first := []) (cap := []) (xs := [(.tmp 15)]) (vs := [(.pointer (some ⟨b, 0, none⟩))]) (args := [(.pointer (some ⟨b, 0, none⟩))]) Tryd.call82 (O rfl) (.cons (O rfl) .nil) rfl rfl (expr_read_deepImp_s3_ok (@ih_expr_read_lower_s11) (hs.re 7 [1, 3, 4, 5, 6, 0, 2, 5, 6] rfl) hr12) ?_
 rintro _ w15 ⟨v13, R14, rfl, hs⟩
 replace hs := Sat.n8 (Γ := Φ) hs rfl
 refine WS_alloc (zs := [(.int .i64 0), (.int .i64 0), (.int .i64 0), (sl (none, 0, 0))]) hs ti51 rfl rfl ?_
 intro b16 w17 hs
 replace hs := Sat.n9 (Γ := Φ) hs rfl
 refine WS_store (us := [(.int .i64 r11.1.op), (.int .i64 r11.1.n), (.int .i64 r11.1.at_), (sl v13)]) (vs' := [(.int .i64 r11.1.op), (.int .i64 r11.1.n), (.int .i64 r11.1.at_), (sl v13)]) hs 0 rfl ti51 (O rfl) (O rfl) rfl rfl rfl rfl rfl ?_
 intro w18 hs
 replace hs := Sat.n9 (Γ := Φ) hs rfl
 refine WL_nil <| At_then <| WC_seq <| WC_region ?_
 refine Wo (Run_move (O rfl)) rfl <| Wo (Run_move (O rfl)) rfl <| ?_
 obtain ⟨r19, hr20, hm⟩ := bind_some' hm
 refine WL_call (f := 83) (first := []) (cap := []) (xs := [(.tmp 18), (.tmp 19)]) (vs := [(.pointer (some ⟨b, 0, none⟩)), (sl v2)]) (args := [(.pointer (some ⟨b, 0, none⟩)), (sl v2)]) Tryd.call83 Opd.f (.cons (O rfl) (.cons (O rfl) .nil)) rfl rfl (expr_read_is_s3_ok (hs.re 9 [2, 6, 3, 4, 7, 8, 0, 1, 5, 6, 7, 8] rfl) hr20) ?_
 rintro _ w21 ⟨rfl, hs⟩
 replace hs := Sat.n9 (Γ := Φ) hs rfl
 refine Wo (Run_move (O rfl)) rfl <| Wo (Run_extract (vs := [(.int .i64 r19.1), (.bool r19.2)]) (O rfl) rfl) rfl <| Wo (Run_extract (vs := [(.int .i64 r19.1), (.bool r19.2)]) (O rfl) rfl) rfl <| Wo (Run_assign (O rfl)) rfl <| Wo (Run_assign (O rfl)) rfl <| ?_
 refine WL_nil <| At_then <| WC_seq <| WC_seq <| WC_region ?_
 refine Wo (Run_move (O rfl)) rfl <| Wo (Run_nilP (O rfl)) rfl <| Wo (Run_fieldAddr fo115_4 (O rfl)) rfl <| Wo (Run_load1 (v := (.int .i64 r11.2.2.2.1)) Tryd.underlying34 rfl (O rfl) (fun _ => (hs.box (i := 0) rfl).part 4 rfl)) rfl <| ?_
 obtain ⟨b22, e23, hm⟩ := letv_some hm
 refine Wo (Run.eqB (Run_neI (O rfl) Opd.c) e23) rfl <| Wo (Run_move (O rfl)) rfl <| Wg rfl guard_neg (Run_move (O rfl)) rfl <| ?_
 obtain ⟨b24, e25, hm⟩ := letv_some hm
 refine Wg rfl guard_neg (Run.eqB (Run_notB (Opd.g rfl id)) e25) rfl <| ?_
 obtain ⟨b26, e27, hm⟩ := letv_some hm
 refine Wo (Run.eqB (Run_or (O rfl) (Opd.g rfl id)) e27) rfl <| ?_
 refine WL_nil <| At_then ?_
 refine WC_cond (O rfl) (fun hc28 => ?_) (fun hc28 => ?_)
 ·
  replace hm := bif_t hc28 hm
  refine WC_seq <| WC_region ?_
  refine Wo (Run_loadA (vs := [(.int .i64 r11.1.op), (.int .i64 r11.1.n), (.int .i64 r11.1.at_), (sl v13)]) Tryd.underlying51 rfl ti51 (O rfl) (fun _ => (hs.box (i := 3) rfl).part 0 rfl) rfl) rfl <| ?_
  refine WS_store (us := [(.int .i64 r11.1.op), (.int .i64 r11.1.n), (.int .i64 r11.1.at_), (sl v13)]) (vs' := [(.int .i64 r11.1.op), (.int .i64 r11.1.n), (.int .i64 r11.1.at_), (sl v13)]) hs 5 rfl ti51 (O rfl) (O rfl) rfl rfl rfl rfl rfl ?_
  intro w29 hs
  replace hs := Sat.n9 (Γ := Φ) hs rfl
  refine WL_nil <| At_then ?_
  refine WC_ret ?_
  refine At_then_ret <| ?_
  refine At_r1 rfl (ResIs.cA (vs := [(.int .i64 r11.1.op), (.int .i64 r11.1.n), (.int .i64 r11.1.at_), (sl v13)]) rfl Tryd.underlying51 rfl ti51 ((hs.box (i := 5) rfl).part 0 rfl) rfl) ?_
  cases hm
  exact ⟨v13, R14, rfl, (hs.re 9 [4, 0, 1, 2] rfl)⟩
 ·
  replace hm := bif_f hc28 hm
  refine WC_skip ?_
  refine At_then <| WC_seq <| WC_region ?_
  refine Wo (Run_move (O rfl)) rfl <| ?_
  obtain ⟨r30, hr31, hm⟩ := bind_some' hm
  refine WL_call (f := 84) (first := []) (cap := []) (xs := [(.tmp 33)]) (vs := [(.pointer (some ⟨b, 0, none⟩))]) (args := [(.pointer (some ⟨b, 0, none⟩))]) Tryd.call84 Opd.f (.cons (O rfl) .nil) rfl rfl (expr_read_next_s3_ok (hs.re 9 [0, 1, 2, 3, 4, 5, 6, 7, 8] rfl) hr31) ?_
  rintro _ w32 ⟨rfl, hs⟩
  replace hs := Sat.n9 (Γ := Φ) hs rfl
  refine WS_alloc (zs := [(.int .i64 0), (S []), (.int .i64 0), (.int .i64 0)]) hs ti28 rfl rfl ?_
  intro b33 w34 hs
  replace hs := Sat.n10 (Γ := Φ) hs rfl
  refine WS_store (us := [(.int .i64 r30.1), (S r30.2.1), (.int .i64 r30.2.2.1), (.int .i64 r30.2.2.2)]) (vs' := [(.int .i64 r30.1), (S r30.2.1), (.int .i64 r30.2.2.1), (.int .i64 r30.2.2.2)]) hs 0 rfl ti28 (O rfl) (O rfl) rfl rfl rfl rfl rfl ?_
  intro w35 hs
  replace hs := Sat.n10 (Γ := Φ) hs rfl
  refine WL_nil <| At_then <| WC_seq <| WC_region ?_
  refine Wo (Run_move (O rfl)) rfl <| Wo (Run_nilP (O rfl)) rfl <| Wo (Run_fieldAddr fo115_1 (O rfl)) rfl <| Wo (Run_load1 (v := (.int .i64 r11.2.1)) Tryd.underlying3 rfl (O rfl) (fun _ => (hs.box (i := 1) rfl).part 1 rfl)) rfl <| Wo (Run_add (O rfl) Opd.c) rfl <| Wo (Run_nilP (O rfl)) rfl <| Wo (Run_fieldAddr fo115_1 (O rfl)) rfl <| ?_
  refine WS_store (us := [(.int .i64 (IntKind.i64.wrap (r11.2.1 + 1)))]) (vs' := [(sl v4), (.int .i64 (IntKind.i64.wrap (r11.2.1 + 1))), (sl v6), (.int .i64 r11.2.2.1), (.int .i64 r11.2.2.2.1), (.int .i64 r11.2.2.2.2)]) hs 1 rfl ti3 (O rfl) (O rfl) rfl rfl rfl rfl rfl ?_
  intro w36 hs
  replace hs := Sat.n10 (Γ := Φ) hs rfl
  refine WL_nil <| At_then <| WC_seq <| WC_region ?_
  refine Wo (Run_move (O rfl)) rfl <| Wo (Run_move (O rfl)) rfl <| ?_
  obtain ⟨r37, hr38, hm⟩ := bind_some' hm
  refine WL_call (f := 77) (first := []) (cap := []) (xs := [(.tmp 42), (.tmp 43)]) (vs := [(.pointer (some ⟨b, 0, none⟩)), (.func (.func 78) #[] #[])]) (args := [(.pointer (some ⟨b, 0, none⟩)), (.func (.func 78) #[] #[])]) Tryd.call77 Opd.f (.cons (O rfl) (.cons (O rfl) .nil)) rfl rfl (ih_expr_read_lower_s11 (hs.re 10 [1, 2, 3, 8, 9, 0, 4, 5, 6, 7, 8, 9] rfl) hr38) ?_
  rintro _ w41 ⟨v39, R40, rfl, hs⟩
  replace hs := Sat.n11 (Γ := Φ) hs rfl
  refine WS_alloc (zs := [(.int .i64 0), (.int .i64 0), (.int .i64 0), (sl (none, 0, 0))]) hs ti51 rfl rfl ?_
  intro b42 w43 hs
  replace hs := Sat.n12 (Γ := Φ) hs rfl
  refine WS_store (us := [(.int .i64 r37.1.op), (.int .i64 r37.1.n), (.int .i64 r37.1.at_), (sl v39)]) (vs' := [(.int .i64 r37.1.op), (.int .i64 r37.1.n), (.int .i64 r37.1.at_), (sl v39)]) hs 0 rfl ti51 (O rfl) (O rfl) rfl rfl rfl rfl rfl ?_
  intro w44 hs
  replace hs := Sat.n12 (Γ := Φ) hs rfl
  refine WL_nil <| At_then <| WC_seq <| WC_region ?_
  refine Wo (Run_move (O rfl)) rfl <| Wo (Run_fieldAddr fo28_3 (O rfl)) rfl <| Wo (Run_load1 (v := (.int .i64 r30.2.2.2)) Tryd.underlying3 rfl (O rfl) (fun _ => (hs.box (i := 5) rfl).part 3 rfl)) rfl <| Wo (Run_loadA (vs := [(.int .i64 r11.1.op), (.int .i64 r11.1.n), (.int .i64 r11.1.at_), (sl v13)]) Tryd.underlying51 rfl ti51 (O rfl) (fun _ => (hs.box (i := 6) rfl).part 0 rfl) rfl) rfl <| Wo (Run_loadA (vs := [(.int .i64 r37.1.op), (.int .i64 r37.1.n), (.int .i64 r37.1.at_), (sl v39)]) Tryd.underlying51 rfl ti51 (O rfl) (fun _ => (hs.box (i := 0) rfl).part 0 rfl) rfl) rfl <| ?_
  replace hs := hs.freeze (i := 7) rfl
  replace hs := hs.freeze (i := 1) rfl
  refine WS_lit (A := RExpr) (xs := [r11.1, r37.1]) (zs := [(.int .i64 0), (.int .i64 0), (.int .i64 0), (sl (none, 0, 0))]) (cells := [(.int .i64 r11.1.op), (.int .i64 r11.1.n), (.int .i64 r11.1.at_), (sl v13), (.int .i64 r37.1.op), (.int .i64 r37.1.n), (.int .i64 r37.1.at_), (sl v39)]) (parts := [(0, (.tmp 48)), (1, (.tmp 49))]) hs Tryd.underlying49 ti51 rfl rfl rfl (.cons (O rfl) (.cons (O rfl) .nil)) (by kernel_rfl) rfl (ARd.cons (A := RExpr) (c := [(.int .i64 r11.1.op), (.int .i64 r11.1.n), (.int .i64 r11.1.at_), (sl v13)]) (x := r11.1) (RExpr_closeE (⟨_, rfl, (hs.sl (i := 7) rfl)⟩)) (ARd.cons (A := RExpr) (c := [(.int .i64 r37.1.op), (.int .i64 r37.1.n), (.int .i64 r37.1.at_), (sl v39)]) (x := r37.1) (RExpr_closeE (⟨_, rfl, (hs.sl (i := 1) rfl)⟩)) ARd.nil)) rfl ?_
  intro b45 w46 hs
  replace hs := Sat.n13 (Γ := Φ) hs rfl
  refine Wo (Run_build (parts := [(0, (.tmp 45)), (2, (.tmp 47)), (3, (.tmp 50))]) (v := (.agg #[(.int .i64 r19.1), (.int .i64 0), (.int .i64 r30.2.2.2), (sl (some ⟨b45, 0, none⟩, 2, 2))])) (.cons (O rfl) (.cons (O rfl) (.cons (O rfl) .nil))) (fun _ => by kernel_rfl)) rfl <| ?_
  refine WS_store (us := [(.int .i64 r19.1), (.int .i64 0), (.int .i64 r30.2.2.2), (sl (some ⟨b45, 0, none⟩, 2, 2))]) (vs' := [(.int .i64 r19.1), (.int .i64 0), (.int .i64 r30.2.2.2), (sl (some ⟨b45, 0, none⟩, 2, 2))]) hs 9 rfl ti51 (O rfl) (O rfl) rfl rfl rfl rfl rfl ?_
  intro w47 hs
  replace hs := Sat.n13 (Γ := Φ) hs rfl
  refine WL_nil <| At_then ?_
  refine WC_ret ?_
  refine At_r1 rfl (ResIs.cA (vs := [(.int .i64 r19.1), (.int .i64 0), (.int .i64 r30.2.2.2), (sl (some ⟨b45, 0, none⟩, 2, 2))]) rfl Tryd.underlying51 rfl ti51 ((hs.box (i := 9) rfl).part 0 rfl) rfl) ?_
  cases hm
  exact ⟨(some ⟨b45, 0, none⟩, 2, 2), [b45], rfl, (hs.re 13 [0, 3, 4, 5] rfl)⟩
set_option maxRecDepth 100000 in
set_option maxHeartbeats 4000000 in
theorem expr_read_iff_s3_ok {k_expr_read_lower_s11 : ((List (Int × Str × Int × Int)) × Int × (List Str) × Int × Int × Int) → Option (Ex × Int × Int × Int × Int)} (ih_expr_read_lower_s11 : ∀ {Φ : Ctx} {w : World} {l : (List (Int × Str × Int × Int))} {at_ : Int} {names : (List Str)} {deep : Int} {bad : Int} {place : Int} {b : Nat} {v2 : SLV} {R : List Nat} {v4 : SLV} {R5 : List Nat} {r : (Ex × Int × Int × Int × Int)}, Sat (box b 115 [(sl v2), (.int .i64 at_), (sl v4), (.int .i64 deep), (.int .i64 bad), (.int .i64 place)] :: osl (RP (RI .i64) (RP RS (RP (RI .i64) (RI .i64)))) 28 (sl v2) l R :: osl RS 9 (sl v4) names R5 :: gl 0 (keysL.map S) :: gl 1 (textsL.map S) :: Φ) w → k_expr_read_lower_s11 (l, at_, names, deep, bad, place) = some r → CallsR Tryd.prog 77 [(.pointer (some ⟨b, 0, none⟩)), (.func (.func 78) #[] #[])] w (fun v w' => ∃ v3 : SLV, ∃ R4 : List Nat, v = (.agg #[(.int .i64 r.1.op), (.int .i64 r.1.n), (.int .i64 r.1.at_), (sl v3)]) ∧ Sat (osl RExpr 51 (sl v3) r.1.l R4 :: box b 115 [(sl v2), (.int .i64 r.2.1), (sl v4), (.int .i64 r.2.2.1), (.int .i64 r.2.2.2.1), (.int .i64 r.2.2.2.2)] :: osl (RP (RI .i64) (RP RS (RP (RI .i64) (RI .i64)))) 28 (sl v2) l R :: osl RS 9 (sl v4) names R5 :: Φ) w')) {Φ : Ctx} {w : World} {l : (List (Int × Str × Int × Int))} {at_ : Int} {names : (List Str)} {deep : Int} {bad : Int} {place : Int} {b : Nat} {v2 : SLV} {R : List Nat} {v4 : SLV} {R5 : List Nat} {r : (Ex × Int × Int × Int × Int)} (hs : Sat (box b 115 [(sl v2), (.int .i64 at_), (sl v4), (.int .i64 deep), (.int .i64 bad), (.int .i64 place)] :: osl (RP (RI .i64) (RP RS (RP (RI .i64) (RI .i64)))) 28 (sl v2) l R :: osl RS 9 (sl v4) names R5 :: gl 0 (keysL.map S) :: gl 1 (textsL.map S) :: Φ) w) (hm : expr_read_iff_s3 k_expr_read_lower_s11 l at_ names deep bad place = some r) :
  CallsR Tryd.prog 78 [(.pointer (some ⟨b, 0, none⟩))] w (fun v w' => ∃ v3 : SLV, ∃ R4 : List Nat, v = (.agg #[(.int .i64 r.1.op), (.int .i64 r.1.n), (.int .i64 r.1.at_), (sl v3)]) ∧ Sat (osl RExpr 51 (sl v3) r.1.l R4 :: box b 115 [(sl v2), (.int .i64 r.2.1), (sl v4), (.int .i64 r.2.2.1), (.int .i64 r.2.2.2.1), (.int .i64 r.2.2.2.2)] :: osl (RP (RI .i64) (RP RS (RP (RI .i64) (RI .i64)))) 28 (sl v2) l R :: osl RS 9 (sl v4) names R5 :: Φ) w') := by
 refine CallsX_enter Tryd.func78 rfl Tryd.ntmps78 rfl ?_
 unfold expr_read_iff_s3 at hm
 refine WC_seq <| WC_region ?_
 refine WS_alloc (zs := [(.int .i64 0), (.int .i64 0), (.int .i64 0), (sl (none, 0, 0))]) hs ti51 rfl rfl ?_
 intro b9 w10 hs
 replace hs := Sat.n6 (Γ := Φ) hs rfl
 refine WL_nil <| At_then <| WC_seq <| WC_region ?_
 refine Wo (Run_move (O rfl)) rfl <| ?_
 refine WS_lit (A := (RI .i64)) (xs := [19]) (zs := [(.int .i64 0)]) (cells := [(.int .i64 19)]) (parts := [(0, (.const (.int .i64 19)))]) hs Tryd.underlying30 ti3 rfl rfl rfl (.cons Opd.c .nil) (by kernel_rfl) rfl (ARd.cons (A := (RI .i64)) (c := [(.int .i64 19)]) (x := 19) rfl ARd.nil) rfl ?_
 intro b11 w12 hs
 replace hs := Sat.n7 (Γ := Φ) hs rfl
 replace hs := hs.freeze (i := 0) rfl
 obtain ⟨r13, hr14, hm⟩ := bind_some' hm
 refine WL_call (f := 81) (first := []) (cap := []) (xs := [(.tmp 3), (.func 82), (.func 78), (.tmp 4)]) (vs := [(.pointer (some ⟨b, 0, none⟩)), (.func (.func 82) #[] #[]), (.func (.func 78) #[] #[]), (sl (some ⟨b11, 0, none⟩, 1, 1))]) (args := [(.pointer (some ⟨b, 0, none⟩)), (.func (.func 82) #[] #[]), (.func (.func 78) #[] #[]), (sl (some ⟨b11, 0, none⟩, 1, 1))]) Tryd.call81 Opd.f (.cons (O rfl) (.cons Opd.f (.cons Opd.f (.cons (O rfl) .nil)))) rfl rfl (expr_read_right_s7_ok (@ih_expr_read_lower_s11) (hs.re 7 [2, 0, 3, 4, 5, 6, 0, 1, 5, 6] rfl) hr14) ?_
 rintro _ w17 ⟨v15, R16, rfl, hs⟩
 replace hs := Sat.n8 (Γ := Φ) hs rfl
 refine WS_store (us := [(.int .i64 r13.1.op), (.int .i64 r13.1.n), (.int .i64 r13.1.at_), (sl v15)]) (vs' := [(.int .i64 r13.1.op), (.int .i64 r13.1.n), (.int .i64 r13.1.at_), (sl v15)]) hs 5 rfl ti51 (O rfl) (O rfl) rfl rfl rfl rfl rfl ?_
 intro w18 hs
 replace hs := Sat.n8 (Γ := Φ) hs rfl
 refine WL_nil <| At_then ?_
 refine WC_ret ?_
 refine At_r1 rfl (ResIs.cA (vs := [(.int .i64 r13.1.op), (.int .i64 r13.1.n), (.int .i64 r13.1.at_), (sl v15)]) rfl Tryd.underlying51 rfl ti51 ((hs.box (i := 5) rfl).part 0 rfl) rfl) ?_
 cases hm
 exact ⟨v15, R16, rfl, (hs.re 8 [0, 1, 2, 3] rfl)⟩
set_option maxRecDepth 100000 in
set_option maxHeartbeats 4000000 in
theorem expr_read_lower_s11_F_ok {k_expr_read_lower_s11 : ((List (Int × Str × Int × Int)) × Int × (List Str) × Int × Int × Int) → Option (Ex × Int × Int × Int × Int)} (ih_expr_read_lower_s11 : ∀ {Φ : Ctx} {w : World} {l : (List (Int × Str × Int × Int))} {at_ : Int} {names : (List Str)} {deep : Int} {bad : Int} {place : Int} {b : Nat} {v2 : SLV} {R : List Nat} {v4 : SLV} {R5 : List Nat} {r : (Ex × Int × Int × Int × Int)}, Sat (box b 115 [(sl v2), (.int .i64 at_), (sl v4), (.int .i64 deep), (.int .i64 bad), (.int .i64 place)] :: osl (RP (RI .i64) (RP RS (RP (RI .i64) (RI .i64)))) 28 (sl v2) l R :: osl RS 9 (sl v4) names R5 :: gl 0 (keysL.map S) :: gl 1 (textsL.map S) :: Φ) w → k_expr_read_lower_s11 (l, at_, names, deep, bad, place) = some r → CallsR Tryd.prog 77 [(.pointer (some ⟨b, 0, none⟩)), (.func (.func 78) #[] #[])] w (fun v w' => ∃ v3 : SLV, ∃ R4 : List Nat, v = (.agg #[(.int .i64 r.1.op), (.int .i64 r.1.n), (.int .i64 r.1.at_), (sl v3)]) ∧ Sat (osl RExpr 51 (sl v3) r.1.l R4 :: box b 115 [(sl v2), (.int .i64 r.2.1), (sl v4), (.int .i64 r.2.2.1), (.int .i64 r.2.2.2.1), (.int .i64 r.2.2.2.2)] :: osl (RP (RI .i64) (RP RS (RP (RI .i64) (RI .i64)))) 28 (sl v2) l R :: osl RS 9 (sl v4) names R5 :: Φ) w')) {Φ : Ctx} {w : World} {l : (List (Int × Str × Int × Int))} {at_ : Int} {names : (List Str)} {deep : Int} {bad : Int} {place : Int} {b : Nat} {v2 : SLV} {R : List Nat} {v4 : SLV} {R5 : List Nat} {r : (Ex × Int × Int × Int × Int)} (hs : Sat (box b 115 [(sl v2), (.int .i64 at_), (sl v4), (.int .i64 deep), (.int .i64 bad), (.int .i64 place)] :: osl (RP (RI .i64) (RP RS (RP (RI .i64) (RI .i64)))) 28 (sl v2) l R :: osl RS 9 (sl v4) names R5 :: gl 0 (keysL.map S) :: gl 1 (textsL.map S) :: Φ) w) (hm : expr_read_lower_s11_F k_expr_read_lower_s11 l at_ names deep bad place = some r) :
  CallsR Tryd.prog 77 [(.pointer (some ⟨b, 0, none⟩)), (.func (.func 78) #[] #[])] w (fun v w' => ∃ v3 : SLV, ∃ R4 : List Nat, v = (.agg #[(.int .i64 r.1.op), (.int .i64 r.1.n), (.int .i64 r.1.at_), (sl v3)]) ∧ Sat (osl RExpr 51 (sl v3) r.1.l R4 :: box b 115 [(sl v2), (.int .i64 r.2.1), (sl v4), (.int .i64 r.2.2.1), (.int .i64 r.2.2.2.1), (.int .i64 r.2.2.2.2)] :: osl (RP (RI .i64) (RP RS (RP (RI .i64) (RI .i64)))) 28 (sl v2) l R :: osl RS 9 (sl v4) names R5 :: Φ) w') := by
 refine CallsX_enter Tryd.func77 rfl Tryd.ntmps77 rfl ?_
 unfold expr_read_lower_s11_F at hm
 refine WC_seq <| WC_region ?_
 refine WS_alloc (zs := [(.int .i64 0), (.int .i64 0), (.int .i64 0), (sl (none, 0, 0))]) hs ti51 rfl rfl ?_
 intro b9 w10 hs
 replace hs := Sat.n6 (Γ := Φ) hs rfl
 refine WL_nil <| At_then <| WC_seq <| WC_seq <| WC_region ?_
 refine Wo (Run_move (O rfl)) rfl <| Wo (Run_nilP (O rfl)) rfl <| Wo (Run_fieldAddr fo115_3 (O rfl)) rfl <| Wo (Run_load1 (v := (.int .i64 deep)) Tryd.underlying3 rfl (O rfl) (fun _ => (hs.box (i := 1) rfl).part 3 rfl)) rfl <| Wo (Run_geI (O rfl) Opd.c) rfl <| ?_
 refine WL_nil <| At_then ?_
 refine WC_cond (O rfl) (fun hc11 => ?_) (fun hc11 => ?_)
 ·
  replace hm := bif_t hc11 hm
  refine WC_seq <| WC_region ?_
  refine Wo (Run_move (O rfl)) rfl <| ?_
  obtain ⟨r12, hr13, hm⟩ := bind_some' hm
  refine WL_call (f := 80) (first := []) (cap := []) (xs := [(.tmp 11), (.const (.int .i64 9))]) (vs := [(.pointer (some ⟨b, 0, none⟩)), (.int .i64 9)]) (args := [(.pointer (some ⟨b, 0, none⟩)), (.int .i64 9)]) Tryd.call80 Opd.f (.cons (O rfl) (.cons Opd.c .nil)) rfl rfl (expr_read_fail_s3_ok (hs.re 6 [1, 2, 3, 0, 4, 5] rfl) hr13) ?_
  rintro _ w16 ⟨v14, R15, rfl, hs⟩
  replace hs := Sat.n7 (Γ := Φ) hs rfl
  refine WS_store (us := [(.int .i64 r12.1.op), (.int .i64 r12.1.n), (.int .i64 r12.1.at_), (sl v14)]) (vs' := [(.int .i64 r12.1.op), (.int .i64 r12.1.n), (.int .i64 r12.1.at_), (sl v14)]) hs 4 rfl ti51 (O rfl) (O rfl) rfl rfl rfl rfl rfl ?_
  intro w17 hs
  replace hs := Sat.n7 (Γ := Φ) hs rfl
  refine WL_nil <| At_then ?_
  refine WC_ret ?_
  refine At_then_ret <| ?_
  refine At_r1 rfl (ResIs.cA (vs := [(.int .i64 r12.1.op), (.int .i64 r12.1.n), (.int .i64 r12.1.at_), (sl v14)]) rfl Tryd.underlying51 rfl ti51 ((hs.box (i := 4) rfl).part 0 rfl) rfl) ?_
  cases hm
  exact ⟨v14, R15, rfl, (hs.re 7 [0, 1, 2, 3] rfl)⟩
 ·
  replace hm := bif_f hc11 hm
  refine WC_skip ?_
  refine At_then <| WC_seq <| WC_region ?_
  refine Wo (Run_move (O rfl)) rfl <| Wo (Run_nilP (O rfl)) rfl <| Wo (Run_fieldAddr fo115_3 (O rfl)) rfl <| Wo (Run_load1 (v := (.int .i64 deep)) Tryd.underlying3 rfl (O rfl) (fun _ => (hs.box (i := 1) rfl).part 3 rfl)) rfl <| Wo (Run_add (O rfl) Opd.c) rfl <| Wo (Run_nilP (O rfl)) rfl <| Wo (Run_fieldAddr fo115_3 (O rfl)) rfl <| ?_
  refine WS_store (us := [(.int .i64 (IntKind.i64.wrap (deep + 1)))]) (vs' := [(sl v2), (.int .i64 at_), (sl v4), (.int .i64 (IntKind.i64.wrap (deep + 1))), (.int .i64 bad), (.int .i64 place)]) hs 1 rfl ti3 (O rfl) (O rfl) rfl rfl rfl rfl rfl ?_
  intro w18 hs
  replace hs := Sat.n6 (Γ := Φ) hs rfl
  refine WL_nil <| At_then <| WC_seq <| WC_region ?_
  refine Wo (Run_move (O rfl)) rfl <| Wo (Run_move (O rfl)) rfl <| ?_
  obtain ⟨r19, hr20, hm⟩ := bind_some' hm
  refine WL_call (f := 78) (first := []) (cap := []) (xs := [(.tmp 21)]) (vs := [(.pointer (some ⟨b, 0, none⟩))]) (args := [(.pointer (some ⟨b, 0, none⟩))]) Tryd.call78 (O rfl) (.cons (O rfl) .nil) rfl rfl (expr_read_iff_s3_ok (@ih_expr_read_lower_s11) (hs.re 6 [1, 2, 3, 4, 5, 0, 4, 5] rfl) hr20) ?_
  rintro _ w23 ⟨v21, R22, rfl, hs⟩
  replace hs := Sat.n7 (Γ := Φ) hs rfl
  refine WS_alloc (zs := [(.int .i64 0), (.int .i64 0), (.int .i64 0), (sl (none, 0, 0))]) hs ti51 rfl rfl ?_
  intro b24 w25 hs
  replace hs := Sat.n8 (Γ := Φ) hs rfl
  refine WS_store (us := [(.int .i64 r19.1.op), (.int .i64 r19.1.n), (.int .i64 r19.1.at_), (sl v21)]) (vs' := [(.int .i64 r19.1.op), (.int .i64 r19.1.n), (.int .i64 r19.1.at_), (sl v21)]) hs 0 rfl ti51 (O rfl) (O rfl) rfl rfl rfl rfl rfl ?_
  intro w26 hs
  replace hs := Sat.n8 (Γ := Φ) hs rfl
  refine WL_nil <| At_then <| WC_seq <| WC_region ?_
  refine Wo (Run_move (O rfl)) rfl <| Wo (Run_nilP (O rfl)) rfl <| Wo (Run_fieldAddr fo115_3 (O rfl)) rfl <| Wo (Run_load1 (v := (.int .i64 r19.2.2.1)) Tryd.underlying3 rfl (O rfl) (fun _ => (hs.box (i := 2) rfl).part 3 rfl)) rfl <| Wo (Run_sub (O rfl) Opd.c) rfl <| Wo (Run_nilP (O rfl)) rfl <| Wo (Run_fieldAddr fo115_3 (O rfl)) rfl <| ?_
  refine WS_store (us := [(.int .i64 (IntKind.i64.wrap (r19.2.2.1 - 1)))]) (vs' := [(sl v2), (.int .i64 r19.2.1), (sl v4), (.int .i64 (IntKind.i64.wrap (r19.2.2.1 - 1))), (.int .i64 r19.2.2.2.1), (.int .i64 r19.2.2.2.2)]) hs 2 rfl ti3 (O rfl) (O rfl) rfl rfl rfl rfl rfl ?_
  intro w27 hs
  replace hs := Sat.n8 (Γ := Φ) hs rfl
  refine WL_nil <| At_then <| WC_seq <| WC_region ?_
  refine Wo (Run_loadA (vs := [(.int .i64 r19.1.op), (.int .i64 r19.1.n), (.int .i64 r19.1.at_), (sl v21)]) Tryd.underlying51 rfl ti51 (O rfl) (fun _ => (hs.box (i := 0) rfl).part 0 rfl) rfl) rfl <| ?_
  refine WS_store (us := [(.int .i64 r19.1.op), (.int .i64 r19.1.n), (.int .i64 r19.1.at_), (sl v21)]) (vs' := [(.int .i64 r19.1.op), (.int .i64 r19.1.n), (.int .i64 r19.1.at_), (sl v21)]) hs 5 rfl ti51 (O rfl) (O rfl) rfl rfl rfl rfl rfl ?_
  intro w28 hs
  replace hs := Sat.n8 (Γ := Φ) hs rfl
  refine WL_nil <| At_then ?_
  refine WC_ret ?_
  refine At_r1 rfl (ResIs.cA (vs := [(.int .i64 r19.1.op), (.int .i64 r19.1.n), (.int .i64 r19.1.at_), (sl v21)]) rfl Tryd.underlying51 rfl ti51 ((hs.box (i := 5) rfl).part 0 rfl) rfl) ?_
  cases hm
  exact ⟨v21, R22, rfl, (hs.re 8 [1, 2, 3, 4] rfl)⟩
set_option maxRecDepth 100000 in
set_option maxHeartbeats 4000000 in
theorem expr_read_lower_s11_ok {Φ : Ctx} {w : World} {l : (List (Int × Str × Int × Int))} {at_ : Int} {names : (List Str)} {deep : Int} {bad : Int} {place : Int} {b : Nat} {v2 : SLV} {R : List Nat} {v4 : SLV} {R5 : List Nat} {r : (Ex × Int × Int × Int × Int)} (hs : Sat (box b 115 [(sl v2), (.int .i64 at_), (sl v4), (.int .i64 deep), (.int .i64 bad), (.int .i64 place)] :: osl (RP (RI .i64) (RP RS (RP (RI .i64) (RI .i64)))) 28 (sl v2) l R :: osl RS 9 (sl v4) names R5 :: gl 0 (keysL.map S) :: gl 1 (textsL.map S) :: Φ) w) (hm : expr_read_lower_s11 l at_ names deep bad place = some r) :
  CallsR Tryd.prog 77 [(.pointer (some ⟨b, 0, none⟩)), (.func (.func 78) #[] #[])] w (fun v w' => ∃ v3 : SLV, ∃ R4 : List Nat, v = (.agg #[(.int .i64 r.1.op), (.int .i64 r.1.n), (.int .i64 r.1.at_), (sl v3)]) ∧ Sat (osl RExpr 51 (sl v3) r.1.l R4 :: box b 115 [(sl v2), (.int .i64 r.2.1), (sl v4), (.int .i64 r.2.2.1), (.int .i64 r.2.2.2.1), (.int .i64 r.2.2.2.2)] :: osl (RP (RI .i64) (RP RS (RP (RI .i64) (RI .i64)))) 28 (sl v2) l R :: osl RS 9 (sl v4) names R5 :: Φ) w') := by
 have key : ∀ (N : Nat) {Φ : Ctx} {w : World} {l : (List (Int × Str × Int × Int))} {at_ : Int} {names : (List Str)} {deep : Int} {bad : Int} {place : Int} {b : Nat} {v2 : SLV} {R : List Nat} {v4 : SLV} {R5 : List Nat} {r : (Ex × Int × Int × Int × Int)}, Sat (box b 115 [(sl v2), (.int .i64 at_), (sl v4), (.int .i64 deep), (.int .i64 bad), (.int .i64 place)] :: osl (RP (RI .i64) (RP RS (RP (RI .i64) (RI .i64)))) 28 (sl v2) l R :: osl RS 9 (sl v4) names R5 :: gl 0 (keysL.map S) :: gl 1 (textsL.map S) :: Φ) w → fixN (fun k (s : ((List (Int × Str × Int × Int)) × Int × (List Str) × Int × Int × Int)) => expr_read_lower_s11_F k s.1 s.2.1 s.2.2.1 s.2.2.2.1 s.2.2.2.2.1 s.2.2.2.2.2) N (l, at_, names, deep, bad, place) = some r → CallsR Tryd.prog 77 [(.pointer (some ⟨b, 0, none⟩)), (.func (.func 78) #[] #[])] w (fun v w' => ∃ v3 : SLV, ∃ R4 : List Nat, v = (.agg #[(.int .i64 r.1.op), (.int .i64 r.1.n), (.int .i64 r.1.at_), (sl v3)]) ∧ Sat (osl RExpr 51 (sl v3) r.1.l R4 :: box b 115 [(sl v2), (.int .i64 r.2.1), (sl v4), (.int .i64 r.2.2.1), (.int .i64 r.2.2.2.1), (.int .i64 r.2.2.2.2)] :: osl (RP (RI .i64) (RP RS (RP (RI .i64) (RI .i64)))) 28 (sl v2) l R :: osl RS 9 (sl v4) names R5 :: Φ) w') := by
  intro N
  induction N with
  | zero => intros; rename_i h; cases h
  | succ N ih => intros; rename_i hs hm; rw [fixN_succ] at hm; exact expr_read_lower_s11_F_ok (@ih) hs hm
 unfold expr_read_lower_s11 at hm
 exact key FUEL hs hm
set_option maxRecDepth 100000 in
set_option maxHeartbeats 4000000 in
theorem expr_Parse_s3_ok {Φ : Ctx} {w : World} {l : (List (Int × Str × Int × Int))} {at_ : Int} {names : (List Str)} {v1 : SLV} {R : List Nat} {v3 : SLV} {R4 : List Nat} {r : (Ex × Int × Int × Int)} (hs : Sat (osl (RP (RI .i64) (RP RS (RP (RI .i64) (RI .i64)))) 28 (sl v1) l R :: osl RS 9 (sl v3) names R4 :: gl 0 (keysL.map S) :: gl 1 (textsL.map S) :: Φ) w) (hm : expr_Parse_s3 l at_ names = some r) :
  CallsR Tryd.prog 72 [(sl v1), (.int .i64 at_), (sl v3)] w (fun v w' => ∃ v4 : SLV, ∃ R5 : List Nat, v = (.tuple #[(.agg #[(.int .i64 r.1.op), (.int .i64 r.1.n), (.int .i64 r.1.at_), (sl v4)]), (.int .i64 r.2.1), (.int .i64 r.2.2.1), (.int .i64 r.2.2.2)]) ∧ Sat (osl RExpr 51 (sl v4) r.1.l R5 :: osl (RP (RI .i64) (RP RS (RP (RI .i64) (RI .i64)))) 28 (sl v1) l R :: osl RS 9 (sl v3) names R4 :: Φ) w') := by
 refine CallsX_enter Tryd.func72 rfl Tryd.ntmps72 rfl ?_
 unfold expr_Parse_s3 at hm
 refine WC_seq <| WC_region ?_
 refine WS_alloc (zs := [(.int .i64 0), (.int .i64 0), (.int .i64 0), (sl (none, 0, 0))]) hs ti51 rfl rfl ?_
 intro b9 w10 hs
 replace hs := Sat.n5 (Γ := Φ) hs rfl
 refine Wo (Run_assign Opd.c) rfl <| Wo (Run_assign Opd.c) rfl <| Wo (Run_assign Opd.c) rfl <| ?_
 refine WL_nil <| At_then <| WC_seq <| WC_region ?_
 refine Wo (Run_move (O rfl)) rfl <| Wo (Run_move (O rfl)) rfl <| Wo (Run_move (O rfl)) rfl <| Wo (Run_build (parts := [(0, (.tmp 12)), (1, (.tmp 13)), (2, (.tmp 14))]) (v := (.agg #[(sl v1), (.int .i64 at_), (sl v3), (.int .i64 0), (.int .i64 0), (.int .i64 0)])) (.cons (O rfl) (.cons (O rfl) (.cons (O rfl) .nil))) (fun _ => by kernel_rfl)) rfl <| ?_
 refine WS_box (zs := [(sl v1), (.int .i64 at_), (sl v3), (.int .i64 0), (.int .i64 0), (.int .i64 0)]) hs (O rfl) rfl rfl ?_
 intro b11 w12 hs
 replace hs := Sat.n6 (Γ := Φ) hs rfl
 refine Wo (Run_assign (O rfl)) rfl <| ?_
 refine WL_nil <| At_then <| WC_seq <| WC_region ?_
 refine Wo (Run_move (O rfl)) rfl <| ?_
 obtain ⟨r13, hr14, hm⟩ := bind_some' hm
 refine WL_call (f := 77) (first := []) (cap := []) (xs := [(.tmp 17), (.func 78)]) (vs := [(.pointer (some ⟨b11, 0, none⟩)), (.func (.func 78) #[] #[])]) (args := [(.pointer (some ⟨b11, 0, none⟩)), (.func (.func 78) #[] #[])]) Tryd.call77 Opd.f (.cons (O rfl) (.cons Opd.f .nil)) rfl rfl (expr_read_lower_s11_ok (hs.re 6 [0, 2, 3, 4, 5, 1, 4, 5] rfl) hr14) ?_
 rintro _ w17 ⟨v15, R16, rfl, hs⟩
 replace hs := Sat.n7 (Γ := Φ) hs rfl
 refine WS_alloc (zs := [(.int .i64 0), (.int .i64 0), (.int .i64 0), (sl (none, 0, 0))]) hs ti51 rfl rfl ?_
 intro b18 w19 hs
 replace hs := Sat.n8 (Γ := Φ) hs rfl
 refine WS_store (us := [(.int .i64 r13.1.op), (.int .i64 r13.1.n), (.int .i64 r13.1.at_), (sl v15)]) (vs' := [(.int .i64 r13.1.op), (.int .i64 r13.1.n), (.int .i64 r13.1.at_), (sl v15)]) hs 0 rfl ti51 (O rfl) (O rfl) rfl rfl rfl rfl rfl ?_
 intro w20 hs
 replace hs := Sat.n8 (Γ := Φ) hs rfl
 refine WL_nil <| At_then <| WC_seq <| WC_seq <| WC_region ?_
 refine Wo (Run_move (O rfl)) rfl <| Wo (Run_nilP (O rfl)) rfl <| Wo (Run_fieldAddr fo115_4 (O rfl)) rfl <| Wo (Run_load1 (v := (.int .i64 r13.2.2.2.1)) Tryd.underlying34 rfl (O rfl) (fun _ => (hs.box (i := 2) rfl).part 4 rfl)) rfl <| Wo (Run_neI (O rfl) Opd.c) rfl <| ?_
 refine WL_nil <| At_then ?_
 refine WC_cond (O rfl) (fun hc21 => ?_) (fun hc21 => ?_)
 ·
  replace hm := bif_t hc21 hm
  refine WC_seq ?_
  refine WC_region_mixed [0, 0, 2, 4, 8, 0, 32, 64, 128, 1, 513, 1567, 4095] (.q 0 0 (.q 1 1 (.q 2 3 (.q 3 7 (.q 4 15 (.q 5 31 (.q 6 63 (.q 7 127 (.q 8 255 (.l 9 511 (.q 10 1023 (.q 11 2047 (.q 12 4095 .nil))))))))))))) (by kernel_rfl) (by kernel_rfl) ?_
  intro w22 hx23
  replace hs := hs.ext hx23
  refine WD_pure (fun _ => (Run_build (parts := []) (v := (.agg #[(.int .i64 0), (.int .i64 0), (.int .i64 0), (sl (none, 0, 0))])) .nil (fun _ => by kernel_rfl))) rfl rfl rfl rfl <| WD_pure (fun _ => (Run_move (O rfl))) rfl rfl rfl rfl <| WD_pure (fun _ => (Run_nilP (O rfl))) rfl rfl rfl rfl <| WD_pure (fun _ => (Run_fieldAddr fo115_4 (O rfl))) rfl rfl rfl rfl <| WD_op (fun w => CellsAt w ⟨b11, 4, none⟩ [(.int .i64 r13.2.2.2.1)]) ((hs.box (i := 2) rfl).part 4 rfl) (fun _ hJ => (Run_load1 (v := (.int .i64 r13.2.2.2.1)) Tryd.underlying34 rfl (O rfl) (fun _ => hJ))) rfl rfl rfl rfl <| WD_pure (fun _ => (Run_move (O rfl))) rfl rfl rfl rfl <| WD_pure (fun _ => (Run_nilP (O rfl))) rfl rfl rfl rfl <| WD_pure (fun _ => (Run_fieldAddr fo115_5 (O rfl))) rfl rfl rfl rfl <| ?_
  refine WD_op (fun w => CellsAt w ⟨b11, 5, none⟩ [(.int .i64 r13.2.2.2.2)]) ((hs.box (i := 2) rfl).part 5 rfl) (fun _ hJ => (Run_load1 (v := (.int .i64 r13.2.2.2.2)) Tryd.underlying3 rfl (O rfl) (fun _ => hJ))) rfl rfl rfl rfl <| ?_
  refine WD_loud (pend' := [(8, fun w => CellsAt w ⟨b11, 5, none⟩ [(.int .i64 r13.2.2.2.2)]), (4, fun w => CellsAt w ⟨b11, 4, none⟩ [(.int .i64 r13.2.2.2.1)])]) rfl (by kernel_rfl) ?_
  refine WS_store (us := [(.int .i64 0), (.int .i64 0), (.int .i64 0), (sl (none, 0, 0))]) (vs' := [(.int .i64 0), (.int .i64 0), (.int .i64 0), (sl (none, 0, 0))]) hs 5 rfl ti51 (O rfl) (O rfl) rfl rfl rfl rfl rfl ?_
  intro w24 hs
  replace hs := Sat.n8 (Γ := Φ) hs rfl
  refine WL_nil ?_
  refine At_QK (allJ_cons ((hs.box (i := 2) rfl).part 5 rfl) (allJ_cons ((hs.box (i := 2) rfl).part 4 rfl) allJ_nil)) ?_
  refine WD_pure (fun _ => (Run_assign Opd.c)) rfl rfl rfl rfl <| WD_pure (fun _ => (Run_assign (O rfl))) rfl rfl rfl rfl <| WD_pure (fun _ => (Run_assign (O rfl))) rfl rfl rfl rfl <| ?_
  refine WD_nil ?_
  refine At_then ?_
  refine WC_ret ?_
  refine At_then_ret <| ?_
  refine At_r4 rfl (ResIs.cA (vs := [(.int .i64 0), (.int .i64 0), (.int .i64 0), (sl (none, 0, 0))]) rfl Tryd.underlying51 rfl ti51 ((hs.box (i := 5) rfl).part 0 rfl) rfl) (ResIs.t rfl) (ResIs.t rfl) (ResIs.t rfl) ?_
  replace hs := hs.addNil RExpr 51
  cases hm
  exact ⟨(none, 0, 0), [], rfl, (hs.re 9 [0, 4, 5] rfl)⟩
 ·
  replace hm := bif_f hc21 hm
  refine WC_skip ?_
  refine At_then <| WC_seq ?_
  refine WC_region_mixed [0, 0, 2, 4, 8, 1, 63, 127, 255] (.q 0 0 (.q 1 1 (.q 2 3 (.q 3 7 (.q 4 15 (.l 5 31 (.q 6 63 (.q 7 127 (.q 8 255 .nil))))))))) (by kernel_rfl) (by kernel_rfl) ?_
  intro w25 hx26
  replace hs := hs.ext hx26
  refine WD_op (fun w => CellsAt w ⟨b18, 0, none⟩ [(.int .i64 r13.1.op), (.int .i64 r13.1.n), (.int .i64 r13.1.at_), (sl v15)]) ((hs.box (i := 0) rfl).part 0 rfl) (fun _ hJ => (Run_loadA (vs := [(.int .i64 r13.1.op), (.int .i64 r13.1.n), (.int .i64 r13.1.at_), (sl v15)]) Tryd.underlying51 rfl ti51 (O rfl) (fun _ => hJ) rfl)) rfl rfl rfl rfl <| WD_pure (fun _ => (Run_move (O rfl))) rfl rfl rfl rfl <| WD_pure (fun _ => (Run_nilP (O rfl))) rfl rfl rfl rfl <| WD_pure (fun _ => (Run_fieldAddr fo115_1 (O rfl))) rfl rfl rfl rfl <| WD_op (fun w => CellsAt w ⟨b11, 1, none⟩ [(.int .i64 r13.2.1)]) ((hs.box (i := 2) rfl).part 1 rfl) (fun _ hJ => (Run_load1 (v := (.int .i64 r13.2.1)) Tryd.underlying3 rfl (O rfl) (fun _ => hJ))) rfl rfl rfl rfl <| ?_
  refine WD_loud (pend' := [(4, fun w => CellsAt w ⟨b11, 1, none⟩ [(.int .i64 r13.2.1)])]) rfl (by kernel_rfl) ?_
  refine WS_store (us := [(.int .i64 r13.1.op), (.int .i64 r13.1.n), (.int .i64 r13.1.at_), (sl v15)]) (vs' := [(.int .i64 r13.1.op), (.int .i64 r13.1.n), (.int .i64 r13.1.at_), (sl v15)]) hs 5 rfl ti51 (O rfl) (O rfl) rfl rfl rfl rfl rfl ?_
  intro w27 hs
  replace hs := Sat.n8 (Γ := Φ) hs rfl
  refine WL_nil ?_
  refine At_QK (allJ_cons ((hs.box (i := 2) rfl).part 1 rfl) allJ_nil) ?_
  refine WD_pure (fun _ => (Run_assign (O rfl))) rfl rfl rfl rfl <| WD_pure (fun _ => (Run_assign Opd.c)) rfl rfl rfl rfl <| WD_pure (fun _ => (Run_assign Opd.c)) rfl rfl rfl rfl <| ?_
  refine WD_nil ?_
  refine At_then ?_
  refine WC_ret ?_
  refine At_r4 rfl (ResIs.cA (vs := [(.int .i64 r13.1.op), (.int .i64 r13.1.n), (.int .i64 r13.1.at_), (sl v15)]) rfl Tryd.underlying51 rfl ti51 ((hs.box (i := 5) rfl).part 0 rfl) rfl) (ResIs.t rfl) (ResIs.t rfl) (ResIs.t rfl) ?_
  cases hm
  exact ⟨v15, R16, rfl, (hs.re 8 [1, 3, 4] rfl)⟩
end Go.Proofs.YtdhgpnejphlfpaaDoor
namespace Go.Proofs.YtdhgpnejphlfpaaDoor
open Go.Proofs
set_option maxRecDepth 100000 in
set_option maxHeartbeats 4000000 in
theorem expr_Type_F_ok {k_expr_Type : Ex → Option (Int × Int × Int)} (ih_expr_Type : ∀ {Φ : Ctx} {w : World} {e : Ex} {v1 : SLV} {r : (Int × Int × Int)}, Sat (imm (RSl RExpr) [sl v1] e.l :: Φ) w → k_expr_Type e = some r → CallsR Tryd.prog 73 [(.agg #[(.int .i64 e.op), (.int .i64 e.n), (.int .i64 e.at_), (sl v1)])] w (fun v w' => v = (.tuple #[(.int .i64 r.1), (.int .i64 r.2.1), (.int .i64 r.2.2)]) ∧ Sat (Φ) w')) {Φ : Ctx} {w : World} {e : Ex} {v1 : SLV} {r : (Int × Int × Int)} (hs : Sat (imm (RSl RExpr) [sl v1] e.l :: Φ) w) (hm : expr_Type_F k_expr_Type e = some r) :
  CallsR Tryd.prog 73 [(.agg #[(.int .i64 e.op), (.int .i64 e.n), (.int .i64 e.at_), (sl v1)])] w (fun v w' => v = (.tuple #[(.int .i64 r.1), (.int .i64 r.2.1), (.int .i64 r.2.2)]) ∧ Sat (Φ) w') := by
 refine CallsX_enter Tryd.func73 rfl Tryd.ntmps73 rfl ?_
 unfold expr_Type_F at hm
 refine WC_seq <| WC_region ?_
 refine WS_box (zs := [(.int .i64 e.op), (.int .i64 e.n), (.int .i64 e.at_), (sl v1)]) hs (O rfl) rfl rfl ?_
 intro b5 w6 hs
 replace hs := Sat.n2 (Γ := Φ) hs rfl
 refine Wo (Run_assign Opd.c) rfl <| Wo (Run_assign Opd.c) rfl <| Wo (Run_assign Opd.c) rfl <| ?_
 refine WL_nil <| At_then <| WC_seq <| WC_region ?_
 refine Wo (Run_assign Opd.c) rfl <| Wo (Run_assign Opd.c) rfl <| Wo (Run_assign Opd.c) rfl <| ?_
 refine WL_nil <| At_then <| WC_seq <| WC_seq <| WC_region ?_
 refine Wo (Run_fieldAddr fo51_3 (O rfl)) rfl <| Wo (Run_load1 (v := (sl v1)) Tryd.underlying49 rfl (O rfl) (fun _ => (hs.box (i := 0) rfl).part 3 rfl)) rfl <| Wo (Run_lenSlG Tryd.underlying49 (O rfl) (fun hg => (hs.sl (i := 1) rfl).len)) rfl <| Wo (Run_move Opd.c) rfl <| ?_
 refine WL_nil <| At_then ?_
 refine WC_block ?_
 refine WC_loop (σ := Bool × Bool × Bool × Int) (γ := Unit) (F := (expr_Type_L1 k_expr_Type e)) (N := FUEL) (s0 := (true, true, true, 0)) (r := r) (fun ⟨ints8, bools9, times10, t11⟩ (_ : Unit) w7 => Sat (box b5 51 [(.int .i64 e.op), (.int .i64 e.n), (.int .i64 e.at_), (sl v1)] :: imm (RSl RExpr) [sl v1] e.l :: Φ) w7) (fun ⟨ints8, bools9, times10, t11⟩ (_ : Unit) => [(1, true, (.pointer (some ⟨b5, 0, none⟩))), (5, true, (.bool ints8)), (6, true, (.bool bools9)), (7, true, (.bool times10)), (14, true, (sl v1)), (15, true, (.int .i64 (List.length e.l : Int))), (16, true, (.int .i64 t11))]) hm () (hs.re 2 [0, 1] rfl) rfl ?_
 rintro again12 ⟨ints8, bools9, times10, t11⟩ _ w7 hm hs
 unfold expr_Type_L1 at hm
 dsimp only at hm
 refine WC_seq <| WC_region ?_
 refine Wo (Run_ltI (O rfl) (O rfl)) rfl <| ?_
 refine WL_nil <| At_then <| WC_seq ?_
 refine WC_cond (O rfl) (fun hc13 => ?_) (fun hc13 => ?_)
 ·
  replace hm := bif_t hc13 hm
  refine WC_skip ?_
  refine At_then <| WC_seq ?_
  refine WC_block ?_
  refine WC_seq <| WC_region ?_
  obtain ⟨e14, he15, hm⟩ := bind_some' hm
  obtain ⟨v16, hC17, hN18, hR19⟩ := cellsM51 (g := true) (fun hg => (hs.sl (i := 1) rfl)) (fun hg => he15)
  replace hs := hs.addL [elem true (elA (sl v1) t11 4) [(.int .i64 e14.op), (.int .i64 e14.n), (.int .i64 e14.at_), (sl v16)], imm (RSl RExpr) [sl v16] e14.l] rfl ⟨fun hg => ⟨hN18 hg, hC17 hg⟩, ⟨_, rfl, hR19 rfl⟩, trivial⟩
  replace hs := Sat.n4 (Γ := Φ) hs rfl
  refine Wo (Run_idxAddr (p := (elA (sl v1) t11 4)) Tryd.underlying49 ti51 (O rfl) (O rfl) (fun hg => (SRd.atA (A := RExpr) (v := (sl v1)) (hs.sl (i := 3) rfl) he15).1)) rfl <| Wo (Run_loadA (vs := [(.int .i64 e14.op), (.int .i64 e14.n), (.int .i64 e14.at_), (sl v16)]) Tryd.underlying51 rfl ti51 (O rfl) (fun hg => ((hs.elem (i := 0) rfl) hg).sub 0 rfl) rfl) rfl <| ?_
  refine WS_alloc (zs := [(.int .i64 0), (.int .i64 0), (.int .i64 0), (sl (none, 0, 0))]) hs ti51 rfl rfl ?_
  intro b20 w21 hs
  replace hs := Sat.n5 (Γ := Φ) hs rfl
  refine WS_store (us := [(.int .i64 e14.op), (.int .i64 e14.n), (.int .i64 e14.at_), (sl v16)]) (vs' := [(.int .i64 e14.op), (.int .i64 e14.n), (.int .i64 e14.at_), (sl v16)]) hs 0 rfl ti51 (O rfl) (O rfl) rfl rfl rfl rfl rfl ?_
  intro w22 hs
  replace hs := Sat.n5 (Γ := Φ) hs rfl
  refine WL_nil <| At_then <| WC_seq <| WC_region ?_
  refine Wo (Run_loadA (vs := [(.int .i64 e14.op), (.int .i64 e14.n), (.int .i64 e14.at_), (sl v16)]) Tryd.underlying51 rfl ti51 (O rfl) (fun _ => (hs.box (i := 0) rfl).part 0 rfl) rfl) rfl <| ?_
  obtain ⟨r23, hr24, hm⟩ := bind_some' hm
  refine WL_call (f := 73) (first := []) (cap := []) (xs := [(.tmp 21)]) (vs := [(.agg #[(.int .i64 e14.op), (.int .i64 e14.n), (.int .i64 e14.at_), (sl v16)])]) (args := [(.agg #[(.int .i64 e14.op), (.int .i64 e14.n), (.int .i64 e14.at_), (sl v16)])]) Tryd.call73 Opd.f (.cons (O rfl) .nil) rfl rfl (ih_expr_Type (hs.re 5 [2, 0, 1, 2, 3, 4] rfl) hr24) ?_
  rintro _ w25 ⟨rfl, hs⟩
  replace hs := Sat.n5 (Γ := Φ) hs rfl
  refine Wo (Run_move (O rfl)) rfl <| Wo (Run_extract (vs := [(.int .i64 r23.1), (.int .i64 r23.2.1), (.int .i64 r23.2.2)]) (O rfl) rfl) rfl <| Wo (Run_extract (vs := [(.int .i64 r23.1), (.int .i64 r23.2.1), (.int .i64 r23.2.2)]) (O rfl) rfl) rfl <| Wo (Run_extract (vs := [(.int .i64 r23.1), (.int .i64 r23.2.1), (.int .i64 r23.2.2)]) (O rfl) rfl) rfl <| Wo (Run_assign (O rfl)) rfl <| Wo (Run_assign (O rfl)) rfl <| Wo (Run_assign (O rfl)) rfl <| ?_
  refine WL_nil <| At_then <| WC_seq <| WC_seq <| WC_region ?_
  refine Wo (Run_move (O rfl)) rfl <| Wo (Run_neI (O rfl) Opd.c) rfl <| ?_
  refine WL_nil <| At_then ?_
  refine WC_cond (O rfl) (fun hc26 => ?_) (fun hc26 => ?_)
  ·
   replace hm := bif_t hc26 hm
   refine WC_seq <| WC_region ?_
   refine Wo (Run_move (O rfl)) rfl <| Wo (Run_move (O rfl)) rfl <| Wo (Run_assign Opd.c) rfl <| Wo (Run_assign (O rfl)) rfl <| Wo (Run_assign (O rfl)) rfl <| ?_
   refine WL_nil <| At_then ?_
   refine WC_ret ?_
   refine At_then_ret <| At_blk_ret <| At_then_ret <| At_then_ret <| At_blk_ret <| At_then_ret <| ?_
   refine At_r3 rfl (ResIs.t rfl) (ResIs.t rfl) (ResIs.t rfl) ?_
   cases hm
   exact ⟨rfl, (hs.re 5 [] rfl)⟩
  ·
   replace hm := bif_f hc26 hm
   refine WC_skip ?_
   refine At_then <| WC_seq <| WC_region ?_
   refine Wo (Run_move (O rfl)) rfl <| Wo (Run_move (O rfl)) rfl <| WL_opG rfl rfl rfl rfl guard_pos (Run_move (O rfl)) rfl rfl rfl <| ?_
   obtain ⟨b27, e28, hm⟩ := letv_some hm
   refine WL_opG rfl rfl rfl rfl guard_pos (Run.eqB (Run_eqI (Opd.g rfl id) Opd.c) e28) rfl rfl rfl <| ?_
   obtain ⟨b29, e30, hm⟩ := letv_some hm
   refine Wo (Run.eqB (Run_and (O rfl) (Opd.g rfl id)) e30) rfl <| Wo (Run_assign (O rfl)) rfl <| ?_
   refine WL_nil <| At_then <| WC_seq <| WC_region ?_
   refine Wo (Run_move (O rfl)) rfl <| Wo (Run_move (O rfl)) rfl <| WL_opG rfl rfl rfl rfl guard_pos (Run_move (O rfl)) rfl rfl rfl <| ?_
   obtain ⟨b31, e32, hm⟩ := letv_some hm
   refine WL_opG rfl rfl rfl rfl guard_pos (Run.eqB (Run_eqI (Opd.g rfl id) Opd.c) e32) rfl rfl rfl <| ?_
   obtain ⟨b33, e34, hm⟩ := letv_some hm
   refine Wo (Run.eqB (Run_and (O rfl) (Opd.g rfl id)) e34) rfl <| Wo (Run_assign (O rfl)) rfl <| ?_
   refine WL_nil <| At_then <| WC_region ?_
   refine Wo (Run_move (O rfl)) rfl <| Wo (Run_move (O rfl)) rfl <| WL_opG rfl rfl rfl rfl guard_pos (Run_move (O rfl)) rfl rfl rfl <| ?_
   obtain ⟨b35, e36, hm⟩ := letv_some hm
   refine WL_opG rfl rfl rfl rfl guard_pos (Run.eqB (Run_neI (Opd.g rfl id) Opd.c) e36) rfl rfl rfl <| ?_
   obtain ⟨b37, e38, hm⟩ := letv_some hm
   refine Wo (Run.eqB (Run_and (O rfl) (Opd.g rfl id)) e38) rfl <| Wo (Run_assign (O rfl)) rfl <| ?_
   refine WL_nil ?_
   refine At_blk_normal ?_
   refine At_then <| WC_region ?_
   refine Wo (Run_add (O rfl) Opd.c) rfl <| Wo (Run_move (O rfl)) rfl <| ?_
   refine WL_nil ?_
   exact At_again (b29, b33, b37, (IntKind.i64.wrap (t11 + 1))) () hm (hs.re 5 [3, 4] rfl) rfl
 ·
  replace hm := bif_f hc13 hm
  refine WC_exit ?_
  refine At_then_exit <| At_then_exit <| At_blk_here <| ?_
  refine At_then <| WC_seq ?_
  refine WC_block ?_
  refine WC_seq <| WC_region ?_
  refine Wo (Run_fieldAddr fo51_0 (O rfl)) rfl <| Wo (Run_load1 (v := (.int .i64 e.op)) Tryd.underlying3 rfl (O rfl) (fun _ => (hs.box (i := 0) rfl).part 0 rfl)) rfl <| ?_
  obtain ⟨b39, e40, hm⟩ := letv_some hm
  refine Wo (Run.eqB (Run_leI (O rfl) Opd.c) e40) rfl <| Wo (Run_move (O rfl)) rfl <| WL_opG rfl rfl rfl rfl guard_pos (Run_move (O rfl)) rfl rfl rfl <| ?_
  obtain ⟨b41, e42, hm⟩ := letv_some hm
  refine Wo (Run.eqB (Run_and (O rfl) (Opd.g rfl id)) e42) rfl <| Wo (Run_assign (O rfl)) rfl <| ?_
  refine WL_nil <| At_then ?_
  refine WC_cond (O rfl) (fun hc43 => ?_) (fun hc43 => ?_)
  ·
   replace hm := bif_t hc43 hm
   refine WC_seq <| WC_region ?_
   refine Wo (Run_assign Opd.c) rfl <| Wo (Run_assign Opd.c) rfl <| Wo (Run_assign Opd.c) rfl <| ?_
   refine WL_nil <| At_then ?_
   refine WC_ret ?_
   refine At_blk_ret <| At_then_ret <| ?_
   refine At_r3 rfl (ResIs.t rfl) (ResIs.t rfl) (ResIs.t rfl) ?_
   cases hm
   exact ⟨rfl, (hs.re 2 [] rfl)⟩
  ·
   replace hm := bif_f hc43 hm
   refine WC_seq_cut (γ := Bool) (fun t45 w44 => expr_Type_K2 e times10 t45 = some r ∧ Sat (box b5 51 [(.int .i64 e.op), (.int .i64 e.n), (.int .i64 e.at_), (sl v1)] :: imm (RSl RExpr) [sl v1] e.l :: Φ) w44) (fun t45 => [(1, true, (.pointer (some ⟨b5, 0, none⟩))), (7, true, (.bool times10)), (53, true, (.bool t45))]) ?_ ?_
   ·
    rintro t45 w44 ⟨hm, hs⟩
    unfold expr_Type_K2 at hm
    refine WC_cond (O rfl) (fun hc46 => ?_) (fun hc46 => ?_)
    ·
     replace hm := bif_t hc46 hm
     refine WC_seq <| WC_region ?_
     refine Wo (Run_assign Opd.c) rfl <| Wo (Run_assign Opd.c) rfl <| Wo (Run_assign Opd.c) rfl <| ?_
     refine WL_nil <| At_then ?_
     refine WC_ret ?_
     refine At_blk_ret <| At_then_ret <| ?_
     refine At_r3 rfl (ResIs.t rfl) (ResIs.t rfl) (ResIs.t rfl) ?_
     cases hm
     exact ⟨rfl, (hs.re 2 [] rfl)⟩
    ·
     replace hm := bif_f hc46 hm
     refine WC_seq <| WC_region ?_
     refine Wo (Run_fieldAddr fo51_0 (O rfl)) rfl <| Wo (Run_load1 (v := (.int .i64 e.op)) Tryd.underlying3 rfl (O rfl) (fun _ => (hs.box (i := 0) rfl).part 0 rfl)) rfl <| ?_
     obtain ⟨b47, e48, hm⟩ := letv_some hm
     refine Wo (Run.eqB (Run_geI (O rfl) Opd.c) e48) rfl <| Wo (Run_move (O rfl)) rfl <| WL_opG rfl rfl rfl rfl guard_pos (Run_move (O rfl)) rfl rfl rfl <| ?_
     obtain ⟨b49, e50, hm⟩ := letv_some hm
     refine Wo (Run.eqB (Run_and (O rfl) (Opd.g rfl id)) e50) rfl <| Wo (Run_assign (O rfl)) rfl <| ?_
     refine WL_nil <| At_then ?_
     refine WC_cond (O rfl) (fun hc51 => ?_) (fun hc51 => ?_)
     ·
      replace hm := bif_t hc51 hm
      refine WC_seq <| WC_region ?_
      refine Wo (Run_assign Opd.c) rfl <| Wo (Run_assign Opd.c) rfl <| Wo (Run_assign Opd.c) rfl <| ?_
      refine WL_nil <| At_then ?_
      refine WC_ret ?_
      refine At_blk_ret <| At_then_ret <| ?_
      refine At_r3 rfl (ResIs.t rfl) (ResIs.t rfl) (ResIs.t rfl) ?_
      cases hm
      exact ⟨rfl, (hs.re 2 [] rfl)⟩
     ·
      replace hm := bif_f hc51 hm
      refine WC_skip ?_
      refine At_blk_normal ?_
      refine At_then <| WC_seq ?_
      refine WC_region_mixed [0, 1, 0, 4, 15] (.q 0 0 (.q 1 1 (.q 2 3 (.q 3 7 (.q 4 15 .nil))))) (by kernel_rfl) (by kernel_rfl) ?_
      intro w52 hx53
      replace hs := hs.ext hx53
      refine WD_pure (fun _ => (Run_fieldAddr fo51_2 (O rfl))) rfl rfl rfl rfl <| WD_op (fun w => CellsAt w ⟨b5, 2, none⟩ [(.int .i64 e.at_)]) ((hs.box (i := 0) rfl).part 2 rfl) (fun _ hJ => (Run_load1 (v := (.int .i64 e.at_)) Tryd.underlying3 rfl (O rfl) (fun _ => hJ))) rfl rfl rfl rfl <| WD_pure (fun _ => (Run_assign Opd.c)) rfl rfl rfl rfl <| WD_pure (fun _ => (Run_assign Opd.c)) rfl rfl rfl rfl <| WD_pure (fun _ => (Run_assign (O rfl))) rfl rfl rfl rfl <| ?_
      refine WD_nil ?_
      refine At_then ?_
      refine WC_ret ?_
      refine At_r3 rfl (ResIs.t rfl) (ResIs.t rfl) (ResIs.t rfl) ?_
      cases hm
      exact ⟨rfl, (hs.re 2 [] rfl)⟩
   ·
    refine WC_seq <| WC_region ?_
    refine Wo (Run_fieldAddr fo51_0 (O rfl)) rfl <| Wo (Run_load1 (v := (.int .i64 e.op)) Tryd.underlying3 rfl (O rfl) (fun _ => (hs.box (i := 0) rfl).part 0 rfl)) rfl <| ?_
    obtain ⟨b54, e55, hm⟩ := letv_some hm
    refine Wo (Run.eqB (Run_gtI (O rfl) Opd.c) e55) rfl <| Wo (Run_move (O rfl)) rfl <| WL_opG rfl rfl rfl rfl guard_pos (Run_fieldAddr fo51_0 (O rfl)) rfl rfl rfl <| WL_opG rfl rfl rfl rfl guard_pos (Run_load1 (v := (.int .i64 e.op)) Tryd.underlying3 rfl (Opd.g rfl id) (fun _ => (hs.box (i := 0) rfl).part 0 rfl)) rfl rfl rfl <| ?_
    obtain ⟨b56, e57, hm⟩ := letv_some hm
    refine WL_opG rfl rfl rfl rfl guard_pos (Run.eqB (Run_leI (Opd.g rfl id) Opd.c) e57) rfl rfl rfl <| ?_
    obtain ⟨b58, e59, hm⟩ := letv_some hm
    refine Wo (Run.eqB (Run_and (O rfl) (Opd.g rfl id)) e59) rfl <| Wo (Run_move (O rfl)) rfl <| WL_opG rfl rfl rfl rfl guard_pos (Run_move (O rfl)) rfl rfl rfl <| ?_
    obtain ⟨b60, e61, hm⟩ := letv_some hm
    refine Wo (Run.eqB (Run_and (O rfl) (Opd.g rfl id)) e61) rfl <| Wo (Run_assign (O rfl)) rfl <| ?_
    refine WL_nil <| At_then ?_
    refine WC_cond (O rfl) (fun hc62 => ?_) (fun hc62 => ?_)
    ·
     replace hm := bif_t hc62 hm
     refine WC_skip ?_
     exact At_join b60 ⟨hm, (hs.re 2 [0, 1] rfl)⟩ rfl
    ·
     replace hm := bif_f hc62 hm
     refine WC_seq <| WC_region ?_
     refine Wo (Run_fieldAddr fo51_0 (O rfl)) rfl <| Wo (Run_load1 (v := (.int .i64 e.op)) Tryd.underlying3 rfl (O rfl) (fun _ => (hs.box (i := 0) rfl).part 0 rfl)) rfl <| Wo (Run_eqI (O rfl) Opd.c) rfl <| Wo (Run_assign (O rfl)) rfl <| ?_
     refine WL_nil <| At_then ?_
     refine WC_cond (O rfl) (fun hc63 => ?_) (fun hc63 => ?_)
     ·
      replace hm := bif_t hc63 hm
      refine WC_skip ?_
      exact At_join (e.op == 13) ⟨hm, (hs.re 2 [0, 1] rfl)⟩ rfl
     ·
      replace hm := bif_f hc63 hm
      refine WC_seq <| WC_region ?_
      refine Wo (Run_fieldAddr fo51_0 (O rfl)) rfl <| Wo (Run_load1 (v := (.int .i64 e.op)) Tryd.underlying3 rfl (O rfl) (fun _ => (hs.box (i := 0) rfl).part 0 rfl)) rfl <| Wo (Run_eqI (O rfl) Opd.c) rfl <| Wo (Run_assign (O rfl)) rfl <| ?_
      refine WL_nil <| At_then ?_
      refine WC_cond (O rfl) (fun hc64 => ?_) (fun hc64 => ?_)
      ·
       replace hm := bif_t hc64 hm
       refine WC_skip ?_
       exact At_join (e.op == 14) ⟨hm, (hs.re 2 [0, 1] rfl)⟩ rfl
      ·
       replace hm := bif_f hc64 hm
       refine WC_region ?_
       refine Wo (Run_fieldAddr fo51_0 (O rfl)) rfl <| Wo (Run_load1 (v := (.int .i64 e.op)) Tryd.underlying3 rfl (O rfl) (fun _ => (hs.box (i := 0) rfl).part 0 rfl)) rfl <| ?_
       obtain ⟨b65, e66, hm⟩ := letv_some hm
       refine Wo (Run.eqB (Run_geI (O rfl) Opd.c) e66) rfl <| Wo (Run_move (O rfl)) rfl <| WL_opG rfl rfl rfl rfl guard_pos (Run_fieldAddr fo51_0 (O rfl)) rfl rfl rfl <| WL_opG rfl rfl rfl rfl guard_pos (Run_load1 (v := (.int .i64 e.op)) Tryd.underlying3 rfl (Opd.g rfl id) (fun _ => (hs.box (i := 0) rfl).part 0 rfl)) rfl rfl rfl <| ?_
       obtain ⟨b67, e68, hm⟩ := letv_some hm
       refine WL_opG rfl rfl rfl rfl guard_pos (Run.eqB (Run_leI (Opd.g rfl id) Opd.c) e68) rfl rfl rfl <| ?_
       obtain ⟨b69, e70, hm⟩ := letv_some hm
       refine Wo (Run.eqB (Run_and (O rfl) (Opd.g rfl id)) e70) rfl <| Wo (Run_move (O rfl)) rfl <| WL_opG rfl rfl rfl rfl guard_pos (Run_move (O rfl)) rfl rfl rfl <| ?_
       obtain ⟨b71, e72, hm⟩ := letv_some hm
       refine Wo (Run.eqB (Run_and (O rfl) (Opd.g rfl id)) e72) rfl <| Wo (Run_assign (O rfl)) rfl <| ?_
       refine WL_nil ?_
       exact At_join b71 ⟨hm, (hs.re 2 [0, 1] rfl)⟩ rfl
set_option maxRecDepth 100000 in
set_option maxHeartbeats 4000000 in
theorem expr_Type_ok {Φ : Ctx} {w : World} {e : Ex} {v1 : SLV} {r : (Int × Int × Int)} (hs : Sat (imm (RSl RExpr) [sl v1] e.l :: Φ) w) (hm : expr_Type e = some r) :
  CallsR Tryd.prog 73 [(.agg #[(.int .i64 e.op), (.int .i64 e.n), (.int .i64 e.at_), (sl v1)])] w (fun v w' => v = (.tuple #[(.int .i64 r.1), (.int .i64 r.2.1), (.int .i64 r.2.2)]) ∧ Sat (Φ) w') := by
 have key : ∀ (N : Nat) {Φ : Ctx} {w : World} {e : Ex} {v1 : SLV} {r : (Int × Int × Int)}, Sat (imm (RSl RExpr) [sl v1] e.l :: Φ) w → fixN (fun k (s : Ex) => expr_Type_F k s) N e = some r → CallsR Tryd.prog 73 [(.agg #[(.int .i64 e.op), (.int .i64 e.n), (.int .i64 e.at_), (sl v1)])] w (fun v w' => v = (.tuple #[(.int .i64 r.1), (.int .i64 r.2.1), (.int .i64 r.2.2)]) ∧ Sat (Φ) w') := by
  intro N
  induction N with
  | zero => intros; rename_i h; cases h
  | succ N ih => intros; rename_i hs hm; rw [fixN_succ] at hm; exact expr_Type_F_ok (@ih) hs hm
 unfold expr_Type at hm
 exact key FUEL hs hm
set_option maxRecDepth 100000 in
set_option maxHeartbeats 4000000 in
theorem expr_Type_s2_ok {Φ : Ctx} {w : World} {e : Ex} {v1 : SLV} {R : List Nat} {r : (Int × Int × Int)} (hs : Sat (osl RExpr 51 (sl v1) e.l R :: Φ) w) (hm : expr_Type_s2 e = some r) :
  CallsR Tryd.prog 73 [(.agg #[(.int .i64 e.op), (.int .i64 e.n), (.int .i64 e.at_), (sl v1)])] w (fun v w' => v = (.tuple #[(.int .i64 r.1), (.int .i64 r.2.1), (.int .i64 r.2.2)]) ∧ Sat (osl RExpr 51 (sl v1) e.l R :: Φ) w') := by
 refine CallsX_enter Tryd.func73 rfl Tryd.ntmps73 rfl ?_
 unfold expr_Type_s2 at hm
 refine WC_seq <| WC_region ?_
 refine WS_box (zs := [(.int .i64 e.op), (.int .i64 e.n), (.int .i64 e.at_), (sl v1)]) hs (O rfl) rfl rfl ?_
 intro b5 w6 hs
 replace hs := Sat.n2 (Γ := Φ) hs rfl
 refine Wo (Run_assign Opd.c) rfl <| Wo (Run_assign Opd.c) rfl <| Wo (Run_assign Opd.c) rfl <| ?_
 refine WL_nil <| At_then <| WC_seq <| WC_region ?_
 refine Wo (Run_assign Opd.c) rfl <| Wo (Run_assign Opd.c) rfl <| Wo (Run_assign Opd.c) rfl <| ?_
 refine WL_nil <| At_then <| WC_seq <| WC_seq <| WC_region ?_
 refine Wo (Run_fieldAddr fo51_3 (O rfl)) rfl <| Wo (Run_load1 (v := (sl v1)) Tryd.underlying49 rfl (O rfl) (fun _ => (hs.box (i := 0) rfl).part 3 rfl)) rfl <| Wo (Run_lenSlG Tryd.underlying49 (O rfl) (fun _ => (hs.own (i := 1) rfl).len)) rfl <| Wo (Run_move Opd.c) rfl <| ?_
 refine WL_nil <| At_then ?_
 refine WC_block ?_
 refine WC_loop (σ := Bool × Bool × Bool × Int) (γ := Unit) (F := (expr_Type_s2_L1 e)) (N := FUEL) (s0 := (true, true, true, 0)) (r := r) (fun ⟨ints8, bools9, times10, t11⟩ (_ : Unit) w7 => Sat (box b5 51 [(.int .i64 e.op), (.int .i64 e.n), (.int .i64 e.at_), (sl v1)] :: osl RExpr 51 (sl v1) e.l R :: Φ) w7) (fun ⟨ints8, bools9, times10, t11⟩ (_ : Unit) => [(1, true, (.pointer (some ⟨b5, 0, none⟩))), (5, true, (.bool ints8)), (6, true, (.bool bools9)), (7, true, (.bool times10)), (14, true, (sl v1)), (15, true, (.int .i64 (List.length e.l : Int))), (16, true, (.int .i64 t11))]) hm () (hs.re 2 [0, 1] rfl) rfl ?_
 rintro again12 ⟨ints8, bools9, times10, t11⟩ _ w7 hm hs
 unfold expr_Type_s2_L1 at hm
 dsimp only at hm
 refine WC_seq <| WC_region ?_
 refine Wo (Run_ltI (O rfl) (O rfl)) rfl <| ?_
 refine WL_nil <| At_then <| WC_seq ?_
 refine WC_cond (O rfl) (fun hc13 => ?_) (fun hc13 => ?_)
 ·
  replace hm := bif_t hc13 hm
  refine WC_skip ?_
  refine At_then <| WC_seq ?_
  refine WC_block ?_
  refine WC_seq <| WC_region ?_
  obtain ⟨e14, he15, hm⟩ := bind_some' hm
  obtain ⟨v16, hC17, hN18, hR19⟩ := cellsMO51 (g := true) (fun hg => (hs.own (i := 1) rfl)) (fun hg => he15)
  replace hs := hs.addL [imm (RSl RExpr) [sl v16] e14.l] rfl ⟨⟨_, rfl, hR19 rfl⟩, trivial⟩
  replace hs := Sat.n3 (Γ := Φ) hs rfl
  refine Wo (Run_idxAddr (p := (elA (sl v1) t11 4)) Tryd.underlying49 ti51 (O rfl) (O rfl) (fun hg => (Own.atA (A := RExpr) (v := (sl v1)) (hs.own (i := 2) rfl) he15).1)) rfl <| Wo (Run_loadA (vs := [(.int .i64 e14.op), (.int .i64 e14.n), (.int .i64 e14.at_), (sl v16)]) Tryd.underlying51 rfl ti51 (O rfl) (fun hg => (hC17 hg).sub 0 rfl) rfl) rfl <| ?_
  refine WS_alloc (zs := [(.int .i64 0), (.int .i64 0), (.int .i64 0), (sl (none, 0, 0))]) hs ti51 rfl rfl ?_
  intro b20 w21 hs
  replace hs := Sat.n4 (Γ := Φ) hs rfl
  refine WS_store (us := [(.int .i64 e14.op), (.int .i64 e14.n), (.int .i64 e14.at_), (sl v16)]) (vs' := [(.int .i64 e14.op), (.int .i64 e14.n), (.int .i64 e14.at_), (sl v16)]) hs 0 rfl ti51 (O rfl) (O rfl) rfl rfl rfl rfl rfl ?_
  intro w22 hs
  replace hs := Sat.n4 (Γ := Φ) hs rfl
  refine WL_nil <| At_then <| WC_seq <| WC_region ?_
  refine Wo (Run_loadA (vs := [(.int .i64 e14.op), (.int .i64 e14.n), (.int .i64 e14.at_), (sl v16)]) Tryd.underlying51 rfl ti51 (O rfl) (fun _ => (hs.box (i := 0) rfl).part 0 rfl) rfl) rfl <| ?_
  obtain ⟨r23, hr24, hm⟩ := bind_some' hm
  refine WL_call (f := 73) (first := []) (cap := []) (xs := [(.tmp 21)]) (vs := [(.agg #[(.int .i64 e14.op), (.int .i64 e14.n), (.int .i64 e14.at_), (sl v16)])]) (args := [(.agg #[(.int .i64 e14.op), (.int .i64 e14.n), (.int .i64 e14.at_), (sl v16)])]) Tryd.call73 Opd.f (.cons (O rfl) .nil) rfl rfl (expr_Type_ok (hs.re 4 [1, 0, 1, 2, 3] rfl) hr24) ?_
  rintro _ w25 ⟨rfl, hs⟩
  replace hs := Sat.n4 (Γ := Φ) hs rfl
  refine Wo (Run_move (O rfl)) rfl <| Wo (Run_extract (vs := [(.int .i64 r23.1), (.int .i64 r23.2.1), (.int .i64 r23.2.2)]) (O rfl) rfl) rfl <| Wo (Run_extract (vs := [(.int .i64 r23.1), (.int .i64 r23.2.1), (.int .i64 r23.2.2)]) (O rfl) rfl) rfl <| Wo (Run_extract (vs := [(.int .i64 r23.1), (.int .i64 r23.2.1), (.int .i64 r23.2.2)]) (O rfl) rfl) rfl <| Wo (Run_assign (O rfl)) rfl <| Wo (Run_assign (O rfl)) rfl <| Wo (Run_assign (O rfl)) rfl <| ?_
  refine WL_nil <| At_then <| WC_seq <| WC_seq <| WC_region ?_
  refine Wo (Run_move (O rfl)) rfl <| Wo (Run_neI (O rfl) Opd.c) rfl <| ?_
  refine WL_nil <| At_then ?_
  refine WC_cond (O rfl) (fun hc26 => ?_) (fun hc26 => ?_)
  ·
   replace hm := bif_t hc26 hm
   refine WC_seq <| WC_region ?_
   refine Wo (Run_move (O rfl)) rfl <| Wo (Run_move (O rfl)) rfl <| Wo (Run_assign Opd.c) rfl <| Wo (Run_assign (O rfl)) rfl <| Wo (Run_assign (O rfl)) rfl <| ?_
   refine WL_nil <| At_then ?_
   refine WC_ret ?_
   refine At_then_ret <| At_blk_ret <| At_then_ret <| At_then_ret <| At_blk_ret <| At_then_ret <| ?_
   refine At_r3 rfl (ResIs.t rfl) (ResIs.t rfl) (ResIs.t rfl) ?_
   cases hm
   exact ⟨rfl, (hs.re 4 [3] rfl)⟩
  ·
   replace hm := bif_f hc26 hm
   refine WC_skip ?_
   refine At_then <| WC_seq <| WC_region ?_
   refine Wo (Run_move (O rfl)) rfl <| Wo (Run_move (O rfl)) rfl <| WL_opG rfl rfl rfl rfl guard_pos (Run_move (O rfl)) rfl rfl rfl <| ?_
   obtain ⟨b27, e28, hm⟩ := letv_some hm
   refine WL_opG rfl rfl rfl rfl guard_pos (Run.eqB (Run_eqI (Opd.g rfl id) Opd.c) e28) rfl rfl rfl <| ?_
   obtain ⟨b29, e30, hm⟩ := letv_some hm
   refine Wo (Run.eqB (Run_and (O rfl) (Opd.g rfl id)) e30) rfl <| Wo (Run_assign (O rfl)) rfl <| ?_
   refine WL_nil <| At_then <| WC_seq <| WC_region ?_
   refine Wo (Run_move (O rfl)) rfl <| Wo (Run_move (O rfl)) rfl <| WL_opG rfl rfl rfl rfl guard_pos (Run_move (O rfl)) rfl rfl rfl <| ?_
   obtain ⟨b31, e32, hm⟩ := letv_some hm
   refine WL_opG rfl rfl rfl rfl guard_pos (Run.eqB (Run_eqI (Opd.g rfl id) Opd.c) e32) rfl rfl rfl <| ?_
   obtain ⟨b33, e34, hm⟩ := letv_some hm
   refine Wo (Run.eqB (Run_and (O rfl) (Opd.g rfl id)) e34) rfl <| Wo (Run_assign (O rfl)) rfl <| ?_
   refine WL_nil <| At_then <| WC_region ?_
   refine Wo (Run_move (O rfl)) rfl <| Wo (Run_move (O rfl)) rfl <| WL_opG rfl rfl rfl rfl guard_pos (Run_move (O rfl)) rfl rfl rfl <| ?_
   obtain ⟨b35, e36, hm⟩ := letv_some hm
   refine WL_opG rfl rfl rfl rfl guard_pos (Run.eqB (Run_neI (Opd.g rfl id) Opd.c) e36) rfl rfl rfl <| ?_
   obtain ⟨b37, e38, hm⟩ := letv_some hm
   refine Wo (Run.eqB (Run_and (O rfl) (Opd.g rfl id)) e38) rfl <| Wo (Run_assign (O rfl)) rfl <| ?_
   refine WL_nil ?_
   refine At_blk_normal ?_
   refine At_then <| WC_region ?_
   refine Wo (Run_add (O rfl) Opd.c) rfl <| Wo (Run_move (O rfl)) rfl <| ?_
   refine WL_nil ?_
   exact At_again (b29, b33, b37, (IntKind.i64.wrap (t11 + 1))) () hm (hs.re 4 [2, 3] rfl) rfl
 ·
  replace hm := bif_f hc13 hm
  refine WC_exit ?_
  refine At_then_exit <| At_then_exit <| At_blk_here <| ?_
  refine At_then <| WC_seq ?_
  refine WC_block ?_
  refine WC_seq <| WC_region ?_
  refine Wo (Run_fieldAddr fo51_0 (O rfl)) rfl <| Wo (Run_load1 (v := (.int .i64 e.op)) Tryd.underlying3 rfl (O rfl) (fun _ => (hs.box (i := 0) rfl).part 0 rfl)) rfl <| ?_
  obtain ⟨b39, e40, hm⟩ := letv_some hm
  refine Wo (Run.eqB (Run_leI (O rfl) Opd.c) e40) rfl <| Wo (Run_move (O rfl)) rfl <| WL_opG rfl rfl rfl rfl guard_pos (Run_move (O rfl)) rfl rfl rfl <| ?_
  obtain ⟨b41, e42, hm⟩ := letv_some hm
  refine Wo (Run.eqB (Run_and (O rfl) (Opd.g rfl id)) e42) rfl <| Wo (Run_assign (O rfl)) rfl <| ?_
  refine WL_nil <| At_then ?_
  refine WC_cond (O rfl) (fun hc43 => ?_) (fun hc43 => ?_)
  ·
   replace hm := bif_t hc43 hm
   refine WC_seq <| WC_region ?_
   refine Wo (Run_assign Opd.c) rfl <| Wo (Run_assign Opd.c) rfl <| Wo (Run_assign Opd.c) rfl <| ?_
   refine WL_nil <| At_then ?_
   refine WC_ret ?_
   refine At_blk_ret <| At_then_ret <| ?_
   refine At_r3 rfl (ResIs.t rfl) (ResIs.t rfl) (ResIs.t rfl) ?_
   cases hm
   exact ⟨rfl, (hs.re 2 [1] rfl)⟩
  ·
   replace hm := bif_f hc43 hm
   refine WC_seq_cut (γ := Bool) (fun t45 w44 => expr_Type_s2_K2 e times10 t45 = some r ∧ Sat (box b5 51 [(.int .i64 e.op), (.int .i64 e.n), (.int .i64 e.at_), (sl v1)] :: osl RExpr 51 (sl v1) e.l R :: Φ) w44) (fun t45 => [(1, true, (.pointer (some ⟨b5, 0, none⟩))), (7, true, (.bool times10)), (53, true, (.bool t45))]) ?_ ?_
   ·
    rintro t45 w44 ⟨hm, hs⟩
    unfold expr_Type_s2_K2 at hm
    refine WC_cond (O rfl) (fun hc46 => ?_) (fun hc46 => ?_)
    ·
     replace hm := bif_t hc46 hm
     refine WC_seq <| WC_region ?_
     refine Wo (Run_assign Opd.c) rfl <| Wo (Run_assign Opd.c) rfl <| Wo (Run_assign Opd.c) rfl <| ?_
     refine WL_nil <| At_then ?_
     refine WC_ret ?_
     refine At_blk_ret <| At_then_ret <| ?_
     refine At_r3 rfl (ResIs.t rfl) (ResIs.t rfl) (ResIs.t rfl) ?_
     cases hm
     exact ⟨rfl, (hs.re 2 [1] rfl)⟩
    ·
     replace hm := bif_f hc46 hm
     refine WC_seq <| WC_region ?_
     refine Wo (Run_fieldAddr fo51_0 (O rfl)) rfl <| Wo (Run_load1 (v := (.int .i64 e.op)) Tryd.underlying3 rfl (O rfl) (fun _ => (hs.box (i := 0) rfl).part 0 rfl)) rfl <| ?_
     obtain ⟨b47, e48, hm⟩ := letv_some hm
     refine Wo (Run.eqB (Run_geI (O rfl) Opd.c) e48) rfl <| Wo (Run_move (O rfl)) rfl <| WL_opG rfl rfl rfl rfl guard_pos (Run_move (O rfl)) rfl rfl rfl <| ?_
     obtain ⟨b49, e50, hm⟩ := letv_some hm
     refine Wo (Run.eqB (Run_and (O rfl) (Opd.g rfl id)) e50) rfl <| Wo (Run_assign (O rfl)) rfl <| ?_
     refine WL_nil <| At_then ?_
     refine WC_cond (O rfl) (fun hc51 => ?_) (fun hc51 => ?_)
     ·
      replace hm := bif_t hc51 hm
      refine WC_seq <| WC_region ?_
      refine Wo (Run_assign Opd.c) rfl <| Wo (Run_assign Opd.c) rfl <| Wo (Run_assign Opd.c) rfl <| ?_
      refine WL_nil <| At_then ?_
      refine WC_ret ?_
      refine At_blk_ret <| At_then_ret <| ?_
      refine At_r3 rfl (ResIs.t rfl) (ResIs.t rfl) (ResIs.t rfl) ?_
      cases hm
      exact ⟨rfl, (hs.re 2 [1] rfl)⟩
     ·
      replace hm := bif_f hc51 hm
      refine WC_skip ?_
      refine At_blk_normal ?_
      refine At_then <| WC_seq ?_
      refine WC_region_mixed [0, 1, 0, 4, 15] (.q 0 0 (.q 1 1 (.q 2 3 (.q 3 7 (.q 4 15 .nil))))) (by kernel_rfl) (by kernel_rfl) ?_
      intro w52 hx53
      replace hs := hs.ext hx53
      refine WD_pure (fun _ => (Run_fieldAddr fo51_2 (O rfl))) rfl rfl rfl rfl <| WD_op (fun w => CellsAt w ⟨b5, 2, none⟩ [(.int .i64 e.at_)]) ((hs.box (i := 0) rfl).part 2 rfl) (fun _ hJ => (Run_load1 (v := (.int .i64 e.at_)) Tryd.underlying3 rfl (O rfl) (fun _ => hJ))) rfl rfl rfl rfl <| WD_pure (fun _ => (Run_assign Opd.c)) rfl rfl rfl rfl <| WD_pure (fun _ => (Run_assign Opd.c)) rfl rfl rfl rfl <| WD_pure (fun _ => (Run_assign (O rfl))) rfl rfl rfl rfl <| ?_
      refine WD_nil ?_
      refine At_then ?_
      refine WC_ret ?_
      refine At_r3 rfl (ResIs.t rfl) (ResIs.t rfl) (ResIs.t rfl) ?_
      cases hm
      exact ⟨rfl, (hs.re 2 [1] rfl)⟩
   ·
    refine WC_seq <| WC_region ?_
    refine Wo (Run_fieldAddr fo51_0 (O rfl)) rfl <| Wo (Run_load1 (v := (.int .i64 e.op)) Tryd.underlying3 rfl (O rfl) (fun _ => (hs.box (i := 0) rfl).part 0 rfl)) rfl <| ?_
    obtain ⟨b54, e55, hm⟩ := letv_some hm
    refine Wo (Run.eqB (Run_gtI (O rfl) Opd.c) e55) rfl <| Wo (Run_move (O rfl)) rfl <| WL_opG rfl rfl rfl rfl guard_pos (Run_fieldAddr fo51_0 (O rfl)) rfl rfl rfl <| WL_opG rfl rfl rfl rfl guard_pos (Run_load1 (v := (.int .i64 e.op)) Tryd.underlying3 rfl (Opd.g rfl id) (fun _ => (hs.box (i := 0) rfl).part 0 rfl)) rfl rfl rfl <| ?_
    obtain ⟨b56, e57, hm⟩ := letv_some hm
    refine WL_opG rfl rfl rfl rfl guard_pos (Run.eqB (Run_leI (Opd.g rfl id) Opd.c) e57) rfl rfl rfl <| ?_
    obtain ⟨b58, e59, hm⟩ := letv_some hm
    refine Wo (Run.eqB (Run_and (O rfl) (Opd.g rfl id)) e59) rfl <| Wo (Run_move (O rfl)) rfl <| WL_opG rfl rfl rfl rfl guard_pos (Run_move (O rfl)) rfl rfl rfl <| ?_
    obtain ⟨b60, e61, hm⟩ := letv_some hm
    refine Wo (Run.eqB (Run_and (O rfl) (Opd.g rfl id)) e61) rfl <| Wo (Run_assign (O rfl)) rfl <| ?_
    refine WL_nil <| At_then ?_
    refine WC_cond (O rfl) (fun hc62 => ?_) (fun hc62 => ?_)
    ·
     replace hm := bif_t hc62 hm
     refine WC_skip ?_
     exact At_join b60 ⟨hm, (hs.re 2 [0, 1] rfl)⟩ rfl
    ·
     replace hm := bif_f hc62 hm
     refine WC_seq <| WC_region ?_
     refine Wo (Run_fieldAddr fo51_0 (O rfl)) rfl <| Wo (Run_load1 (v := (.int .i64 e.op)) Tryd.underlying3 rfl (O rfl) (fun _ => (hs.box (i := 0) rfl).part 0 rfl)) rfl <| Wo (Run_eqI (O rfl) Opd.c) rfl <| Wo (Run_assign (O rfl)) rfl <| ?_
     refine WL_nil <| At_then ?_
     refine WC_cond (O rfl) (fun hc63 => ?_) (fun hc63 => ?_)
     ·
      replace hm := bif_t hc63 hm
      refine WC_skip ?_
      exact At_join (e.op == 13) ⟨hm, (hs.re 2 [0, 1] rfl)⟩ rfl
     ·
      replace hm := bif_f hc63 hm
      refine WC_seq <| WC_region ?_
      refine Wo (Run_fieldAddr fo51_0 (O rfl)) rfl <| Wo (Run_load1 (v := (.int .i64 e.op)) Tryd.underlying3 rfl (O rfl) (fun _ => (hs.box (i := 0) rfl).part 0 rfl)) rfl <| Wo (Run_eqI (O rfl) Opd.c) rfl <| Wo (Run_assign (O rfl)) rfl <| ?_
      refine WL_nil <| At_then ?_
      refine WC_cond (O rfl) (fun hc64 => ?_) (fun hc64 => ?_)
      ·
       replace hm := bif_t hc64 hm
       refine WC_skip ?_
       exact At_join (e.op == 14) ⟨hm, (hs.re 2 [0, 1] rfl)⟩ rfl
      ·
       replace hm := bif_f hc64 hm
       refine WC_region ?_
       refine Wo (Run_fieldAddr fo51_0 (O rfl)) rfl <| Wo (Run_load1 (v := (.int .i64 e.op)) Tryd.underlying3 rfl (O rfl) (fun _ => (hs.box (i := 0) rfl).part 0 rfl)) rfl <| ?_
       obtain ⟨b65, e66, hm⟩ := letv_some hm
       refine Wo (Run.eqB (Run_geI (O rfl) Opd.c) e66) rfl <| Wo (Run_move (O rfl)) rfl <| WL_opG rfl rfl rfl rfl guard_pos (Run_fieldAddr fo51_0 (O rfl)) rfl rfl rfl <| WL_opG rfl rfl rfl rfl guard_pos (Run_load1 (v := (.int .i64 e.op)) Tryd.underlying3 rfl (Opd.g rfl id) (fun _ => (hs.box (i := 0) rfl).part 0 rfl)) rfl rfl rfl <| ?_
       obtain ⟨b67, e68, hm⟩ := letv_some hm
       refine WL_opG rfl rfl rfl rfl guard_pos (Run.eqB (Run_leI (Opd.g rfl id) Opd.c) e68) rfl rfl rfl <| ?_
       obtain ⟨b69, e70, hm⟩ := letv_some hm
       refine Wo (Run.eqB (Run_and (O rfl) (Opd.g rfl id)) e70) rfl <| Wo (Run_move (O rfl)) rfl <| WL_opG rfl rfl rfl rfl guard_pos (Run_move (O rfl)) rfl rfl rfl <| ?_
       obtain ⟨b71, e72, hm⟩ := letv_some hm
       refine Wo (Run.eqB (Run_and (O rfl) (Opd.g rfl id)) e72) rfl <| Wo (Run_assign (O rfl)) rfl <| ?_
       refine WL_nil ?_
       exact At_join b71 ⟨hm, (hs.re 2 [0, 1] rfl)⟩ rfl
end Go.Proofs.YtdhgpnejphlfpaaDoor
