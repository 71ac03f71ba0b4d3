/-
  Own texts for the statement ModelCuts, cut down to what it needs: Walk14, Walk15, Walk16, Walk17, Walk18, Walk19, Walk20. (cut and joined by a program)
-/
import Derived.Test.YtdhgpnejphlfpaaDoorModelCutsA
import Derived.Test.YtdhgpnejphlfpaaDoorModelCutsB
import Derived.Test.YtdhgpnejphlfpaaDoorModelCutsC
set_option maxRecDepth 100000
set_option maxHeartbeats 4000000
namespace Go.Proofs.YtdhgpnejphlfpaaDoor
open Go.Proofs
theorem expr_read_right_s9_ok {k_expr_read_lower_s11 k_expr_read_lower_s13} (ih_expr_read_lower_s11 : ∀ {Φ : Ctx} {w : World} {l : Q3} {at_ : Int} {names : (List Str)} {deep : Int} {bad : Int} {place : Int} {b : Nat} {v2 : SLV} {R : List Nat} {v4 : SLV} {R5 : List Nat} {r : Q4}, Sat (box b 115 [(sl v2), (.int .i64 at_), (sl v4), (.int .i64 deep), (.int .i64 bad), (.int .i64 place)] :: osl Q1 28 (sl v2) l R :: osl RS 9 (sl v4) names R5 :: gl 0 (keysL.map S) :: gl 1 (textsL.map S) :: Φ) w → k_expr_read_lower_s11 (l, at_, names, deep, bad, place) = some r → CallsR Tryd.prog 77 [(.pointer (some ⟨b, 0, none⟩)), (.func (.func 78) #[] #[])] w (fun v w' => ∃ v3 : SLV, ∃ R4 : List Nat, v = (.agg #[(.int .i64 r.1.op), (.int .i64 r.1.n), (.int .i64 r.1.at_), (sl v3)]) ∧ Sat (osl RExpr 51 (sl v3) r.1.l R4 :: box b 115 [(sl v2), (.int .i64 r.2.1), (sl v4), (.int .i64 r.2.2.1), (.int .i64 r.2.2.2.1), (.int .i64 r.2.2.2.2)] :: osl Q1 28 (sl v2) l R :: osl RS 9 (sl v4) names R5 :: Φ) w')) (ih_expr_read_lower_s13 : ∀ {Φ : Ctx} {w : World} {l : Q3} {at_ : Int} {names : (List Str)} {deep : Int} {bad : Int} {place : Int} {b : Nat} {v2 : SLV} {R : List Nat} {v4 : SLV} {R5 : List Nat} {r : Q4}, Sat (box b 115 [(sl v2), (.int .i64 at_), (sl v4), (.int .i64 deep), (.int .i64 bad), (.int .i64 place)] :: osl Q1 28 (sl v2) l R :: osl RS 9 (sl v4) names R5 :: gl 0 (keysL.map S) :: gl 1 (textsL.map S) :: Φ) w → k_expr_read_lower_s13 (l, at_, names, deep, bad, place) = some r → CallsR Tryd.prog 77 [(.pointer (some ⟨b, 0, none⟩)), (.func (.func 90) #[] #[])] w (fun v w' => ∃ v3 : SLV, ∃ R4 : List Nat, v = (.agg #[(.int .i64 r.1.op), (.int .i64 r.1.n), (.int .i64 r.1.at_), (sl v3)]) ∧ Sat (osl RExpr 51 (sl v3) r.1.l R4 :: box b 115 [(sl v2), (.int .i64 r.2.1), (sl v4), (.int .i64 r.2.2.1), (.int .i64 r.2.2.2.1), (.int .i64 r.2.2.2.2)] :: osl Q1 28 (sl v2) l R :: osl RS 9 (sl v4) names R5 :: Φ) w')) {Φ : Ctx} {w : World} {ops : (List Int)} {l : Q3} {at_ : Int} {names : (List Str)} {deep : Int} {bad : Int} {place : Int} {b : Nat} {v2 : SLV} {v4 : SLV} {R : List Nat} {v6 : SLV} {R7 : List Nat} {r : Q4} (hs : Sat (box b 115 [(sl v4), (.int .i64 at_), (sl v6), (.int .i64 deep), (.int .i64 bad), (.int .i64 place)] :: imm Q8 [sl v2] ops :: osl Q1 28 (sl v4) l R :: osl RS 9 (sl v6) names R7 :: gl 0 (keysL.map S) :: gl 1 (textsL.map S) :: Φ) w) (hm : expr_read_right_s9 k_expr_read_lower_s11 k_expr_read_lower_s13 ops l at_ names deep bad place = some r) :
  CallsR Tryd.prog 81 [(.pointer (some ⟨b, 0, none⟩)), (.func (.func 91) #[] #[]), (.func (.func 90) #[] #[]), (sl v2)] w (fun v w' => ∃ v3 : SLV, ∃ R4 : List Nat, v = (.agg #[(.int .i64 r.1.op), (.int .i64 r.1.n), (.int .i64 r.1.at_), (sl v3)]) ∧ Sat (osl RExpr 51 (sl v3) r.1.l R4 :: box b 115 [(sl v4), (.int .i64 r.2.1), (sl v6), (.int .i64 r.2.2.1), (.int .i64 r.2.2.2.1), (.int .i64 r.2.2.2.2)] :: osl Q1 28 (sl v4) l R :: osl RS 9 (sl v6) names R7 :: Φ) w') := by
 refine CallsX_enter Tryd.func81 rfl Tryd.ntmps81 rfl ?_
 unfold expr_read_right_s9 at hm
 refine WC_seq <| WC_region ?_
 refine WS_alloc (zs := [(.int .i64 0), (.int .i64 0), (.int .i64 0), (sl (none, 0, 0))]) hs ti51 rfl rfl ?_
 intro b9 w10 hs
 replace hs := Sat.n7 (Γ := Φ) hs rfl
 refine WL_nil <| At_then <| WC_seq <| WC_region ?_
 iterate 2 refine W ?_
 obtain ⟨r11, hr12, hm⟩ := bind_some' hm
 refine WL_call (f := 91) (first := []) (cap := []) (xs := [(.tmp 15)]) (vs := [(.pointer (some ⟨b, 0, none⟩))]) (args := [(.pointer (some ⟨b, 0, none⟩))]) Tryd.call91 (O rfl) (.cons (O rfl) .nil) rfl rfl (expr_read_deepPre_s3_ok (@ih_expr_read_lower_s11) (hs.re 7 [1, 3, 4, 5, 6, 0, 2, 5, 6] rfl) hr12) ?_
 rintro _ w15 ⟨v13, R14, rfl, hs⟩
 replace hs := Sat.n8 (Γ := Φ) hs rfl
 refine WS_alloc (zs := [(.int .i64 0), (.int .i64 0), (.int .i64 0), (sl (none, 0, 0))]) hs ti51 rfl rfl ?_
 intro b16 w17 hs
 replace hs := Sat.n9 (Γ := Φ) hs rfl
 refine WS_store (us := [(.int .i64 r11.1.op), (.int .i64 r11.1.n), (.int .i64 r11.1.at_), (sl v13)]) (vs' := [(.int .i64 r11.1.op), (.int .i64 r11.1.n), (.int .i64 r11.1.at_), (sl v13)]) hs 0 rfl ti51 (O rfl) (O rfl) rfl rfl rfl rfl rfl ?_
 intro w18 hs
 replace hs := Sat.n9 (Γ := Φ) hs rfl
 refine WL_nil <| At_then <| WC_seq <| WC_region ?_
 iterate 2 refine W ?_
 obtain ⟨r19, hr20, hm⟩ := bind_some' hm
 refine WL_call (f := 83) (first := []) (cap := []) (xs := [(.tmp 18), (.tmp 19)]) (vs := [(.pointer (some ⟨b, 0, none⟩)), (sl v2)]) (args := [(.pointer (some ⟨b, 0, none⟩)), (sl v2)]) Tryd.call83 Opd.f (.cons (O rfl) (.cons (O rfl) .nil)) rfl rfl (expr_read_is_s3_ok (hs.re 9 [2, 6, 3, 4, 7, 8, 0, 1, 5, 6, 7, 8] rfl) hr20) ?_
 rintro _ w21 ⟨rfl, hs⟩
 replace hs := Sat.n9 (Γ := Φ) hs rfl
 iterate 5 refine W ?_
 refine WL_nil <| At_then <| WC_seq <| WC_seq <| WC_region ?_
 iterate 4 refine W ?_
 obtain ⟨b22, e23, hm⟩ := letv_som hm
 iterate 2 refine W ?_
 refine WG ?_
 obtain ⟨b24, e25, hm⟩ := letv_som hm
 refine WG ?_
 obtain ⟨b26, e27, hm⟩ := letv_som hm
 refine W ?_
 refine WL_nil <| At_then ?_
 refine WC_cond (O rfl) (fun hc28 => ?_) (fun hc28 => ?_)
 ·
  replace hm := bif_t hc28 hm
  refine WC_seq <| WC_region ?_
  refine Wo (Run_loadA (vs := [(.int .i64 r11.1.op), (.int .i64 r11.1.n), (.int .i64 r11.1.at_), (sl v13)]) Tryd.underlying51 rfl ti51 (O rfl) (fun _ => (hs.box (i := 3) rfl).part 0 rfl) rfl) rfl <| ?_
  refine WS_store (us := [(.int .i64 r11.1.op), (.int .i64 r11.1.n), (.int .i64 r11.1.at_), (sl v13)]) (vs' := [(.int .i64 r11.1.op), (.int .i64 r11.1.n), (.int .i64 r11.1.at_), (sl v13)]) hs 5 rfl ti51 (O rfl) (O rfl) rfl rfl rfl rfl rfl ?_
  intro w29 hs
  replace hs := Sat.n9 (Γ := Φ) hs rfl
  refine WL_nil <| At_then ?_
  refine WC_ret ?_
  refine At_then_ret <| ?_
  refine At_r1 rfl (ResIs.cA (vs := [(.int .i64 r11.1.op), (.int .i64 r11.1.n), (.int .i64 r11.1.at_), (sl v13)]) rfl Tryd.underlying51 rfl ti51 ((hs.box (i := 5) rfl).part 0 rfl) rfl) ?_
  cases hm
  exact ⟨v13, R14, rfl, (hs.re 9 [4, 0, 1, 2] rfl)⟩
 ·
  replace hm := bif_f hc28 hm
  refine WC_skip ?_
  refine At_then <| WC_seq <| WC_region ?_
  refine W ?_
  obtain ⟨r30, hr31, hm⟩ := bind_some' hm
  refine WL_call (f := 84) (first := []) (cap := []) (xs := [(.tmp 33)]) (vs := [(.pointer (some ⟨b, 0, none⟩))]) (args := [(.pointer (some ⟨b, 0, none⟩))]) Tryd.call84 Opd.f (.cons (O rfl) .nil) rfl rfl (expr_read_next_s3_ok (hs.re 9 [0, 1, 2, 3, 4, 5, 6, 7, 8] rfl) hr31) ?_
  rintro _ w32 ⟨rfl, hs⟩
  replace hs := Sat.n9 (Γ := Φ) hs rfl
  refine WS_alloc (zs := [(.int .i64 0), (S []), (.int .i64 0), (.int .i64 0)]) hs ti28 rfl rfl ?_
  intro b33 w34 hs
  replace hs := Sat.n10 (Γ := Φ) hs rfl
  refine WS_store (us := [(.int .i64 r30.1), (S r30.2.1), (.int .i64 r30.2.2.1), (.int .i64 r30.2.2.2)]) (vs' := [(.int .i64 r30.1), (S r30.2.1), (.int .i64 r30.2.2.1), (.int .i64 r30.2.2.2)]) hs 0 rfl ti28 (O rfl) (O rfl) rfl rfl rfl rfl rfl ?_
  intro w35 hs
  replace hs := Sat.n10 (Γ := Φ) hs rfl
  refine WL_nil <| At_then <| WC_seq <| WC_region ?_
  iterate 7 refine W ?_
  refine WS_store (us := [(.int .i64 (IntKind.i64.wrap (r11.2.1 + 1)))]) (vs' := [(sl v4), (.int .i64 (IntKind.i64.wrap (r11.2.1 + 1))), (sl v6), (.int .i64 r11.2.2.1), (.int .i64 r11.2.2.2.1), (.int .i64 r11.2.2.2.2)]) hs 1 rfl ti3 (O rfl) (O rfl) rfl rfl rfl rfl rfl ?_
  intro w36 hs
  replace hs := Sat.n10 (Γ := Φ) hs rfl
  refine WL_nil <| At_then <| WC_seq <| WC_region ?_
  iterate 2 refine W ?_
  obtain ⟨r37, hr38, hm⟩ := bind_some' hm
  refine WL_call (f := 77) (first := []) (cap := []) (xs := [(.tmp 42), (.tmp 43)]) (vs := [(.pointer (some ⟨b, 0, none⟩)), (.func (.func 90) #[] #[])]) (args := [(.pointer (some ⟨b, 0, none⟩)), (.func (.func 90) #[] #[])]) Tryd.call77 Opd.f (.cons (O rfl) (.cons (O rfl) .nil)) rfl rfl (ih_expr_read_lower_s13 (hs.re 10 [1, 2, 3, 8, 9, 0, 4, 5, 6, 7, 8, 9] rfl) hr38) ?_
  rintro _ w41 ⟨v39, R40, rfl, hs⟩
  replace hs := Sat.n11 (Γ := Φ) hs rfl
  refine WS_alloc (zs := [(.int .i64 0), (.int .i64 0), (.int .i64 0), (sl (none, 0, 0))]) hs ti51 rfl rfl ?_
  intro b42 w43 hs
  replace hs := Sat.n12 (Γ := Φ) hs rfl
  refine WS_store (us := [(.int .i64 r37.1.op), (.int .i64 r37.1.n), (.int .i64 r37.1.at_), (sl v39)]) (vs' := [(.int .i64 r37.1.op), (.int .i64 r37.1.n), (.int .i64 r37.1.at_), (sl v39)]) hs 0 rfl ti51 (O rfl) (O rfl) rfl rfl rfl rfl rfl ?_
  intro w44 hs
  replace hs := Sat.n12 (Γ := Φ) hs rfl
  refine WL_nil <| At_then <| WC_seq <| WC_region ?_
  iterate 3 refine W ?_
  refine Wo (Run_loadA (vs := [(.int .i64 r11.1.op), (.int .i64 r11.1.n), (.int .i64 r11.1.at_), (sl v13)]) Tryd.underlying51 rfl ti51 (O rfl) (fun _ => (hs.box (i := 6) rfl).part 0 rfl) rfl) rfl <| Wo (Run_loadA (vs := [(.int .i64 r37.1.op), (.int .i64 r37.1.n), (.int .i64 r37.1.at_), (sl v39)]) Tryd.underlying51 rfl ti51 (O rfl) (fun _ => (hs.box (i := 0) rfl).part 0 rfl) rfl) rfl <| ?_
  replace hs := hs.freeze (i := 7) rfl
  replace hs := hs.freeze (i := 1) rfl
  refine WS_lit (A := RExpr) (xs := [r11.1, r37.1]) (zs := [(.int .i64 0), (.int .i64 0), (.int .i64 0), (sl (none, 0, 0))]) (cells := [(.int .i64 r11.1.op), (.int .i64 r11.1.n), (.int .i64 r11.1.at_), (sl v13), (.int .i64 r37.1.op), (.int .i64 r37.1.n), (.int .i64 r37.1.at_), (sl v39)]) (parts := [(0, (.tmp 48)), (1, (.tmp 49))]) hs Tryd.underlying49 ti51 rfl rfl rfl (.cons (O rfl) (.cons (O rfl) .nil)) (by kernel_rfl) rfl (ARd.cons (A := RExpr) (c := [(.int .i64 r11.1.op), (.int .i64 r11.1.n), (.int .i64 r11.1.at_), (sl v13)]) (x := r11.1) (RExpr_closeE (⟨_, rfl, (hs.sl (i := 7) rfl)⟩)) (ARd.cons (A := RExpr) (c := [(.int .i64 r37.1.op), (.int .i64 r37.1.n), (.int .i64 r37.1.at_), (sl v39)]) (x := r37.1) (RExpr_closeE (⟨_, rfl, (hs.sl (i := 1) rfl)⟩)) ARd.nil)) rfl ?_
  intro b45 w46 hs
  replace hs := Sat.n13 (Γ := Φ) hs rfl
  refine Wo (Run_build (parts := [(0, (.tmp 45)), (2, (.tmp 47)), (3, (.tmp 50))]) (v := (.agg #[(.int .i64 r19.1), (.int .i64 0), (.int .i64 r30.2.2.2), (sl (some ⟨b45, 0, none⟩, 2, 2))])) (.cons (O rfl) (.cons (O rfl) (.cons (O rfl) .nil))) (fun _ => by kernel_rfl)) rfl <| ?_
  refine WS_store (us := [(.int .i64 r19.1), (.int .i64 0), (.int .i64 r30.2.2.2), (sl (some ⟨b45, 0, none⟩, 2, 2))]) (vs' := [(.int .i64 r19.1), (.int .i64 0), (.int .i64 r30.2.2.2), (sl (some ⟨b45, 0, none⟩, 2, 2))]) hs 9 rfl ti51 (O rfl) (O rfl) rfl rfl rfl rfl rfl ?_
  intro w47 hs
  replace hs := Sat.n13 (Γ := Φ) hs rfl
  refine WL_nil <| At_then ?_
  refine WC_ret ?_
  refine At_r1 rfl (ResIs.cA (vs := [(.int .i64 r19.1), (.int .i64 0), (.int .i64 r30.2.2.2), (sl (some ⟨b45, 0, none⟩, 2, 2))]) rfl Tryd.underlying51 rfl ti51 ((hs.box (i := 9) rfl).part 0 rfl) rfl) ?_
  cases hm
  exact ⟨(some ⟨b45, 0, none⟩, 2, 2), [b45], rfl, (hs.re 13 [0, 3, 4, 5] rfl)⟩
theorem expr_read_until_s3_ok {k_expr_read_lower_s11 k_expr_read_lower_s13} (ih_expr_read_lower_s11 : ∀ {Φ : Ctx} {w : World} {l : Q3} {at_ : Int} {names : (List Str)} {deep : Int} {bad : Int} {place : Int} {b : Nat} {v2 : SLV} {R : List Nat} {v4 : SLV} {R5 : List Nat} {r : Q4}, Sat (box b 115 [(sl v2), (.int .i64 at_), (sl v4), (.int .i64 deep), (.int .i64 bad), (.int .i64 place)] :: osl Q1 28 (sl v2) l R :: osl RS 9 (sl v4) names R5 :: gl 0 (keysL.map S) :: gl 1 (textsL.map S) :: Φ) w → k_expr_read_lower_s11 (l, at_, names, deep, bad, place) = some r → CallsR Tryd.prog 77 [(.pointer (some ⟨b, 0, none⟩)), (.func (.func 78) #[] #[])] w (fun v w' => ∃ v3 : SLV, ∃ R4 : List Nat, v = (.agg #[(.int .i64 r.1.op), (.int .i64 r.1.n), (.int .i64 r.1.at_), (sl v3)]) ∧ Sat (osl RExpr 51 (sl v3) r.1.l R4 :: box b 115 [(sl v2), (.int .i64 r.2.1), (sl v4), (.int .i64 r.2.2.1), (.int .i64 r.2.2.2.1), (.int .i64 r.2.2.2.2)] :: osl Q1 28 (sl v2) l R :: osl RS 9 (sl v4) names R5 :: Φ) w')) (ih_expr_read_lower_s13 : ∀ {Φ : Ctx} {w : World} {l : Q3} {at_ : Int} {names : (List Str)} {deep : Int} {bad : Int} {place : Int} {b : Nat} {v2 : SLV} {R : List Nat} {v4 : SLV} {R5 : List Nat} {r : Q4}, Sat (box b 115 [(sl v2), (.int .i64 at_), (sl v4), (.int .i64 deep), (.int .i64 bad), (.int .i64 place)] :: osl Q1 28 (sl v2) l R :: osl RS 9 (sl v4) names R5 :: gl 0 (keysL.map S) :: gl 1 (textsL.map S) :: Φ) w → k_expr_read_lower_s13 (l, at_, names, deep, bad, place) = some r → CallsR Tryd.prog 77 [(.pointer (some ⟨b, 0, none⟩)), (.func (.func 90) #[] #[])] w (fun v w' => ∃ v3 : SLV, ∃ R4 : List Nat, v = (.agg #[(.int .i64 r.1.op), (.int .i64 r.1.n), (.int .i64 r.1.at_), (sl v3)]) ∧ Sat (osl RExpr 51 (sl v3) r.1.l R4 :: box b 115 [(sl v2), (.int .i64 r.2.1), (sl v4), (.int .i64 r.2.2.1), (.int .i64 r.2.2.2.1), (.int .i64 r.2.2.2.2)] :: osl Q1 28 (sl v2) l R :: osl RS 9 (sl v4) names R5 :: Φ) w')) {Φ : Ctx} {w : World} {l : Q3} {at_ : Int} {names : (List Str)} {deep : Int} {bad : Int} {place : Int} {b : Nat} {v2 : SLV} {R : List Nat} {v4 : SLV} {R5 : List Nat} {r : Q4} (hs : Sat (box b 115 [(sl v2), (.int .i64 at_), (sl v4), (.int .i64 deep), (.int .i64 bad), (.int .i64 place)] :: osl Q1 28 (sl v2) l R :: osl RS 9 (sl v4) names R5 :: gl 0 (keysL.map S) :: gl 1 (textsL.map S) :: Φ) w) (hm : expr_read_until_s3 k_expr_read_lower_s11 k_expr_read_lower_s13 l at_ names deep bad place = some r) :
  CallsR Tryd.prog 90 [(.pointer (some ⟨b, 0, none⟩))] w (fun v w' => ∃ v3 : SLV, ∃ R4 : List Nat, v = (.agg #[(.int .i64 r.1.op), (.int .i64 r.1.n), (.int .i64 r.1.at_), (sl v3)]) ∧ Sat (osl RExpr 51 (sl v3) r.1.l R4 :: box b 115 [(sl v2), (.int .i64 r.2.1), (sl v4), (.int .i64 r.2.2.1), (.int .i64 r.2.2.2.1), (.int .i64 r.2.2.2.2)] :: osl Q1 28 (sl v2) l R :: osl RS 9 (sl v4) names R5 :: Φ) w') := by
 refine CallsX_enter Tryd.func90 rfl Tryd.ntmps90 rfl ?_
 unfold expr_read_until_s3 at hm
 refine WC_seq <| WC_region ?_
 refine WS_alloc (zs := [(.int .i64 0), (.int .i64 0), (.int .i64 0), (sl (none, 0, 0))]) hs ti51 rfl rfl ?_
 intro b9 w10 hs
 replace hs := Sat.n6 (Γ := Φ) hs rfl
 refine WL_nil <| At_then <| WC_seq <| WC_region ?_
 refine W ?_
 refine WS_lit (A := (RI .i64)) (xs := [23, 24]) (zs := [(.int .i64 0)]) (cells := [(.int .i64 23), (.int .i64 24)]) (parts := [(0, (.const (.int .i64 23))), (1, (.const (.int .i64 24)))]) hs Tryd.underlying30 ti3 rfl rfl rfl (.cons Opd.c (.cons Opd.c .nil)) (by kernel_rfl) rfl (ARd.cons (A := (RI .i64)) (c := [(.int .i64 23)]) (x := 23) rfl (ARd.cons (A := (RI .i64)) (c := [(.int .i64 24)]) (x := 24) rfl ARd.nil)) rfl ?_
 intro b11 w12 hs
 replace hs := Sat.n7 (Γ := Φ) hs rfl
 replace hs := hs.freeze (i := 0) rfl
 obtain ⟨r13, hr14, hm⟩ := bind_some' hm
 refine WL_call (f := 81) (first := []) (cap := []) (xs := [(.tmp 3), (.func 91), (.func 90), (.tmp 4)]) (vs := [(.pointer (some ⟨b, 0, none⟩)), (.func (.func 91) #[] #[]), (.func (.func 90) #[] #[]), (sl (some ⟨b11, 0, none⟩, 2, 2))]) (args := [(.pointer (some ⟨b, 0, none⟩)), (.func (.func 91) #[] #[]), (.func (.func 90) #[] #[]), (sl (some ⟨b11, 0, none⟩, 2, 2))]) Tryd.call81 Opd.f (.cons (O rfl) (.cons Opd.f (.cons Opd.f (.cons (O rfl) .nil)))) rfl rfl (expr_read_right_s9_ok (@ih_expr_read_lower_s11) (@ih_expr_read_lower_s13) (hs.re 7 [2, 0, 3, 4, 5, 6, 0, 1, 5, 6] rfl) hr14) ?_
 rintro _ w17 ⟨v15, R16, rfl, hs⟩
 replace hs := Sat.n8 (Γ := Φ) hs rfl
 refine WS_store (us := [(.int .i64 r13.1.op), (.int .i64 r13.1.n), (.int .i64 r13.1.at_), (sl v15)]) (vs' := [(.int .i64 r13.1.op), (.int .i64 r13.1.n), (.int .i64 r13.1.at_), (sl v15)]) hs 5 rfl ti51 (O rfl) (O rfl) rfl rfl rfl rfl rfl ?_
 intro w18 hs
 replace hs := Sat.n8 (Γ := Φ) hs rfl
 refine WL_nil <| At_then ?_
 refine WC_ret ?_
 refine At_r1 rfl (ResIs.cA (vs := [(.int .i64 r13.1.op), (.int .i64 r13.1.n), (.int .i64 r13.1.at_), (sl v15)]) rfl Tryd.underlying51 rfl ti51 ((hs.box (i := 5) rfl).part 0 rfl) rfl) ?_
 cases hm
 exact ⟨v15, R16, rfl, (hs.re 8 [0, 1, 2, 3] rfl)⟩
theorem expr_read_lower_s13_F_ok {k_expr_read_lower_s11 k_expr_read_lower_s13} (ih_expr_read_lower_s11 : ∀ {Φ : Ctx} {w : World} {l : Q3} {at_ : Int} {names : (List Str)} {deep : Int} {bad : Int} {place : Int} {b : Nat} {v2 : SLV} {R : List Nat} {v4 : SLV} {R5 : List Nat} {r : Q4}, Sat (box b 115 [(sl v2), (.int .i64 at_), (sl v4), (.int .i64 deep), (.int .i64 bad), (.int .i64 place)] :: osl Q1 28 (sl v2) l R :: osl RS 9 (sl v4) names R5 :: gl 0 (keysL.map S) :: gl 1 (textsL.map S) :: Φ) w → k_expr_read_lower_s11 (l, at_, names, deep, bad, place) = some r → CallsR Tryd.prog 77 [(.pointer (some ⟨b, 0, none⟩)), (.func (.func 78) #[] #[])] w (fun v w' => ∃ v3 : SLV, ∃ R4 : List Nat, v = (.agg #[(.int .i64 r.1.op), (.int .i64 r.1.n), (.int .i64 r.1.at_), (sl v3)]) ∧ Sat (osl RExpr 51 (sl v3) r.1.l R4 :: box b 115 [(sl v2), (.int .i64 r.2.1), (sl v4), (.int .i64 r.2.2.1), (.int .i64 r.2.2.2.1), (.int .i64 r.2.2.2.2)] :: osl Q1 28 (sl v2) l R :: osl RS 9 (sl v4) names R5 :: Φ) w')) (ih_expr_read_lower_s13 : ∀ {Φ : Ctx} {w : World} {l : Q3} {at_ : Int} {names : (List Str)} {deep : Int} {bad : Int} {place : Int} {b : Nat} {v2 : SLV} {R : List Nat} {v4 : SLV} {R5 : List Nat} {r : Q4}, Sat (box b 115 [(sl v2), (.int .i64 at_), (sl v4), (.int .i64 deep), (.int .i64 bad), (.int .i64 place)] :: osl Q1 28 (sl v2) l R :: osl RS 9 (sl v4) names R5 :: gl 0 (keysL.map S) :: gl 1 (textsL.map S) :: Φ) w → k_expr_read_lower_s13 (l, at_, names, deep, bad, place) = some r → CallsR Tryd.prog 77 [(.pointer (some ⟨b, 0, none⟩)), (.func (.func 90) #[] #[])] w (fun v w' => ∃ v3 : SLV, ∃ R4 : List Nat, v = (.agg #[(.int .i64 r.1.op), (.int .i64 r.1.n), (.int .i64 r.1.at_), (sl v3)]) ∧ Sat (osl RExpr 51 (sl v3) r.1.l R4 :: box b 115 [(sl v2), (.int .i64 r.2.1), (sl v4), (.int .i64 r.2.2.1), (.int .i64 r.2.2.2.1), (.int .i64 r.2.2.2.2)] :: osl Q1 28 (sl v2) l R :: osl RS 9 (sl v4) names R5 :: Φ) w')) {Φ : Ctx} {w : World} {l : Q3} {at_ : Int} {names : (List Str)} {deep : Int} {bad : Int} {place : Int} {b : Nat} {v2 : SLV} {R : List Nat} {v4 : SLV} {R5 : List Nat} {r : Q4} (hs : Sat (box b 115 [(sl v2), (.int .i64 at_), (sl v4), (.int .i64 deep), (.int .i64 bad), (.int .i64 place)] :: osl Q1 28 (sl v2) l R :: osl RS 9 (sl v4) names R5 :: gl 0 (keysL.map S) :: gl 1 (textsL.map S) :: Φ) w) (hm : expr_read_lower_s13_F k_expr_read_lower_s11 k_expr_read_lower_s13 l at_ names deep bad place = some r) :
  CallsR Tryd.prog 77 [(.pointer (some ⟨b, 0, none⟩)), (.func (.func 90) #[] #[])] w (fun v w' => ∃ v3 : SLV, ∃ R4 : List Nat, v = (.agg #[(.int .i64 r.1.op), (.int .i64 r.1.n), (.int .i64 r.1.at_), (sl v3)]) ∧ Sat (osl RExpr 51 (sl v3) r.1.l R4 :: box b 115 [(sl v2), (.int .i64 r.2.1), (sl v4), (.int .i64 r.2.2.1), (.int .i64 r.2.2.2.1), (.int .i64 r.2.2.2.2)] :: osl Q1 28 (sl v2) l R :: osl RS 9 (sl v4) names R5 :: Φ) w') := by
 refine CallsX_enter Tryd.func77 rfl Tryd.ntmps77 rfl ?_
 unfold expr_read_lower_s13_F at hm
 refine WC_seq <| WC_region ?_
 refine WS_alloc (zs := [(.int .i64 0), (.int .i64 0), (.int .i64 0), (sl (none, 0, 0))]) hs ti51 rfl rfl ?_
 intro b9 w10 hs
 replace hs := Sat.n6 (Γ := Φ) hs rfl
 refine WL_nil <| At_then <| WC_seq <| WC_seq <| WC_region ?_
 iterate 5 refine W ?_
 refine WL_nil <| At_then ?_
 refine WC_cond (O rfl) (fun hc11 => ?_) (fun hc11 => ?_)
 ·
  replace hm := bif_t hc11 hm
  refine WC_seq <| WC_region ?_
  refine W ?_
  obtain ⟨r12, hr13, hm⟩ := bind_some' hm
  refine WL_call (f := 80) (first := []) (cap := []) (xs := [(.tmp 11), (.const (.int .i64 9))]) (vs := [(.pointer (some ⟨b, 0, none⟩)), (.int .i64 9)]) (args := [(.pointer (some ⟨b, 0, none⟩)), (.int .i64 9)]) Tryd.call80 Opd.f (.cons (O rfl) (.cons Opd.c .nil)) rfl rfl (expr_read_fail_s3_ok (hs.re 6 [1, 2, 3, 0, 4, 5] rfl) hr13) ?_
  rintro _ w16 ⟨v14, R15, rfl, hs⟩
  replace hs := Sat.n7 (Γ := Φ) hs rfl
  refine WS_store (us := [(.int .i64 r12.1.op), (.int .i64 r12.1.n), (.int .i64 r12.1.at_), (sl v14)]) (vs' := [(.int .i64 r12.1.op), (.int .i64 r12.1.n), (.int .i64 r12.1.at_), (sl v14)]) hs 4 rfl ti51 (O rfl) (O rfl) rfl rfl rfl rfl rfl ?_
  intro w17 hs
  replace hs := Sat.n7 (Γ := Φ) hs rfl
  refine WL_nil <| At_then ?_
  refine WC_ret ?_
  refine At_then_ret <| ?_
  refine At_r1 rfl (ResIs.cA (vs := [(.int .i64 r12.1.op), (.int .i64 r12.1.n), (.int .i64 r12.1.at_), (sl v14)]) rfl Tryd.underlying51 rfl ti51 ((hs.box (i := 4) rfl).part 0 rfl) rfl) ?_
  cases hm
  exact ⟨v14, R15, rfl, (hs.re 7 [0, 1, 2, 3] rfl)⟩
 ·
  replace hm := bif_f hc11 hm
  refine WC_skip ?_
  refine At_then <| WC_seq <| WC_region ?_
  iterate 7 refine W ?_
  refine WS_store (us := [(.int .i64 (IntKind.i64.wrap (deep + 1)))]) (vs' := [(sl v2), (.int .i64 at_), (sl v4), (.int .i64 (IntKind.i64.wrap (deep + 1))), (.int .i64 bad), (.int .i64 place)]) hs 1 rfl ti3 (O rfl) (O rfl) rfl rfl rfl rfl rfl ?_
  intro w18 hs
  replace hs := Sat.n6 (Γ := Φ) hs rfl
  refine WL_nil <| At_then <| WC_seq <| WC_region ?_
  iterate 2 refine W ?_
  obtain ⟨r19, hr20, hm⟩ := bind_some' hm
  refine WL_call (f := 90) (first := []) (cap := []) (xs := [(.tmp 21)]) (vs := [(.pointer (some ⟨b, 0, none⟩))]) (args := [(.pointer (some ⟨b, 0, none⟩))]) Tryd.call90 (O rfl) (.cons (O rfl) .nil) rfl rfl (expr_read_until_s3_ok (@ih_expr_read_lower_s11) (@ih_expr_read_lower_s13) (hs.re 6 [1, 2, 3, 4, 5, 0, 4, 5] rfl) hr20) ?_
  rintro _ w23 ⟨v21, R22, rfl, hs⟩
  replace hs := Sat.n7 (Γ := Φ) hs rfl
  refine WS_alloc (zs := [(.int .i64 0), (.int .i64 0), (.int .i64 0), (sl (none, 0, 0))]) hs ti51 rfl rfl ?_
  intro b24 w25 hs
  replace hs := Sat.n8 (Γ := Φ) hs rfl
  refine WS_store (us := [(.int .i64 r19.1.op), (.int .i64 r19.1.n), (.int .i64 r19.1.at_), (sl v21)]) (vs' := [(.int .i64 r19.1.op), (.int .i64 r19.1.n), (.int .i64 r19.1.at_), (sl v21)]) hs 0 rfl ti51 (O rfl) (O rfl) rfl rfl rfl rfl rfl ?_
  intro w26 hs
  replace hs := Sat.n8 (Γ := Φ) hs rfl
  refine WL_nil <| At_then <| WC_seq <| WC_region ?_
  iterate 7 refine W ?_
  refine WS_store (us := [(.int .i64 (IntKind.i64.wrap (r19.2.2.1 - 1)))]) (vs' := [(sl v2), (.int .i64 r19.2.1), (sl v4), (.int .i64 (IntKind.i64.wrap (r19.2.2.1 - 1))), (.int .i64 r19.2.2.2.1), (.int .i64 r19.2.2.2.2)]) hs 2 rfl ti3 (O rfl) (O rfl) rfl rfl rfl rfl rfl ?_
  intro w27 hs
  replace hs := Sat.n8 (Γ := Φ) hs rfl
  refine WL_nil <| At_then <| WC_seq <| WC_region ?_
  refine Wo (Run_loadA (vs := [(.int .i64 r19.1.op), (.int .i64 r19.1.n), (.int .i64 r19.1.at_), (sl v21)]) Tryd.underlying51 rfl ti51 (O rfl) (fun _ => (hs.box (i := 0) rfl).part 0 rfl) rfl) rfl <| ?_
  refine WS_store (us := [(.int .i64 r19.1.op), (.int .i64 r19.1.n), (.int .i64 r19.1.at_), (sl v21)]) (vs' := [(.int .i64 r19.1.op), (.int .i64 r19.1.n), (.int .i64 r19.1.at_), (sl v21)]) hs 5 rfl ti51 (O rfl) (O rfl) rfl rfl rfl rfl rfl ?_
  intro w28 hs
  replace hs := Sat.n8 (Γ := Φ) hs rfl
  refine WL_nil <| At_then ?_
  refine WC_ret ?_
  refine At_r1 rfl (ResIs.cA (vs := [(.int .i64 r19.1.op), (.int .i64 r19.1.n), (.int .i64 r19.1.at_), (sl v21)]) rfl Tryd.underlying51 rfl ti51 ((hs.box (i := 5) rfl).part 0 rfl) rfl) ?_
  cases hm
  exact ⟨v21, R22, rfl, (hs.re 8 [1, 2, 3, 4] rfl)⟩
theorem expr_read_lower_s13_ok {k_expr_read_lower_s11} (ih_expr_read_lower_s11 : ∀ {Φ : Ctx} {w : World} {l : Q3} {at_ : Int} {names : (List Str)} {deep : Int} {bad : Int} {place : Int} {b : Nat} {v2 : SLV} {R : List Nat} {v4 : SLV} {R5 : List Nat} {r : Q4}, Sat (box b 115 [(sl v2), (.int .i64 at_), (sl v4), (.int .i64 deep), (.int .i64 bad), (.int .i64 place)] :: osl Q1 28 (sl v2) l R :: osl RS 9 (sl v4) names R5 :: gl 0 (keysL.map S) :: gl 1 (textsL.map S) :: Φ) w → k_expr_read_lower_s11 (l, at_, names, deep, bad, place) = some r → CallsR Tryd.prog 77 [(.pointer (some ⟨b, 0, none⟩)), (.func (.func 78) #[] #[])] w (fun v w' => ∃ v3 : SLV, ∃ R4 : List Nat, v = (.agg #[(.int .i64 r.1.op), (.int .i64 r.1.n), (.int .i64 r.1.at_), (sl v3)]) ∧ Sat (osl RExpr 51 (sl v3) r.1.l R4 :: box b 115 [(sl v2), (.int .i64 r.2.1), (sl v4), (.int .i64 r.2.2.1), (.int .i64 r.2.2.2.1), (.int .i64 r.2.2.2.2)] :: osl Q1 28 (sl v2) l R :: osl RS 9 (sl v4) names R5 :: Φ) w')) {Φ : Ctx} {w : World} {l : Q3} {at_ : Int} {names : (List Str)} {deep : Int} {bad : Int} {place : Int} {b : Nat} {v2 : SLV} {R : List Nat} {v4 : SLV} {R5 : List Nat} {r : Q4} (hs : Sat (box b 115 [(sl v2), (.int .i64 at_), (sl v4), (.int .i64 deep), (.int .i64 bad), (.int .i64 place)] :: osl Q1 28 (sl v2) l R :: osl RS 9 (sl v4) names R5 :: gl 0 (keysL.map S) :: gl 1 (textsL.map S) :: Φ) w) (hm : expr_read_lower_s13 k_expr_read_lower_s11 l at_ names deep bad place = some r) :
  CallsR Tryd.prog 77 [(.pointer (some ⟨b, 0, none⟩)), (.func (.func 90) #[] #[])] w (fun v w' => ∃ v3 : SLV, ∃ R4 : List Nat, v = (.agg #[(.int .i64 r.1.op), (.int .i64 r.1.n), (.int .i64 r.1.at_), (sl v3)]) ∧ Sat (osl RExpr 51 (sl v3) r.1.l R4 :: box b 115 [(sl v2), (.int .i64 r.2.1), (sl v4), (.int .i64 r.2.2.1), (.int .i64 r.2.2.2.1), (.int .i64 r.2.2.2.2)] :: osl Q1 28 (sl v2) l R :: osl RS 9 (sl v4) names R5 :: Φ) w') := by
 have key : ∀ (N : Nat) {Φ : Ctx} {w : World} {l : Q3} {at_ : Int} {names : (List Str)} {deep : Int} {bad : Int} {place : Int} {b : Nat} {v2 : SLV} {R : List Nat} {v4 : SLV} {R5 : List Nat} {r : Q4}, Sat (box b 115 [(sl v2), (.int .i64 at_), (sl v4), (.int .i64 deep), (.int .i64 bad), (.int .i64 place)] :: osl Q1 28 (sl v2) l R :: osl RS 9 (sl v4) names R5 :: gl 0 (keysL.map S) :: gl 1 (textsL.map S) :: Φ) w → fixN (fun k (s : (Q3 × Int × (List Str) × Int × Int × Int)) => expr_read_lower_s13_F k_expr_read_lower_s11 k s.1 s.2.1 s.2.2.1 s.2.2.2.1 s.2.2.2.2.1 s.2.2.2.2.2) N (l, at_, names, deep, bad, place) = some r → CallsR Tryd.prog 77 [(.pointer (some ⟨b, 0, none⟩)), (.func (.func 90) #[] #[])] w (fun v w' => ∃ v3 : SLV, ∃ R4 : List Nat, v = (.agg #[(.int .i64 r.1.op), (.int .i64 r.1.n), (.int .i64 r.1.at_), (sl v3)]) ∧ Sat (osl RExpr 51 (sl v3) r.1.l R4 :: box b 115 [(sl v2), (.int .i64 r.2.1), (sl v4), (.int .i64 r.2.2.1), (.int .i64 r.2.2.2.1), (.int .i64 r.2.2.2.2)] :: osl Q1 28 (sl v2) l R :: osl RS 9 (sl v4) names R5 :: Φ) w') := by
  intro N
  induction N with
  | zero => intros; rename_i h; cases h
  | succ N ih => intros; rename_i hs hm; rw [fixN_succ] at hm; exact expr_read_lower_s13_F_ok (@ih_expr_read_lower_s11) (@ih) hs hm
 unfold expr_read_lower_s13 at hm
 exact key FUEL hs hm
theorem expr_read_deepUntil_s3_ok {k_expr_read_lower_s11} (ih_expr_read_lower_s11 : ∀ {Φ : Ctx} {w : World} {l : Q3} {at_ : Int} {names : (List Str)} {deep : Int} {bad : Int} {place : Int} {b : Nat} {v2 : SLV} {R : List Nat} {v4 : SLV} {R5 : List Nat} {r : Q4}, Sat (box b 115 [(sl v2), (.int .i64 at_), (sl v4), (.int .i64 deep), (.int .i64 bad), (.int .i64 place)] :: osl Q1 28 (sl v2) l R :: osl RS 9 (sl v4) names R5 :: gl 0 (keysL.map S) :: gl 1 (textsL.map S) :: Φ) w → k_expr_read_lower_s11 (l, at_, names, deep, bad, place) = some r → CallsR Tryd.prog 77 [(.pointer (some ⟨b, 0, none⟩)), (.func (.func 78) #[] #[])] w (fun v w' => ∃ v3 : SLV, ∃ R4 : List Nat, v = (.agg #[(.int .i64 r.1.op), (.int .i64 r.1.n), (.int .i64 r.1.at_), (sl v3)]) ∧ Sat (osl RExpr 51 (sl v3) r.1.l R4 :: box b 115 [(sl v2), (.int .i64 r.2.1), (sl v4), (.int .i64 r.2.2.1), (.int .i64 r.2.2.2.1), (.int .i64 r.2.2.2.2)] :: osl Q1 28 (sl v2) l R :: osl RS 9 (sl v4) names R5 :: Φ) w')) {Φ : Ctx} {w : World} {l : Q3} {at_ : Int} {names : (List Str)} {deep : Int} {bad : Int} {place : Int} {b : Nat} {v2 : SLV} {R : List Nat} {v4 : SLV} {R5 : List Nat} {r : Q4} (hs : Sat (box b 115 [(sl v2), (.int .i64 at_), (sl v4), (.int .i64 deep), (.int .i64 bad), (.int .i64 place)] :: osl Q1 28 (sl v2) l R :: osl RS 9 (sl v4) names R5 :: gl 0 (keysL.map S) :: gl 1 (textsL.map S) :: Φ) w) (hm : expr_read_deepUntil_s3 k_expr_read_lower_s11 l at_ names deep bad place = some r) :
  CallsR Tryd.prog 89 [(.pointer (some ⟨b, 0, none⟩))] w (fun v w' => ∃ v3 : SLV, ∃ R4 : List Nat, v = (.agg #[(.int .i64 r.1.op), (.int .i64 r.1.n), (.int .i64 r.1.at_), (sl v3)]) ∧ Sat (osl RExpr 51 (sl v3) r.1.l R4 :: box b 115 [(sl v2), (.int .i64 r.2.1), (sl v4), (.int .i64 r.2.2.1), (.int .i64 r.2.2.2.1), (.int .i64 r.2.2.2.2)] :: osl Q1 28 (sl v2) l R :: osl RS 9 (sl v4) names R5 :: Φ) w') := by
 refine CallsX_enter Tryd.func89 rfl Tryd.ntmps89 rfl ?_
 unfold expr_read_deepUntil_s3 at hm
 refine WC_seq <| WC_region ?_
 refine WS_alloc (zs := [(.int .i64 0), (.int .i64 0), (.int .i64 0), (sl (none, 0, 0))]) hs ti51 rfl rfl ?_
 intro b9 w10 hs
 replace hs := Sat.n6 (Γ := Φ) hs rfl
 refine WL_nil <| At_then <| WC_seq <| WC_region ?_
 refine W ?_
 obtain ⟨r11, hr12, hm⟩ := bind_some' hm
 refine WL_call (f := 77) (first := []) (cap := []) (xs := [(.tmp 3), (.func 90)]) (vs := [(.pointer (some ⟨b, 0, none⟩)), (.func (.func 90) #[] #[])]) (args := [(.pointer (some ⟨b, 0, none⟩)), (.func (.func 90) #[] #[])]) Tryd.call77 Opd.f (.cons (O rfl) (.cons Opd.f .nil)) rfl rfl (expr_read_lower_s13_ok (@ih_expr_read_lower_s11) (hs.re 6 [1, 2, 3, 4, 5, 0, 4, 5] rfl) hr12) ?_
 rintro _ w15 ⟨v13, R14, rfl, hs⟩
 replace hs := Sat.n7 (Γ := Φ) hs rfl
 refine WS_store (us := [(.int .i64 r11.1.op), (.int .i64 r11.1.n), (.int .i64 r11.1.at_), (sl v13)]) (vs' := [(.int .i64 r11.1.op), (.int .i64 r11.1.n), (.int .i64 r11.1.at_), (sl v13)]) hs 4 rfl ti51 (O rfl) (O rfl) rfl rfl rfl rfl rfl ?_
 intro w16 hs
 replace hs := Sat.n7 (Γ := Φ) hs rfl
 refine WL_nil <| At_then ?_
 refine WC_ret ?_
 refine At_r1 rfl (ResIs.cA (vs := [(.int .i64 r11.1.op), (.int .i64 r11.1.n), (.int .i64 r11.1.at_), (sl v13)]) rfl Tryd.underlying51 rfl ti51 ((hs.box (i := 4) rfl).part 0 rfl) rfl) ?_
 cases hm
 exact ⟨v13, R14, rfl, (hs.re 7 [0, 1, 2, 3] rfl)⟩
end Go.Proofs.YtdhgpnejphlfpaaDoor
namespace Go.Proofs.YtdhgpnejphlfpaaDoor
open Go.Proofs
theorem expr_read_left_s10_ok {k_expr_read_lower_s11} (ih_expr_read_lower_s11 : ∀ {Φ : Ctx} {w : World} {l : Q3} {at_ : Int} {names : (List Str)} {deep : Int} {bad : Int} {place : Int} {b : Nat} {v2 : SLV} {R : List Nat} {v4 : SLV} {R5 : List Nat} {r : Q4}, Sat (box b 115 [(sl v2), (.int .i64 at_), (sl v4), (.int .i64 deep), (.int .i64 bad), (.int .i64 place)] :: osl Q1 28 (sl v2) l R :: osl RS 9 (sl v4) names R5 :: gl 0 (keysL.map S) :: gl 1 (textsL.map S) :: Φ) w → k_expr_read_lower_s11 (l, at_, names, deep, bad, place) = some r → CallsR Tryd.prog 77 [(.pointer (some ⟨b, 0, none⟩)), (.func (.func 78) #[] #[])] w (fun v w' => ∃ v3 : SLV, ∃ R4 : List Nat, v = (.agg #[(.int .i64 r.1.op), (.int .i64 r.1.n), (.int .i64 r.1.at_), (sl v3)]) ∧ Sat (osl RExpr 51 (sl v3) r.1.l R4 :: box b 115 [(sl v2), (.int .i64 r.2.1), (sl v4), (.int .i64 r.2.2.1), (.int .i64 r.2.2.2.1), (.int .i64 r.2.2.2.2)] :: osl Q1 28 (sl v2) l R :: osl RS 9 (sl v4) names R5 :: Φ) w')) {Φ : Ctx} {w : World} {ops : (List Int)} {l : Q3} {at_ : Int} {names : (List Str)} {deep : Int} {bad : Int} {place : Int} {b : Nat} {v2 : SLV} {v4 : SLV} {R : List Nat} {v6 : SLV} {R7 : List Nat} {r : Q4} (hs : Sat (box b 115 [(sl v4), (.int .i64 at_), (sl v6), (.int .i64 deep), (.int .i64 bad), (.int .i64 place)] :: imm Q8 [sl v2] ops :: osl Q1 28 (sl v4) l R :: osl RS 9 (sl v6) names R7 :: gl 0 (keysL.map S) :: gl 1 (textsL.map S) :: Φ) w) (hm : expr_read_left_s10 k_expr_read_lower_s11 ops l at_ names deep bad place = some r) :
  CallsR Tryd.prog 87 [(.pointer (some ⟨b, 0, none⟩)), (.func (.func 89) #[] #[]), (sl v2)] w (fun v w' => ∃ v3 : SLV, ∃ R4 : List Nat, v = (.agg #[(.int .i64 r.1.op), (.int .i64 r.1.n), (.int .i64 r.1.at_), (sl v3)]) ∧ Sat (osl RExpr 51 (sl v3) r.1.l R4 :: box b 115 [(sl v4), (.int .i64 r.2.1), (sl v6), (.int .i64 r.2.2.1), (.int .i64 r.2.2.2.1), (.int .i64 r.2.2.2.2)] :: osl Q1 28 (sl v4) l R :: osl RS 9 (sl v6) names R7 :: Φ) w') := by
 refine CallsX_enter Tryd.func87 rfl Tryd.ntmps87 rfl ?_
 unfold expr_read_left_s10 at hm
 refine WC_seq <| WC_region ?_
 refine WS_alloc (zs := [(.int .i64 0), (.int .i64 0), (.int .i64 0), (sl (none, 0, 0))]) hs ti51 rfl rfl ?_
 intro b9 w10 hs
 replace hs := Sat.n7 (Γ := Φ) hs rfl
 refine WL_nil <| At_then <| WC_seq <| WC_region ?_
 iterate 2 refine W ?_
 obtain ⟨r11, hr12, hm⟩ := bind_some' hm
 refine WL_call (f := 89) (first := []) (cap := []) (xs := [(.tmp 13)]) (vs := [(.pointer (some ⟨b, 0, none⟩))]) (args := [(.pointer (some ⟨b, 0, none⟩))]) Tryd.call89 (O rfl) (.cons (O rfl) .nil) rfl rfl (expr_read_deepUntil_s3_ok (@ih_expr_read_lower_s11) (hs.re 7 [1, 3, 4, 5, 6, 0, 2, 5, 6] rfl) hr12) ?_
 rintro _ w15 ⟨v13, R14, rfl, hs⟩
 replace hs := Sat.n8 (Γ := Φ) hs rfl
 refine WS_alloc (zs := [(.int .i64 0), (.int .i64 0), (.int .i64 0), (sl (none, 0, 0))]) hs ti51 rfl rfl ?_
 intro b16 w17 hs
 replace hs := Sat.n9 (Γ := Φ) hs rfl
 refine WS_store (us := [(.int .i64 r11.1.op), (.int .i64 r11.1.n), (.int .i64 r11.1.at_), (sl v13)]) (vs' := [(.int .i64 r11.1.op), (.int .i64 r11.1.n), (.int .i64 r11.1.at_), (sl v13)]) hs 0 rfl ti51 (O rfl) (O rfl) rfl rfl rfl rfl rfl ?_
 intro w18 hs
 replace hs := Sat.n9 (Γ := Φ) hs rfl
 refine WL_nil <| At_then <| WC_seq ?_
 refine WC_block ?_
 refine WC_loop (σ := Int × Int × Int × Int × Int × Int × Int × (List Ex)) (γ := SLV × List Nat) (F := (expr_read_left_s10_L1 k_expr_read_lower_s11 ops l names)) (N := FUEL) (s0 := (r11.2.1, r11.2.2.1, r11.2.2.2.1, r11.2.2.2.2, r11.1.op, r11.1.n, r11.1.at_, r11.1.l)) (r := r) (fun ⟨c20, c21, c22, c23, c24, c25, c26, c27⟩ ⟨v28, R29⟩ w19 => Sat (box b 115 [(sl v4), (.int .i64 c20), (sl v6), (.int .i64 c21), (.int .i64 c22), (.int .i64 c23)] :: osl Q1 28 (sl v4) l R :: osl RS 9 (sl v6) names R7 :: imm Q8 [sl v2] ops :: box b9 51 [(.int .i64 0), (.int .i64 0), (.int .i64 0), (sl (none, 0, 0))] :: box b16 51 [(.int .i64 c24), (.int .i64 c25), (.int .i64 c26), (sl v28)] :: osl RExpr 51 (sl v28) c27 R29 :: gl 0 (keysL.map S) :: gl 1 (textsL.map S) :: Φ) w19) (fun ⟨c20, c21, c22, c23, c24, c25, c26, c27⟩ ⟨v28, R29⟩ => [(0, true, (.pointer (some ⟨b, 0, none⟩))), (1, true, (.func (.func 89) #[] #[])), (2, true, (sl v2)), (6, true, (.pointer (some ⟨b9, 0, none⟩))), (7, true, (.pointer (some ⟨b16, 0, none⟩)))]) hm (v13, R14) (hs.re 9 [2, 3, 4, 6, 5, 0, 1, 7, 8] rfl) rfl ?_
 rintro again30 ⟨c20, c21, c22, c23, c24, c25, c26, c27⟩ ⟨v28, R29⟩ w19 hm hs
 unfold expr_read_left_s10_L1 at hm
 dsimp only at hm
 refine WC_seq <| WC_seq <| WC_region ?_
 iterate 5 refine W ?_
 refine WL_nil <| At_then ?_
 refine WC_cond (O rfl) (fun hc31 => ?_) (fun hc31 => ?_)
 ·
  replace hm := bif_t hc31 hm
  refine WC_skip ?_
  refine At_then ?_
  refine WC_block ?_
  refine WC_seq <| WC_region ?_
  iterate 2 refine W ?_
  obtain ⟨r32, hr33, hm⟩ := bind_some' hm
  refine WL_call (f := 83) (first := []) (cap := []) (xs := [(.tmp 21), (.tmp 22)]) (vs := [(.pointer (some ⟨b, 0, none⟩)), (sl v2)]) (args := [(.pointer (some ⟨b, 0, none⟩)), (sl v2)]) Tryd.call83 Opd.f (.cons (O rfl) (.cons (O rfl) .nil)) rfl rfl (expr_read_is_s3_ok (hs.re 9 [0, 3, 1, 2, 7, 8, 3, 4, 5, 6, 7, 8] rfl) hr33) ?_
  rintro _ w34 ⟨rfl, hs⟩
  replace hs := Sat.n9 (Γ := Φ) hs rfl
  iterate 5 refine W ?_
  refine WL_nil <| At_then <| WC_seq <| WC_seq <| WC_region ?_
  iterate 2 refine W ?_
  refine WL_nil <| At_then ?_
  refine WC_cond (O rfl) (fun hc35 => ?_) (fun hc35 => ?_)
  ·
   replace hm := bif_t hc35 hm
   refine WC_exit ?_
   refine At_then_exit <| At_blk_other rfl <| At_then_exit <| At_blk_here <| ?_
   refine At_then <| WC_seq <| WC_region ?_
   refine Wo (Run_loadA (vs := [(.int .i64 c24), (.int .i64 c25), (.int .i64 c26), (sl v28)]) Tryd.underlying51 rfl ti51 (O rfl) (fun _ => (hs.box (i := 5) rfl).part 0 rfl) rfl) rfl <| ?_
   refine WS_store (us := [(.int .i64 c24), (.int .i64 c25), (.int .i64 c26), (sl v28)]) (vs' := [(.int .i64 c24), (.int .i64 c25), (.int .i64 c26), (sl v28)]) hs 4 rfl ti51 (O rfl) (O rfl) rfl rfl rfl rfl rfl ?_
   intro w36 hs
   replace hs := Sat.n9 (Γ := Φ) hs rfl
   refine WL_nil <| At_then ?_
   refine WC_ret ?_
   refine At_r1 rfl (ResIs.cA (vs := [(.int .i64 c24), (.int .i64 c25), (.int .i64 c26), (sl v28)]) rfl Tryd.underlying51 rfl ti51 ((hs.box (i := 4) rfl).part 0 rfl) rfl) ?_
   cases hm
   exact ⟨v28, R29, rfl, (hs.re 9 [6, 0, 1, 2] rfl)⟩
  ·
   replace hm := bif_f hc35 hm
   refine WC_skip ?_
   refine At_then <| WC_seq <| WC_region ?_
   refine W ?_
   obtain ⟨r37, hr38, hm⟩ := bind_some' hm
   refine WL_call (f := 84) (first := []) (cap := []) (xs := [(.tmp 28)]) (vs := [(.pointer (some ⟨b, 0, none⟩))]) (args := [(.pointer (some ⟨b, 0, none⟩))]) Tryd.call84 Opd.f (.cons (O rfl) .nil) rfl rfl (expr_read_next_s3_ok (hs.re 9 [0, 1, 2, 3, 4, 5, 6, 7, 8] rfl) hr38) ?_
   rintro _ w39 ⟨rfl, hs⟩
   replace hs := Sat.n9 (Γ := Φ) hs rfl
   refine WS_alloc (zs := [(.int .i64 0), (S []), (.int .i64 0), (.int .i64 0)]) hs ti28 rfl rfl ?_
   intro b40 w41 hs
   replace hs := Sat.n10 (Γ := Φ) hs rfl
   refine WS_store (us := [(.int .i64 r37.1), (S r37.2.1), (.int .i64 r37.2.2.1), (.int .i64 r37.2.2.2)]) (vs' := [(.int .i64 r37.1), (S r37.2.1), (.int .i64 r37.2.2.1), (.int .i64 r37.2.2.2)]) hs 0 rfl ti28 (O rfl) (O rfl) rfl rfl rfl rfl rfl ?_
   intro w42 hs
   replace hs := Sat.n10 (Γ := Φ) hs rfl
   refine WL_nil <| At_then <| WC_seq <| WC_region ?_
   iterate 7 refine W ?_
   refine WS_store (us := [(.int .i64 (IntKind.i64.wrap (c20 + 1)))]) (vs' := [(sl v4), (.int .i64 (IntKind.i64.wrap (c20 + 1))), (sl v6), (.int .i64 c21), (.int .i64 c22), (.int .i64 c23)]) hs 1 rfl ti3 (O rfl) (O rfl) rfl rfl rfl rfl rfl ?_
   intro w43 hs
   replace hs := Sat.n10 (Γ := Φ) hs rfl
   refine WL_nil <| At_then <| WC_seq <| WC_region ?_
   iterate 2 refine W ?_
   obtain ⟨r44, hr45, hm⟩ := bind_some' hm
   refine WL_call (f := 89) (first := []) (cap := []) (xs := [(.tmp 38)]) (vs := [(.pointer (some ⟨b, 0, none⟩))]) (args := [(.pointer (some ⟨b, 0, none⟩))]) Tryd.call89 (O rfl) (.cons (O rfl) .nil) rfl rfl (expr_read_deepUntil_s3_ok (@ih_expr_read_lower_s11) (hs.re 10 [1, 2, 3, 8, 9, 0, 4, 5, 6, 7, 8, 9] rfl) hr45) ?_
   rintro _ w48 ⟨v46, R47, rfl, hs⟩
   replace hs := Sat.n11 (Γ := Φ) hs rfl
   refine WS_alloc (zs := [(.int .i64 0), (.int .i64 0), (.int .i64 0), (sl (none, 0, 0))]) hs ti51 rfl rfl ?_
   intro b49 w50 hs
   replace hs := Sat.n12 (Γ := Φ) hs rfl
   refine WS_store (us := [(.int .i64 r44.1.op), (.int .i64 r44.1.n), (.int .i64 r44.1.at_), (sl v46)]) (vs' := [(.int .i64 r44.1.op), (.int .i64 r44.1.n), (.int .i64 r44.1.at_), (sl v46)]) hs 0 rfl ti51 (O rfl) (O rfl) rfl rfl rfl rfl rfl ?_
   intro w51 hs
   replace hs := Sat.n12 (Γ := Φ) hs rfl
   refine WL_nil <| At_then <| WC_region ?_
   iterate 3 refine W ?_
   refine Wo (Run_loadA (vs := [(.int .i64 c24), (.int .i64 c25), (.int .i64 c26), (sl v28)]) Tryd.underlying51 rfl ti51 (O rfl) (fun _ => (hs.box (i := 8) rfl).part 0 rfl) rfl) rfl <| Wo (Run_loadA (vs := [(.int .i64 r44.1.op), (.int .i64 r44.1.n), (.int .i64 r44.1.at_), (sl v46)]) Tryd.underlying51 rfl ti51 (O rfl) (fun _ => (hs.box (i := 0) rfl).part 0 rfl) rfl) rfl <| ?_
   replace hs := hs.freeze (i := 9) rfl
   replace hs := hs.freeze (i := 1) rfl
   refine WS_lit (A := RExpr) (xs := [(Ex.mk c24 c25 c26 c27), r44.1]) (zs := [(.int .i64 0), (.int .i64 0), (.int .i64 0), (sl (none, 0, 0))]) (cells := [(.int .i64 c24), (.int .i64 c25), (.int .i64 c26), (sl v28), (.int .i64 r44.1.op), (.int .i64 r44.1.n), (.int .i64 r44.1.at_), (sl v46)]) (parts := [(0, (.tmp 43)), (1, (.tmp 44))]) hs Tryd.underlying49 ti51 rfl rfl rfl (.cons (O rfl) (.cons (O rfl) .nil)) (by kernel_rfl) rfl (ARd.cons (A := RExpr) (c := [(.int .i64 c24), (.int .i64 c25), (.int .i64 c26), (sl v28)]) (x := (Ex.mk c24 c25 c26 c27)) (RExpr_close (⟨_, rfl, (hs.sl (i := 9) rfl)⟩)) (ARd.cons (A := RExpr) (c := [(.int .i64 r44.1.op), (.int .i64 r44.1.n), (.int .i64 r44.1.at_), (sl v46)]) (x := r44.1) (RExpr_closeE (⟨_, rfl, (hs.sl (i := 1) rfl)⟩)) ARd.nil)) rfl ?_
   intro b52 w53 hs
   replace hs := Sat.n13 (Γ := Φ) hs rfl
   refine Wo (Run_build (parts := [(0, (.tmp 40)), (2, (.tmp 42)), (3, (.tmp 45))]) (v := (.agg #[(.int .i64 r32.1), (.int .i64 0), (.int .i64 r37.2.2.2), (sl (some ⟨b52, 0, none⟩, 2, 2))])) (.cons (O rfl) (.cons (O rfl) (.cons (O rfl) .nil))) (fun _ => by kernel_rfl)) rfl <| ?_
   refine WS_store (us := [(.int .i64 r32.1), (.int .i64 0), (.int .i64 r37.2.2.2), (sl (some ⟨b52, 0, none⟩, 2, 2))]) (vs' := [(.int .i64 r32.1), (.int .i64 0), (.int .i64 r37.2.2.2), (sl (some ⟨b52, 0, none⟩, 2, 2))]) hs 9 rfl ti51 (O rfl) (O rfl) rfl rfl rfl rfl rfl ?_
   intro w54 hs
   replace hs := Sat.n13 (Γ := Φ) hs rfl
   refine WL_nil ?_
   refine At_blk_normal ?_
   exact At_again (r44.2.1, r44.2.2.1, r44.2.2.2.1, r44.2.2.2.2, r32.1, 0, r37.2.2.2, ([(Ex.mk c24 c25 c26 c27), r44.1] : List Ex)) ((some ⟨b52, 0, none⟩, 2, 2), [b52]) hm (hs.re 13 [3, 4, 5, 7, 8, 9, 0, 11, 12] rfl) rfl
 ·
  replace hm := bif_f hc31 hm
  refine WC_exit ?_
  refine At_then_exit <| At_then_exit <| At_blk_here <| ?_
  refine At_then <| WC_seq <| WC_region ?_
  refine Wo (Run_loadA (vs := [(.int .i64 c24), (.int .i64 c25), (.int .i64 c26), (sl v28)]) Tryd.underlying51 rfl ti51 (O rfl) (fun _ => (hs.box (i := 5) rfl).part 0 rfl) rfl) rfl <| ?_
  refine WS_store (us := [(.int .i64 c24), (.int .i64 c25), (.int .i64 c26), (sl v28)]) (vs' := [(.int .i64 c24), (.int .i64 c25), (.int .i64 c26), (sl v28)]) hs 4 rfl ti51 (O rfl) (O rfl) rfl rfl rfl rfl rfl ?_
  intro w55 hs
  replace hs := Sat.n9 (Γ := Φ) hs rfl
  refine WL_nil <| At_then ?_
  refine WC_ret ?_
  refine At_r1 rfl (ResIs.cA (vs := [(.int .i64 c24), (.int .i64 c25), (.int .i64 c26), (sl v28)]) rfl Tryd.underlying51 rfl ti51 ((hs.box (i := 4) rfl).part 0 rfl) rfl) ?_
  cases hm
  exact ⟨v28, R29, rfl, (hs.re 9 [6, 0, 1, 2] rfl)⟩
theorem expr_read_and_s3_ok {k_expr_read_lower_s11} (ih_expr_read_lower_s11 : ∀ {Φ : Ctx} {w : World} {l : Q3} {at_ : Int} {names : (List Str)} {deep : Int} {bad : Int} {place : Int} {b : Nat} {v2 : SLV} {R : List Nat} {v4 : SLV} {R5 : List Nat} {r : Q4}, Sat (box b 115 [(sl v2), (.int .i64 at_), (sl v4), (.int .i64 deep), (.int .i64 bad), (.int .i64 place)] :: osl Q1 28 (sl v2) l R :: osl RS 9 (sl v4) names R5 :: gl 0 (keysL.map S) :: gl 1 (textsL.map S) :: Φ) w → k_expr_read_lower_s11 (l, at_, names, deep, bad, place) = some r → CallsR Tryd.prog 77 [(.pointer (some ⟨b, 0, none⟩)), (.func (.func 78) #[] #[])] w (fun v w' => ∃ v3 : SLV, ∃ R4 : List Nat, v = (.agg #[(.int .i64 r.1.op), (.int .i64 r.1.n), (.int .i64 r.1.at_), (sl v3)]) ∧ Sat (osl RExpr 51 (sl v3) r.1.l R4 :: box b 115 [(sl v2), (.int .i64 r.2.1), (sl v4), (.int .i64 r.2.2.1), (.int .i64 r.2.2.2.1), (.int .i64 r.2.2.2.2)] :: osl Q1 28 (sl v2) l R :: osl RS 9 (sl v4) names R5 :: Φ) w')) {Φ : Ctx} {w : World} {l : Q3} {at_ : Int} {names : (List Str)} {deep : Int} {bad : Int} {place : Int} {b : Nat} {v2 : SLV} {R : List Nat} {v4 : SLV} {R5 : List Nat} {r : Q4} (hs : Sat (box b 115 [(sl v2), (.int .i64 at_), (sl v4), (.int .i64 deep), (.int .i64 bad), (.int .i64 place)] :: osl Q1 28 (sl v2) l R :: osl RS 9 (sl v4) names R5 :: gl 0 (keysL.map S) :: gl 1 (textsL.map S) :: Φ) w) (hm : expr_read_and_s3 k_expr_read_lower_s11 l at_ names deep bad place = some r) :
  CallsR Tryd.prog 88 [(.pointer (some ⟨b, 0, none⟩))] w (fun v w' => ∃ v3 : SLV, ∃ R4 : List Nat, v = (.agg #[(.int .i64 r.1.op), (.int .i64 r.1.n), (.int .i64 r.1.at_), (sl v3)]) ∧ Sat (osl RExpr 51 (sl v3) r.1.l R4 :: box b 115 [(sl v2), (.int .i64 r.2.1), (sl v4), (.int .i64 r.2.2.1), (.int .i64 r.2.2.2.1), (.int .i64 r.2.2.2.2)] :: osl Q1 28 (sl v2) l R :: osl RS 9 (sl v4) names R5 :: Φ) w') := by
 refine CallsX_enter Tryd.func88 rfl Tryd.ntmps88 rfl ?_
 unfold expr_read_and_s3 at hm
 refine WC_seq <| WC_region ?_
 refine WS_alloc (zs := [(.int .i64 0), (.int .i64 0), (.int .i64 0), (sl (none, 0, 0))]) hs ti51 rfl rfl ?_
 intro b9 w10 hs
 replace hs := Sat.n6 (Γ := Φ) hs rfl
 refine WL_nil <| At_then <| WC_seq <| WC_region ?_
 refine W ?_
 refine WS_lit (A := (RI .i64)) (xs := [16]) (zs := [(.int .i64 0)]) (cells := [(.int .i64 16)]) (parts := [(0, (.const (.int .i64 16)))]) hs Tryd.underlying30 ti3 rfl rfl rfl (.cons Opd.c .nil) (by kernel_rfl) rfl (ARd.cons (A := (RI .i64)) (c := [(.int .i64 16)]) (x := 16) rfl ARd.nil) rfl ?_
 intro b11 w12 hs
 replace hs := Sat.n7 (Γ := Φ) hs rfl
 replace hs := hs.freeze (i := 0) rfl
 obtain ⟨r13, hr14, hm⟩ := bind_some' hm
 refine WL_call (f := 87) (first := []) (cap := []) (xs := [(.tmp 3), (.func 89), (.tmp 4)]) (vs := [(.pointer (some ⟨b, 0, none⟩)), (.func (.func 89) #[] #[]), (sl (some ⟨b11, 0, none⟩, 1, 1))]) (args := [(.pointer (some ⟨b, 0, none⟩)), (.func (.func 89) #[] #[]), (sl (some ⟨b11, 0, none⟩, 1, 1))]) Tryd.call87 Opd.f (.cons (O rfl) (.cons Opd.f (.cons (O rfl) .nil))) rfl rfl (expr_read_left_s10_ok (@ih_expr_read_lower_s11) (hs.re 7 [2, 0, 3, 4, 5, 6, 0, 1, 5, 6] rfl) hr14) ?_
 rintro _ w17 ⟨v15, R16, rfl, hs⟩
 replace hs := Sat.n8 (Γ := Φ) hs rfl
 refine WS_store (us := [(.int .i64 r13.1.op), (.int .i64 r13.1.n), (.int .i64 r13.1.at_), (sl v15)]) (vs' := [(.int .i64 r13.1.op), (.int .i64 r13.1.n), (.int .i64 r13.1.at_), (sl v15)]) hs 5 rfl ti51 (O rfl) (O rfl) rfl rfl rfl rfl rfl ?_
 intro w18 hs
 replace hs := Sat.n8 (Γ := Φ) hs rfl
 refine WL_nil <| At_then ?_
 refine WC_ret ?_
 refine At_r1 rfl (ResIs.cA (vs := [(.int .i64 r13.1.op), (.int .i64 r13.1.n), (.int .i64 r13.1.at_), (sl v15)]) rfl Tryd.underlying51 rfl ti51 ((hs.box (i := 5) rfl).part 0 rfl) rfl) ?_
 cases hm
 exact ⟨v15, R16, rfl, (hs.re 8 [0, 1, 2, 3] rfl)⟩
theorem expr_read_left_s9_ok {k_expr_read_lower_s11} (ih_expr_read_lower_s11 : ∀ {Φ : Ctx} {w : World} {l : Q3} {at_ : Int} {names : (List Str)} {deep : Int} {bad : Int} {place : Int} {b : Nat} {v2 : SLV} {R : List Nat} {v4 : SLV} {R5 : List Nat} {r : Q4}, Sat (box b 115 [(sl v2), (.int .i64 at_), (sl v4), (.int .i64 deep), (.int .i64 bad), (.int .i64 place)] :: osl Q1 28 (sl v2) l R :: osl RS 9 (sl v4) names R5 :: gl 0 (keysL.map S) :: gl 1 (textsL.map S) :: Φ) w → k_expr_read_lower_s11 (l, at_, names, deep, bad, place) = some r → CallsR Tryd.prog 77 [(.pointer (some ⟨b, 0, none⟩)), (.func (.func 78) #[] #[])] w (fun v w' => ∃ v3 : SLV, ∃ R4 : List Nat, v = (.agg #[(.int .i64 r.1.op), (.int .i64 r.1.n), (.int .i64 r.1.at_), (sl v3)]) ∧ Sat (osl RExpr 51 (sl v3) r.1.l R4 :: box b 115 [(sl v2), (.int .i64 r.2.1), (sl v4), (.int .i64 r.2.2.1), (.int .i64 r.2.2.2.1), (.int .i64 r.2.2.2.2)] :: osl Q1 28 (sl v2) l R :: osl RS 9 (sl v4) names R5 :: Φ) w')) {Φ : Ctx} {w : World} {ops : (List Int)} {l : Q3} {at_ : Int} {names : (List Str)} {deep : Int} {bad : Int} {place : Int} {b : Nat} {v2 : SLV} {v4 : SLV} {R : List Nat} {v6 : SLV} {R7 : List Nat} {r : Q4} (hs : Sat (box b 115 [(sl v4), (.int .i64 at_), (sl v6), (.int .i64 deep), (.int .i64 bad), (.int .i64 place)] :: imm Q8 [sl v2] ops :: osl Q1 28 (sl v4) l R :: osl RS 9 (sl v6) names R7 :: gl 0 (keysL.map S) :: gl 1 (textsL.map S) :: Φ) w) (hm : expr_read_left_s9 k_expr_read_lower_s11 ops l at_ names deep bad place = some r) :
  CallsR Tryd.prog 87 [(.pointer (some ⟨b, 0, none⟩)), (.func (.func 88) #[] #[]), (sl v2)] w (fun v w' => ∃ v3 : SLV, ∃ R4 : List Nat, v = (.agg #[(.int .i64 r.1.op), (.int .i64 r.1.n), (.int .i64 r.1.at_), (sl v3)]) ∧ Sat (osl RExpr 51 (sl v3) r.1.l R4 :: box b 115 [(sl v4), (.int .i64 r.2.1), (sl v6), (.int .i64 r.2.2.1), (.int .i64 r.2.2.2.1), (.int .i64 r.2.2.2.2)] :: osl Q1 28 (sl v4) l R :: osl RS 9 (sl v6) names R7 :: Φ) w') := by
 refine CallsX_enter Tryd.func87 rfl Tryd.ntmps87 rfl ?_
 unfold expr_read_left_s9 at hm
 refine WC_seq <| WC_region ?_
 refine WS_alloc (zs := [(.int .i64 0), (.int .i64 0), (.int .i64 0), (sl (none, 0, 0))]) hs ti51 rfl rfl ?_
 intro b9 w10 hs
 replace hs := Sat.n7 (Γ := Φ) hs rfl
 refine WL_nil <| At_then <| WC_seq <| WC_region ?_
 iterate 2 refine W ?_
 obtain ⟨r11, hr12, hm⟩ := bind_some' hm
 refine WL_call (f := 88) (first := []) (cap := []) (xs := [(.tmp 13)]) (vs := [(.pointer (some ⟨b, 0, none⟩))]) (args := [(.pointer (some ⟨b, 0, none⟩))]) Tryd.call88 (O rfl) (.cons (O rfl) .nil) rfl rfl (expr_read_and_s3_ok (@ih_expr_read_lower_s11) (hs.re 7 [1, 3, 4, 5, 6, 0, 2, 5, 6] rfl) hr12) ?_
 rintro _ w15 ⟨v13, R14, rfl, hs⟩
 replace hs := Sat.n8 (Γ := Φ) hs rfl
 refine WS_alloc (zs := [(.int .i64 0), (.int .i64 0), (.int .i64 0), (sl (none, 0, 0))]) hs ti51 rfl rfl ?_
 intro b16 w17 hs
 replace hs := Sat.n9 (Γ := Φ) hs rfl
 refine WS_store (us := [(.int .i64 r11.1.op), (.int .i64 r11.1.n), (.int .i64 r11.1.at_), (sl v13)]) (vs' := [(.int .i64 r11.1.op), (.int .i64 r11.1.n), (.int .i64 r11.1.at_), (sl v13)]) hs 0 rfl ti51 (O rfl) (O rfl) rfl rfl rfl rfl rfl ?_
 intro w18 hs
 replace hs := Sat.n9 (Γ := Φ) hs rfl
 refine WL_nil <| At_then <| WC_seq ?_
 refine WC_block ?_
 refine WC_loop (σ := Int × Int × Int × Int × Int × Int × Int × (List Ex)) (γ := SLV × List Nat) (F := (expr_read_left_s9_L1 k_expr_read_lower_s11 ops l names)) (N := FUEL) (s0 := (r11.2.1, r11.2.2.1, r11.2.2.2.1, r11.2.2.2.2, r11.1.op, r11.1.n, r11.1.at_, r11.1.l)) (r := r) (fun ⟨c20, c21, c22, c23, c24, c25, c26, c27⟩ ⟨v28, R29⟩ w19 => Sat (box b 115 [(sl v4), (.int .i64 c20), (sl v6), (.int .i64 c21), (.int .i64 c22), (.int .i64 c23)] :: osl Q1 28 (sl v4) l R :: osl RS 9 (sl v6) names R7 :: imm Q8 [sl v2] ops :: box b9 51 [(.int .i64 0), (.int .i64 0), (.int .i64 0), (sl (none, 0, 0))] :: box b16 51 [(.int .i64 c24), (.int .i64 c25), (.int .i64 c26), (sl v28)] :: osl RExpr 51 (sl v28) c27 R29 :: gl 0 (keysL.map S) :: gl 1 (textsL.map S) :: Φ) w19) (fun ⟨c20, c21, c22, c23, c24, c25, c26, c27⟩ ⟨v28, R29⟩ => [(0, true, (.pointer (some ⟨b, 0, none⟩))), (1, true, (.func (.func 88) #[] #[])), (2, true, (sl v2)), (6, true, (.pointer (some ⟨b9, 0, none⟩))), (7, true, (.pointer (some ⟨b16, 0, none⟩)))]) hm (v13, R14) (hs.re 9 [2, 3, 4, 6, 5, 0, 1, 7, 8] rfl) rfl ?_
 rintro again30 ⟨c20, c21, c22, c23, c24, c25, c26, c27⟩ ⟨v28, R29⟩ w19 hm hs
 unfold expr_read_left_s9_L1 at hm
 dsimp only at hm
 refine WC_seq <| WC_seq <| WC_region ?_
 iterate 5 refine W ?_
 refine WL_nil <| At_then ?_
 refine WC_cond (O rfl) (fun hc31 => ?_) (fun hc31 => ?_)
 ·
  replace hm := bif_t hc31 hm
  refine WC_skip ?_
  refine At_then ?_
  refine WC_block ?_
  refine WC_seq <| WC_region ?_
  iterate 2 refine W ?_
  obtain ⟨r32, hr33, hm⟩ := bind_some' hm
  refine WL_call (f := 83) (first := []) (cap := []) (xs := [(.tmp 21), (.tmp 22)]) (vs := [(.pointer (some ⟨b, 0, none⟩)), (sl v2)]) (args := [(.pointer (some ⟨b, 0, none⟩)), (sl v2)]) Tryd.call83 Opd.f (.cons (O rfl) (.cons (O rfl) .nil)) rfl rfl (expr_read_is_s3_ok (hs.re 9 [0, 3, 1, 2, 7, 8, 3, 4, 5, 6, 7, 8] rfl) hr33) ?_
  rintro _ w34 ⟨rfl, hs⟩
  replace hs := Sat.n9 (Γ := Φ) hs rfl
  iterate 5 refine W ?_
  refine WL_nil <| At_then <| WC_seq <| WC_seq <| WC_region ?_
  iterate 2 refine W ?_
  refine WL_nil <| At_then ?_
  refine WC_cond (O rfl) (fun hc35 => ?_) (fun hc35 => ?_)
  ·
   replace hm := bif_t hc35 hm
   refine WC_exit ?_
   refine At_then_exit <| At_blk_other rfl <| At_then_exit <| At_blk_here <| ?_
   refine At_then <| WC_seq <| WC_region ?_
   refine Wo (Run_loadA (vs := [(.int .i64 c24), (.int .i64 c25), (.int .i64 c26), (sl v28)]) Tryd.underlying51 rfl ti51 (O rfl) (fun _ => (hs.box (i := 5) rfl).part 0 rfl) rfl) rfl <| ?_
   refine WS_store (us := [(.int .i64 c24), (.int .i64 c25), (.int .i64 c26), (sl v28)]) (vs' := [(.int .i64 c24), (.int .i64 c25), (.int .i64 c26), (sl v28)]) hs 4 rfl ti51 (O rfl) (O rfl) rfl rfl rfl rfl rfl ?_
   intro w36 hs
   replace hs := Sat.n9 (Γ := Φ) hs rfl
   refine WL_nil <| At_then ?_
   refine WC_ret ?_
   refine At_r1 rfl (ResIs.cA (vs := [(.int .i64 c24), (.int .i64 c25), (.int .i64 c26), (sl v28)]) rfl Tryd.underlying51 rfl ti51 ((hs.box (i := 4) rfl).part 0 rfl) rfl) ?_
   cases hm
   exact ⟨v28, R29, rfl, (hs.re 9 [6, 0, 1, 2] rfl)⟩
  ·
   replace hm := bif_f hc35 hm
   refine WC_skip ?_
   refine At_then <| WC_seq <| WC_region ?_
   refine W ?_
   obtain ⟨r37, hr38, hm⟩ := bind_some' hm
   refine WL_call (f := 84) (first := []) (cap := []) (xs := [(.tmp 28)]) (vs := [(.pointer (some ⟨b, 0, none⟩))]) (args := [(.pointer (some ⟨b, 0, none⟩))]) Tryd.call84 Opd.f (.cons (O rfl) .nil) rfl rfl (expr_read_next_s3_ok (hs.re 9 [0, 1, 2, 3, 4, 5, 6, 7, 8] rfl) hr38) ?_
   rintro _ w39 ⟨rfl, hs⟩
   replace hs := Sat.n9 (Γ := Φ) hs rfl
   refine WS_alloc (zs := [(.int .i64 0), (S []), (.int .i64 0), (.int .i64 0)]) hs ti28 rfl rfl ?_
   intro b40 w41 hs
   replace hs := Sat.n10 (Γ := Φ) hs rfl
   refine WS_store (us := [(.int .i64 r37.1), (S r37.2.1), (.int .i64 r37.2.2.1), (.int .i64 r37.2.2.2)]) (vs' := [(.int .i64 r37.1), (S r37.2.1), (.int .i64 r37.2.2.1), (.int .i64 r37.2.2.2)]) hs 0 rfl ti28 (O rfl) (O rfl) rfl rfl rfl rfl rfl ?_
   intro w42 hs
   replace hs := Sat.n10 (Γ := Φ) hs rfl
   refine WL_nil <| At_then <| WC_seq <| WC_region ?_
   iterate 7 refine W ?_
   refine WS_store (us := [(.int .i64 (IntKind.i64.wrap (c20 + 1)))]) (vs' := [(sl v4), (.int .i64 (IntKind.i64.wrap (c20 + 1))), (sl v6), (.int .i64 c21), (.int .i64 c22), (.int .i64 c23)]) hs 1 rfl ti3 (O rfl) (O rfl) rfl rfl rfl rfl rfl ?_
   intro w43 hs
   replace hs := Sat.n10 (Γ := Φ) hs rfl
   refine WL_nil <| At_then <| WC_seq <| WC_region ?_
   iterate 2 refine W ?_
   obtain ⟨r44, hr45, hm⟩ := bind_some' hm
   refine WL_call (f := 88) (first := []) (cap := []) (xs := [(.tmp 38)]) (vs := [(.pointer (some ⟨b, 0, none⟩))]) (args := [(.pointer (some ⟨b, 0, none⟩))]) Tryd.call88 (O rfl) (.cons (O rfl) .nil) rfl rfl (expr_read_and_s3_ok (@ih_expr_read_lower_s11) (hs.re 10 [1, 2, 3, 8, 9, 0, 4, 5, 6, 7, 8, 9] rfl) hr45) ?_
   rintro _ w48 ⟨v46, R47, rfl, hs⟩
   replace hs := Sat.n11 (Γ := Φ) hs rfl
   refine WS_alloc (zs := [(.int .i64 0), (.int .i64 0), (.int .i64 0), (sl (none, 0, 0))]) hs ti51 rfl rfl ?_
   intro b49 w50 hs
   replace hs := Sat.n12 (Γ := Φ) hs rfl
   refine WS_store (us := [(.int .i64 r44.1.op), (.int .i64 r44.1.n), (.int .i64 r44.1.at_), (sl v46)]) (vs' := [(.int .i64 r44.1.op), (.int .i64 r44.1.n), (.int .i64 r44.1.at_), (sl v46)]) hs 0 rfl ti51 (O rfl) (O rfl) rfl rfl rfl rfl rfl ?_
   intro w51 hs
   replace hs := Sat.n12 (Γ := Φ) hs rfl
   refine WL_nil <| At_then <| WC_region ?_
   iterate 3 refine W ?_
   refine Wo (Run_loadA (vs := [(.int .i64 c24), (.int .i64 c25), (.int .i64 c26), (sl v28)]) Tryd.underlying51 rfl ti51 (O rfl) (fun _ => (hs.box (i := 8) rfl).part 0 rfl) rfl) rfl <| Wo (Run_loadA (vs := [(.int .i64 r44.1.op), (.int .i64 r44.1.n), (.int .i64 r44.1.at_), (sl v46)]) Tryd.underlying51 rfl ti51 (O rfl) (fun _ => (hs.box (i := 0) rfl).part 0 rfl) rfl) rfl <| ?_
   replace hs := hs.freeze (i := 9) rfl
   replace hs := hs.freeze (i := 1) rfl
   refine WS_lit (A := RExpr) (xs := [(Ex.mk c24 c25 c26 c27), r44.1]) (zs := [(.int .i64 0), (.int .i64 0), (.int .i64 0), (sl (none, 0, 0))]) (cells := [(.int .i64 c24), (.int .i64 c25), (.int .i64 c26), (sl v28), (.int .i64 r44.1.op), (.int .i64 r44.1.n), (.int .i64 r44.1.at_), (sl v46)]) (parts := [(0, (.tmp 43)), (1, (.tmp 44))]) hs Tryd.underlying49 ti51 rfl rfl rfl (.cons (O rfl) (.cons (O rfl) .nil)) (by kernel_rfl) rfl (ARd.cons (A := RExpr) (c := [(.int .i64 c24), (.int .i64 c25), (.int .i64 c26), (sl v28)]) (x := (Ex.mk c24 c25 c26 c27)) (RExpr_close (⟨_, rfl, (hs.sl (i := 9) rfl)⟩)) (ARd.cons (A := RExpr) (c := [(.int .i64 r44.1.op), (.int .i64 r44.1.n), (.int .i64 r44.1.at_), (sl v46)]) (x := r44.1) (RExpr_closeE (⟨_, rfl, (hs.sl (i := 1) rfl)⟩)) ARd.nil)) rfl ?_
   intro b52 w53 hs
   replace hs := Sat.n13 (Γ := Φ) hs rfl
   refine Wo (Run_build (parts := [(0, (.tmp 40)), (2, (.tmp 42)), (3, (.tmp 45))]) (v := (.agg #[(.int .i64 r32.1), (.int .i64 0), (.int .i64 r37.2.2.2), (sl (some ⟨b52, 0, none⟩, 2, 2))])) (.cons (O rfl) (.cons (O rfl) (.cons (O rfl) .nil))) (fun _ => by kernel_rfl)) rfl <| ?_
   refine WS_store (us := [(.int .i64 r32.1), (.int .i64 0), (.int .i64 r37.2.2.2), (sl (some ⟨b52, 0, none⟩, 2, 2))]) (vs' := [(.int .i64 r32.1), (.int .i64 0), (.int .i64 r37.2.2.2), (sl (some ⟨b52, 0, none⟩, 2, 2))]) hs 9 rfl ti51 (O rfl) (O rfl) rfl rfl rfl rfl rfl ?_
   intro w54 hs
   replace hs := Sat.n13 (Γ := Φ) hs rfl
   refine WL_nil ?_
   refine At_blk_normal ?_
   exact At_again (r44.2.1, r44.2.2.1, r44.2.2.2.1, r44.2.2.2.2, r32.1, 0, r37.2.2.2, ([(Ex.mk c24 c25 c26 c27), r44.1] : List Ex)) ((some ⟨b52, 0, none⟩, 2, 2), [b52]) hm (hs.re 13 [3, 4, 5, 7, 8, 9, 0, 11, 12] rfl) rfl
 ·
  replace hm := bif_f hc31 hm
  refine WC_exit ?_
  refine At_then_exit <| At_then_exit <| At_blk_here <| ?_
  refine At_then <| WC_seq <| WC_region ?_
  refine Wo (Run_loadA (vs := [(.int .i64 c24), (.int .i64 c25), (.int .i64 c26), (sl v28)]) Tryd.underlying51 rfl ti51 (O rfl) (fun _ => (hs.box (i := 5) rfl).part 0 rfl) rfl) rfl <| ?_
  refine WS_store (us := [(.int .i64 c24), (.int .i64 c25), (.int .i64 c26), (sl v28)]) (vs' := [(.int .i64 c24), (.int .i64 c25), (.int .i64 c26), (sl v28)]) hs 4 rfl ti51 (O rfl) (O rfl) rfl rfl rfl rfl rfl ?_
  intro w55 hs
  replace hs := Sat.n9 (Γ := Φ) hs rfl
  refine WL_nil <| At_then ?_
  refine WC_ret ?_
  refine At_r1 rfl (ResIs.cA (vs := [(.int .i64 c24), (.int .i64 c25), (.int .i64 c26), (sl v28)]) rfl Tryd.underlying51 rfl ti51 ((hs.box (i := 4) rfl).part 0 rfl) rfl) ?_
  cases hm
  exact ⟨v28, R29, rfl, (hs.re 9 [6, 0, 1, 2] rfl)⟩
theorem expr_read_or_s3_ok {k_expr_read_lower_s11} (ih_expr_read_lower_s11 : ∀ {Φ : Ctx} {w : World} {l : Q3} {at_ : Int} {names : (List Str)} {deep : Int} {bad : Int} {place : Int} {b : Nat} {v2 : SLV} {R : List Nat} {v4 : SLV} {R5 : List Nat} {r : Q4}, Sat (box b 115 [(sl v2), (.int .i64 at_), (sl v4), (.int .i64 deep), (.int .i64 bad), (.int .i64 place)] :: osl Q1 28 (sl v2) l R :: osl RS 9 (sl v4) names R5 :: gl 0 (keysL.map S) :: gl 1 (textsL.map S) :: Φ) w → k_expr_read_lower_s11 (l, at_, names, deep, bad, place) = some r → CallsR Tryd.prog 77 [(.pointer (some ⟨b, 0, none⟩)), (.func (.func 78) #[] #[])] w (fun v w' => ∃ v3 : SLV, ∃ R4 : List Nat, v = (.agg #[(.int .i64 r.1.op), (.int .i64 r.1.n), (.int .i64 r.1.at_), (sl v3)]) ∧ Sat (osl RExpr 51 (sl v3) r.1.l R4 :: box b 115 [(sl v2), (.int .i64 r.2.1), (sl v4), (.int .i64 r.2.2.1), (.int .i64 r.2.2.2.1), (.int .i64 r.2.2.2.2)] :: osl Q1 28 (sl v2) l R :: osl RS 9 (sl v4) names R5 :: Φ) w')) {Φ : Ctx} {w : World} {l : Q3} {at_ : Int} {names : (List Str)} {deep : Int} {bad : Int} {place : Int} {b : Nat} {v2 : SLV} {R : List Nat} {v4 : SLV} {R5 : List Nat} {r : Q4} (hs : Sat (box b 115 [(sl v2), (.int .i64 at_), (sl v4), (.int .i64 deep), (.int .i64 bad), (.int .i64 place)] :: osl Q1 28 (sl v2) l R :: osl RS 9 (sl v4) names R5 :: gl 0 (keysL.map S) :: gl 1 (textsL.map S) :: Φ) w) (hm : expr_read_or_s3 k_expr_read_lower_s11 l at_ names deep bad place = some r) :
  CallsR Tryd.prog 86 [(.pointer (some ⟨b, 0, none⟩))] w (fun v w' => ∃ v3 : SLV, ∃ R4 : List Nat, v = (.agg #[(.int .i64 r.1.op), (.int .i64 r.1.n), (.int .i64 r.1.at_), (sl v3)]) ∧ Sat (osl RExpr 51 (sl v3) r.1.l R4 :: box b 115 [(sl v2), (.int .i64 r.2.1), (sl v4), (.int .i64 r.2.2.1), (.int .i64 r.2.2.2.1), (.int .i64 r.2.2.2.2)] :: osl Q1 28 (sl v2) l R :: osl RS 9 (sl v4) names R5 :: Φ) w') := by
 refine CallsX_enter Tryd.func86 rfl Tryd.ntmps86 rfl ?_
 unfold expr_read_or_s3 at hm
 refine WC_seq <| WC_region ?_
 refine WS_alloc (zs := [(.int .i64 0), (.int .i64 0), (.int .i64 0), (sl (none, 0, 0))]) hs ti51 rfl rfl ?_
 intro b9 w10 hs
 replace hs := Sat.n6 (Γ := Φ) hs rfl
 refine WL_nil <| At_then <| WC_seq <| WC_region ?_
 refine W ?_
 refine WS_lit (A := (RI .i64)) (xs := [17]) (zs := [(.int .i64 0)]) (cells := [(.int .i64 17)]) (parts := [(0, (.const (.int .i64 17)))]) hs Tryd.underlying30 ti3 rfl rfl rfl (.cons Opd.c .nil) (by kernel_rfl) rfl (ARd.cons (A := (RI .i64)) (c := [(.int .i64 17)]) (x := 17) rfl ARd.nil) rfl ?_
 intro b11 w12 hs
 replace hs := Sat.n7 (Γ := Φ) hs rfl
 replace hs := hs.freeze (i := 0) rfl
 obtain ⟨r13, hr14, hm⟩ := bind_some' hm
 refine WL_call (f := 87) (first := []) (cap := []) (xs := [(.tmp 3), (.func 88), (.tmp 4)]) (vs := [(.pointer (some ⟨b, 0, none⟩)), (.func (.func 88) #[] #[]), (sl (some ⟨b11, 0, none⟩, 1, 1))]) (args := [(.pointer (some ⟨b, 0, none⟩)), (.func (.func 88) #[] #[]), (sl (some ⟨b11, 0, none⟩, 1, 1))]) Tryd.call87 Opd.f (.cons (O rfl) (.cons Opd.f (.cons (O rfl) .nil))) rfl rfl (expr_read_left_s9_ok (@ih_expr_read_lower_s11) (hs.re 7 [2, 0, 3, 4, 5, 6, 0, 1, 5, 6] rfl) hr14) ?_
 rintro _ w17 ⟨v15, R16, rfl, hs⟩
 replace hs := Sat.n8 (Γ := Φ) hs rfl
 refine WS_store (us := [(.int .i64 r13.1.op), (.int .i64 r13.1.n), (.int .i64 r13.1.at_), (sl v15)]) (vs' := [(.int .i64 r13.1.op), (.int .i64 r13.1.n), (.int .i64 r13.1.at_), (sl v15)]) hs 5 rfl ti51 (O rfl) (O rfl) rfl rfl rfl rfl rfl ?_
 intro w18 hs
 replace hs := Sat.n8 (Γ := Φ) hs rfl
 refine WL_nil <| At_then ?_
 refine WC_ret ?_
 refine At_r1 rfl (ResIs.cA (vs := [(.int .i64 r13.1.op), (.int .i64 r13.1.n), (.int .i64 r13.1.at_), (sl v15)]) rfl Tryd.underlying51 rfl ti51 ((hs.box (i := 5) rfl).part 0 rfl) rfl) ?_
 cases hm
 exact ⟨v15, R16, rfl, (hs.re 8 [0, 1, 2, 3] rfl)⟩
end Go.Proofs.YtdhgpnejphlfpaaDoor
namespace Go.Proofs.YtdhgpnejphlfpaaDoor
open Go.Proofs
theorem expr_read_right_s8_ok {k_expr_read_lower_s11 k_expr_read_lower_s12} (ih_expr_read_lower_s11 : ∀ {Φ : Ctx} {w : World} {l : Q3} {at_ : Int} {names : (List Str)} {deep : Int} {bad : Int} {place : Int} {b : Nat} {v2 : SLV} {R : List Nat} {v4 : SLV} {R5 : List Nat} {r : Q4}, Sat (box b 115 [(sl v2), (.int .i64 at_), (sl v4), (.int .i64 deep), (.int .i64 bad), (.int .i64 place)] :: osl Q1 28 (sl v2) l R :: osl RS 9 (sl v4) names R5 :: gl 0 (keysL.map S) :: gl 1 (textsL.map S) :: Φ) w → k_expr_read_lower_s11 (l, at_, names, deep, bad, place) = some r → CallsR Tryd.prog 77 [(.pointer (some ⟨b, 0, none⟩)), (.func (.func 78) #[] #[])] w (fun v w' => ∃ v3 : SLV, ∃ R4 : List Nat, v = (.agg #[(.int .i64 r.1.op), (.int .i64 r.1.n), (.int .i64 r.1.at_), (sl v3)]) ∧ Sat (osl RExpr 51 (sl v3) r.1.l R4 :: box b 115 [(sl v2), (.int .i64 r.2.1), (sl v4), (.int .i64 r.2.2.1), (.int .i64 r.2.2.2.1), (.int .i64 r.2.2.2.2)] :: osl Q1 28 (sl v2) l R :: osl RS 9 (sl v4) names R5 :: Φ) w')) (ih_expr_read_lower_s12 : ∀ {Φ : Ctx} {w : World} {l : Q3} {at_ : Int} {names : (List Str)} {deep : Int} {bad : Int} {place : Int} {b : Nat} {v2 : SLV} {R : List Nat} {v4 : SLV} {R5 : List Nat} {r : Q4}, Sat (box b 115 [(sl v2), (.int .i64 at_), (sl v4), (.int .i64 deep), (.int .i64 bad), (.int .i64 place)] :: osl Q1 28 (sl v2) l R :: osl RS 9 (sl v4) names R5 :: gl 0 (keysL.map S) :: gl 1 (textsL.map S) :: Φ) w → k_expr_read_lower_s12 (l, at_, names, deep, bad, place) = some r → CallsR Tryd.prog 77 [(.pointer (some ⟨b, 0, none⟩)), (.func (.func 85) #[] #[])] w (fun v w' => ∃ v3 : SLV, ∃ R4 : List Nat, v = (.agg #[(.int .i64 r.1.op), (.int .i64 r.1.n), (.int .i64 r.1.at_), (sl v3)]) ∧ Sat (osl RExpr 51 (sl v3) r.1.l R4 :: box b 115 [(sl v2), (.int .i64 r.2.1), (sl v4), (.int .i64 r.2.2.1), (.int .i64 r.2.2.2.1), (.int .i64 r.2.2.2.2)] :: osl Q1 28 (sl v2) l R :: osl RS 9 (sl v4) names R5 :: Φ) w')) {Φ : Ctx} {w : World} {ops : (List Int)} {l : Q3} {at_ : Int} {names : (List Str)} {deep : Int} {bad : Int} {place : Int} {b : Nat} {v2 : SLV} {v4 : SLV} {R : List Nat} {v6 : SLV} {R7 : List Nat} {r : Q4} (hs : Sat (box b 115 [(sl v4), (.int .i64 at_), (sl v6), (.int .i64 deep), (.int .i64 bad), (.int .i64 place)] :: imm Q8 [sl v2] ops :: osl Q1 28 (sl v4) l R :: osl RS 9 (sl v6) names R7 :: gl 0 (keysL.map S) :: gl 1 (textsL.map S) :: Φ) w) (hm : expr_read_right_s8 k_expr_read_lower_s11 k_expr_read_lower_s12 ops l at_ names deep bad place = some r) :
  CallsR Tryd.prog 81 [(.pointer (some ⟨b, 0, none⟩)), (.func (.func 86) #[] #[]), (.func (.func 85) #[] #[]), (sl v2)] w (fun v w' => ∃ v3 : SLV, ∃ R4 : List Nat, v = (.agg #[(.int .i64 r.1.op), (.int .i64 r.1.n), (.int .i64 r.1.at_), (sl v3)]) ∧ Sat (osl RExpr 51 (sl v3) r.1.l R4 :: box b 115 [(sl v4), (.int .i64 r.2.1), (sl v6), (.int .i64 r.2.2.1), (.int .i64 r.2.2.2.1), (.int .i64 r.2.2.2.2)] :: osl Q1 28 (sl v4) l R :: osl RS 9 (sl v6) names R7 :: Φ) w') := by
 refine CallsX_enter Tryd.func81 rfl Tryd.ntmps81 rfl ?_
 unfold expr_read_right_s8 at hm
 refine WC_seq <| WC_region ?_
 refine WS_alloc (zs := [(.int .i64 0), (.int .i64 0), (.int .i64 0), (sl (none, 0, 0))]) hs ti51 rfl rfl ?_
 intro b9 w10 hs
 replace hs := Sat.n7 (Γ := Φ) hs rfl
 refine WL_nil <| At_then <| WC_seq <| WC_region ?_
 iterate 2 refine W ?_
 obtain ⟨r11, hr12, hm⟩ := bind_some' hm
 refine WL_call (f := 86) (first := []) (cap := []) (xs := [(.tmp 15)]) (vs := [(.pointer (some ⟨b, 0, none⟩))]) (args := [(.pointer (some ⟨b, 0, none⟩))]) Tryd.call86 (O rfl) (.cons (O rfl) .nil) rfl rfl (expr_read_or_s3_ok (@ih_expr_read_lower_s11) (hs.re 7 [1, 3, 4, 5, 6, 0, 2, 5, 6] rfl) hr12) ?_
 rintro _ w15 ⟨v13, R14, rfl, hs⟩
 replace hs := Sat.n8 (Γ := Φ) hs rfl
 refine WS_alloc (zs := [(.int .i64 0), (.int .i64 0), (.int .i64 0), (sl (none, 0, 0))]) hs ti51 rfl rfl ?_
 intro b16 w17 hs
 replace hs := Sat.n9 (Γ := Φ) hs rfl
 refine WS_store (us := [(.int .i64 r11.1.op), (.int .i64 r11.1.n), (.int .i64 r11.1.at_), (sl v13)]) (vs' := [(.int .i64 r11.1.op), (.int .i64 r11.1.n), (.int .i64 r11.1.at_), (sl v13)]) hs 0 rfl ti51 (O rfl) (O rfl) rfl rfl rfl rfl rfl ?_
 intro w18 hs
 replace hs := Sat.n9 (Γ := Φ) hs rfl
 refine WL_nil <| At_then <| WC_seq <| WC_region ?_
 iterate 2 refine W ?_
 obtain ⟨r19, hr20, hm⟩ := bind_some' hm
 refine WL_call (f := 83) (first := []) (cap := []) (xs := [(.tmp 18), (.tmp 19)]) (vs := [(.pointer (some ⟨b, 0, none⟩)), (sl v2)]) (args := [(.pointer (some ⟨b, 0, none⟩)), (sl v2)]) Tryd.call83 Opd.f (.cons (O rfl) (.cons (O rfl) .nil)) rfl rfl (expr_read_is_s3_ok (hs.re 9 [2, 6, 3, 4, 7, 8, 0, 1, 5, 6, 7, 8] rfl) hr20) ?_
 rintro _ w21 ⟨rfl, hs⟩
 replace hs := Sat.n9 (Γ := Φ) hs rfl
 iterate 5 refine W ?_
 refine WL_nil <| At_then <| WC_seq <| WC_seq <| WC_region ?_
 iterate 4 refine W ?_
 obtain ⟨b22, e23, hm⟩ := letv_som hm
 iterate 2 refine W ?_
 refine WG ?_
 obtain ⟨b24, e25, hm⟩ := letv_som hm
 refine WG ?_
 obtain ⟨b26, e27, hm⟩ := letv_som hm
 refine W ?_
 refine WL_nil <| At_then ?_
 refine WC_cond (O rfl) (fun hc28 => ?_) (fun hc28 => ?_)
 ·
  replace hm := bif_t hc28 hm
  refine WC_seq <| WC_region ?_
  refine Wo (Run_loadA (vs := [(.int .i64 r11.1.op), (.int .i64 r11.1.n), (.int .i64 r11.1.at_), (sl v13)]) Tryd.underlying51 rfl ti51 (O rfl) (fun _ => (hs.box (i := 3) rfl).part 0 rfl) rfl) rfl <| ?_
  refine WS_store (us := [(.int .i64 r11.1.op), (.int .i64 r11.1.n), (.int .i64 r11.1.at_), (sl v13)]) (vs' := [(.int .i64 r11.1.op), (.int .i64 r11.1.n), (.int .i64 r11.1.at_), (sl v13)]) hs 5 rfl ti51 (O rfl) (O rfl) rfl rfl rfl rfl rfl ?_
  intro w29 hs
  replace hs := Sat.n9 (Γ := Φ) hs rfl
  refine WL_nil <| At_then ?_
  refine WC_ret ?_
  refine At_then_ret <| ?_
  refine At_r1 rfl (ResIs.cA (vs := [(.int .i64 r11.1.op), (.int .i64 r11.1.n), (.int .i64 r11.1.at_), (sl v13)]) rfl Tryd.underlying51 rfl ti51 ((hs.box (i := 5) rfl).part 0 rfl) rfl) ?_
  cases hm
  exact ⟨v13, R14, rfl, (hs.re 9 [4, 0, 1, 2] rfl)⟩
 ·
  replace hm := bif_f hc28 hm
  refine WC_skip ?_
  refine At_then <| WC_seq <| WC_region ?_
  refine W ?_
  obtain ⟨r30, hr31, hm⟩ := bind_some' hm
  refine WL_call (f := 84) (first := []) (cap := []) (xs := [(.tmp 33)]) (vs := [(.pointer (some ⟨b, 0, none⟩))]) (args := [(.pointer (some ⟨b, 0, none⟩))]) Tryd.call84 Opd.f (.cons (O rfl) .nil) rfl rfl (expr_read_next_s3_ok (hs.re 9 [0, 1, 2, 3, 4, 5, 6, 7, 8] rfl) hr31) ?_
  rintro _ w32 ⟨rfl, hs⟩
  replace hs := Sat.n9 (Γ := Φ) hs rfl
  refine WS_alloc (zs := [(.int .i64 0), (S []), (.int .i64 0), (.int .i64 0)]) hs ti28 rfl rfl ?_
  intro b33 w34 hs
  replace hs := Sat.n10 (Γ := Φ) hs rfl
  refine WS_store (us := [(.int .i64 r30.1), (S r30.2.1), (.int .i64 r30.2.2.1), (.int .i64 r30.2.2.2)]) (vs' := [(.int .i64 r30.1), (S r30.2.1), (.int .i64 r30.2.2.1), (.int .i64 r30.2.2.2)]) hs 0 rfl ti28 (O rfl) (O rfl) rfl rfl rfl rfl rfl ?_
  intro w35 hs
  replace hs := Sat.n10 (Γ := Φ) hs rfl
  refine WL_nil <| At_then <| WC_seq <| WC_region ?_
  iterate 7 refine W ?_
  refine WS_store (us := [(.int .i64 (IntKind.i64.wrap (r11.2.1 + 1)))]) (vs' := [(sl v4), (.int .i64 (IntKind.i64.wrap (r11.2.1 + 1))), (sl v6), (.int .i64 r11.2.2.1), (.int .i64 r11.2.2.2.1), (.int .i64 r11.2.2.2.2)]) hs 1 rfl ti3 (O rfl) (O rfl) rfl rfl rfl rfl rfl ?_
  intro w36 hs
  replace hs := Sat.n10 (Γ := Φ) hs rfl
  refine WL_nil <| At_then <| WC_seq <| WC_region ?_
  iterate 2 refine W ?_
  obtain ⟨r37, hr38, hm⟩ := bind_some' hm
  refine WL_call (f := 77) (first := []) (cap := []) (xs := [(.tmp 42), (.tmp 43)]) (vs := [(.pointer (some ⟨b, 0, none⟩)), (.func (.func 85) #[] #[])]) (args := [(.pointer (some ⟨b, 0, none⟩)), (.func (.func 85) #[] #[])]) Tryd.call77 Opd.f (.cons (O rfl) (.cons (O rfl) .nil)) rfl rfl (ih_expr_read_lower_s12 (hs.re 10 [1, 2, 3, 8, 9, 0, 4, 5, 6, 7, 8, 9] rfl) hr38) ?_
  rintro _ w41 ⟨v39, R40, rfl, hs⟩
  replace hs := Sat.n11 (Γ := Φ) hs rfl
  refine WS_alloc (zs := [(.int .i64 0), (.int .i64 0), (.int .i64 0), (sl (none, 0, 0))]) hs ti51 rfl rfl ?_
  intro b42 w43 hs
  replace hs := Sat.n12 (Γ := Φ) hs rfl
  refine WS_store (us := [(.int .i64 r37.1.op), (.int .i64 r37.1.n), (.int .i64 r37.1.at_), (sl v39)]) (vs' := [(.int .i64 r37.1.op), (.int .i64 r37.1.n), (.int .i64 r37.1.at_), (sl v39)]) hs 0 rfl ti51 (O rfl) (O rfl) rfl rfl rfl rfl rfl ?_
  intro w44 hs
  replace hs := Sat.n12 (Γ := Φ) hs rfl
  refine WL_nil <| At_then <| WC_seq <| WC_region ?_
  iterate 3 refine W ?_
  refine Wo (Run_loadA (vs := [(.int .i64 r11.1.op), (.int .i64 r11.1.n), (.int .i64 r11.1.at_), (sl v13)]) Tryd.underlying51 rfl ti51 (O rfl) (fun _ => (hs.box (i := 6) rfl).part 0 rfl) rfl) rfl <| Wo (Run_loadA (vs := [(.int .i64 r37.1.op), (.int .i64 r37.1.n), (.int .i64 r37.1.at_), (sl v39)]) Tryd.underlying51 rfl ti51 (O rfl) (fun _ => (hs.box (i := 0) rfl).part 0 rfl) rfl) rfl <| ?_
  replace hs := hs.freeze (i := 7) rfl
  replace hs := hs.freeze (i := 1) rfl
  refine WS_lit (A := RExpr) (xs := [r11.1, r37.1]) (zs := [(.int .i64 0), (.int .i64 0), (.int .i64 0), (sl (none, 0, 0))]) (cells := [(.int .i64 r11.1.op), (.int .i64 r11.1.n), (.int .i64 r11.1.at_), (sl v13), (.int .i64 r37.1.op), (.int .i64 r37.1.n), (.int .i64 r37.1.at_), (sl v39)]) (parts := [(0, (.tmp 48)), (1, (.tmp 49))]) hs Tryd.underlying49 ti51 rfl rfl rfl (.cons (O rfl) (.cons (O rfl) .nil)) (by kernel_rfl) rfl (ARd.cons (A := RExpr) (c := [(.int .i64 r11.1.op), (.int .i64 r11.1.n), (.int .i64 r11.1.at_), (sl v13)]) (x := r11.1) (RExpr_closeE (⟨_, rfl, (hs.sl (i := 7) rfl)⟩)) (ARd.cons (A := RExpr) (c := [(.int .i64 r37.1.op), (.int .i64 r37.1.n), (.int .i64 r37.1.at_), (sl v39)]) (x := r37.1) (RExpr_closeE (⟨_, rfl, (hs.sl (i := 1) rfl)⟩)) ARd.nil)) rfl ?_
  intro b45 w46 hs
  replace hs := Sat.n13 (Γ := Φ) hs rfl
  refine Wo (Run_build (parts := [(0, (.tmp 45)), (2, (.tmp 47)), (3, (.tmp 50))]) (v := (.agg #[(.int .i64 r19.1), (.int .i64 0), (.int .i64 r30.2.2.2), (sl (some ⟨b45, 0, none⟩, 2, 2))])) (.cons (O rfl) (.cons (O rfl) (.cons (O rfl) .nil))) (fun _ => by kernel_rfl)) rfl <| ?_
  refine WS_store (us := [(.int .i64 r19.1), (.int .i64 0), (.int .i64 r30.2.2.2), (sl (some ⟨b45, 0, none⟩, 2, 2))]) (vs' := [(.int .i64 r19.1), (.int .i64 0), (.int .i64 r30.2.2.2), (sl (some ⟨b45, 0, none⟩, 2, 2))]) hs 9 rfl ti51 (O rfl) (O rfl) rfl rfl rfl rfl rfl ?_
  intro w47 hs
  replace hs := Sat.n13 (Γ := Φ) hs rfl
  refine WL_nil <| At_then ?_
  refine WC_ret ?_
  refine At_r1 rfl (ResIs.cA (vs := [(.int .i64 r19.1), (.int .i64 0), (.int .i64 r30.2.2.2), (sl (some ⟨b45, 0, none⟩, 2, 2))]) rfl Tryd.underlying51 rfl ti51 ((hs.box (i := 9) rfl).part 0 rfl) rfl) ?_
  cases hm
  exact ⟨(some ⟨b45, 0, none⟩, 2, 2), [b45], rfl, (hs.re 13 [0, 3, 4, 5] rfl)⟩
theorem expr_read_imp_s3_ok {k_expr_read_lower_s11 k_expr_read_lower_s12} (ih_expr_read_lower_s11 : ∀ {Φ : Ctx} {w : World} {l : Q3} {at_ : Int} {names : (List Str)} {deep : Int} {bad : Int} {place : Int} {b : Nat} {v2 : SLV} {R : List Nat} {v4 : SLV} {R5 : List Nat} {r : Q4}, Sat (box b 115 [(sl v2), (.int .i64 at_), (sl v4), (.int .i64 deep), (.int .i64 bad), (.int .i64 place)] :: osl Q1 28 (sl v2) l R :: osl RS 9 (sl v4) names R5 :: gl 0 (keysL.map S) :: gl 1 (textsL.map S) :: Φ) w → k_expr_read_lower_s11 (l, at_, names, deep, bad, place) = some r → CallsR Tryd.prog 77 [(.pointer (some ⟨b, 0, none⟩)), (.func (.func 78) #[] #[])] w (fun v w' => ∃ v3 : SLV, ∃ R4 : List Nat, v = (.agg #[(.int .i64 r.1.op), (.int .i64 r.1.n), (.int .i64 r.1.at_), (sl v3)]) ∧ Sat (osl RExpr 51 (sl v3) r.1.l R4 :: box b 115 [(sl v2), (.int .i64 r.2.1), (sl v4), (.int .i64 r.2.2.1), (.int .i64 r.2.2.2.1), (.int .i64 r.2.2.2.2)] :: osl Q1 28 (sl v2) l R :: osl RS 9 (sl v4) names R5 :: Φ) w')) (ih_expr_read_lower_s12 : ∀ {Φ : Ctx} {w : World} {l : Q3} {at_ : Int} {names : (List Str)} {deep : Int} {bad : Int} {place : Int} {b : Nat} {v2 : SLV} {R : List Nat} {v4 : SLV} {R5 : List Nat} {r : Q4}, Sat (box b 115 [(sl v2), (.int .i64 at_), (sl v4), (.int .i64 deep), (.int .i64 bad), (.int .i64 place)] :: osl Q1 28 (sl v2) l R :: osl RS 9 (sl v4) names R5 :: gl 0 (keysL.map S) :: gl 1 (textsL.map S) :: Φ) w → k_expr_read_lower_s12 (l, at_, names, deep, bad, place) = some r → CallsR Tryd.prog 77 [(.pointer (some ⟨b, 0, none⟩)), (.func (.func 85) #[] #[])] w (fun v w' => ∃ v3 : SLV, ∃ R4 : List Nat, v = (.agg #[(.int .i64 r.1.op), (.int .i64 r.1.n), (.int .i64 r.1.at_), (sl v3)]) ∧ Sat (osl RExpr 51 (sl v3) r.1.l R4 :: box b 115 [(sl v2), (.int .i64 r.2.1), (sl v4), (.int .i64 r.2.2.1), (.int .i64 r.2.2.2.1), (.int .i64 r.2.2.2.2)] :: osl Q1 28 (sl v2) l R :: osl RS 9 (sl v4) names R5 :: Φ) w')) {Φ : Ctx} {w : World} {l : Q3} {at_ : Int} {names : (List Str)} {deep : Int} {bad : Int} {place : Int} {b : Nat} {v2 : SLV} {R : List Nat} {v4 : SLV} {R5 : List Nat} {r : Q4} (hs : Sat (box b 115 [(sl v2), (.int .i64 at_), (sl v4), (.int .i64 deep), (.int .i64 bad), (.int .i64 place)] :: osl Q1 28 (sl v2) l R :: osl RS 9 (sl v4) names R5 :: gl 0 (keysL.map S) :: gl 1 (textsL.map S) :: Φ) w) (hm : expr_read_imp_s3 k_expr_read_lower_s11 k_expr_read_lower_s12 l at_ names deep bad place = some r) :
  CallsR Tryd.prog 85 [(.pointer (some ⟨b, 0, none⟩))] w (fun v w' => ∃ v3 : SLV, ∃ R4 : List Nat, v = (.agg #[(.int .i64 r.1.op), (.int .i64 r.1.n), (.int .i64 r.1.at_), (sl v3)]) ∧ Sat (osl RExpr 51 (sl v3) r.1.l R4 :: box b 115 [(sl v2), (.int .i64 r.2.1), (sl v4), (.int .i64 r.2.2.1), (.int .i64 r.2.2.2.1), (.int .i64 r.2.2.2.2)] :: osl Q1 28 (sl v2) l R :: osl RS 9 (sl v4) names R5 :: Φ) w') := by
 refine CallsX_enter Tryd.func85 rfl Tryd.ntmps85 rfl ?_
 unfold expr_read_imp_s3 at hm
 refine WC_seq <| WC_region ?_
 refine WS_alloc (zs := [(.int .i64 0), (.int .i64 0), (.int .i64 0), (sl (none, 0, 0))]) hs ti51 rfl rfl ?_
 intro b9 w10 hs
 replace hs := Sat.n6 (Γ := Φ) hs rfl
 refine WL_nil <| At_then <| WC_seq <| WC_region ?_
 refine W ?_
 refine WS_lit (A := (RI .i64)) (xs := [18]) (zs := [(.int .i64 0)]) (cells := [(.int .i64 18)]) (parts := [(0, (.const (.int .i64 18)))]) hs Tryd.underlying30 ti3 rfl rfl rfl (.cons Opd.c .nil) (by kernel_rfl) rfl (ARd.cons (A := (RI .i64)) (c := [(.int .i64 18)]) (x := 18) rfl ARd.nil) rfl ?_
 intro b11 w12 hs
 replace hs := Sat.n7 (Γ := Φ) hs rfl
 replace hs := hs.freeze (i := 0) rfl
 obtain ⟨r13, hr14, hm⟩ := bind_some' hm
 refine WL_call (f := 81) (first := []) (cap := []) (xs := [(.tmp 3), (.func 86), (.func 85), (.tmp 4)]) (vs := [(.pointer (some ⟨b, 0, none⟩)), (.func (.func 86) #[] #[]), (.func (.func 85) #[] #[]), (sl (some ⟨b11, 0, none⟩, 1, 1))]) (args := [(.pointer (some ⟨b, 0, none⟩)), (.func (.func 86) #[] #[]), (.func (.func 85) #[] #[]), (sl (some ⟨b11, 0, none⟩, 1, 1))]) Tryd.call81 Opd.f (.cons (O rfl) (.cons Opd.f (.cons Opd.f (.cons (O rfl) .nil)))) rfl rfl (expr_read_right_s8_ok (@ih_expr_read_lower_s11) (@ih_expr_read_lower_s12) (hs.re 7 [2, 0, 3, 4, 5, 6, 0, 1, 5, 6] rfl) hr14) ?_
 rintro _ w17 ⟨v15, R16, rfl, hs⟩
 replace hs := Sat.n8 (Γ := Φ) hs rfl
 refine WS_store (us := [(.int .i64 r13.1.op), (.int .i64 r13.1.n), (.int .i64 r13.1.at_), (sl v15)]) (vs' := [(.int .i64 r13.1.op), (.int .i64 r13.1.n), (.int .i64 r13.1.at_), (sl v15)]) hs 5 rfl ti51 (O rfl) (O rfl) rfl rfl rfl rfl rfl ?_
 intro w18 hs
 replace hs := Sat.n8 (Γ := Φ) hs rfl
 refine WL_nil <| At_then ?_
 refine WC_ret ?_
 refine At_r1 rfl (ResIs.cA (vs := [(.int .i64 r13.1.op), (.int .i64 r13.1.n), (.int .i64 r13.1.at_), (sl v15)]) rfl Tryd.underlying51 rfl ti51 ((hs.box (i := 5) rfl).part 0 rfl) rfl) ?_
 cases hm
 exact ⟨v15, R16, rfl, (hs.re 8 [0, 1, 2, 3] rfl)⟩
theorem expr_read_lower_s12_F_ok {k_expr_read_lower_s11 k_expr_read_lower_s12} (ih_expr_read_lower_s11 : ∀ {Φ : Ctx} {w : World} {l : Q3} {at_ : Int} {names : (List Str)} {deep : Int} {bad : Int} {place : Int} {b : Nat} {v2 : SLV} {R : List Nat} {v4 : SLV} {R5 : List Nat} {r : Q4}, Sat (box b 115 [(sl v2), (.int .i64 at_), (sl v4), (.int .i64 deep), (.int .i64 bad), (.int .i64 place)] :: osl Q1 28 (sl v2) l R :: osl RS 9 (sl v4) names R5 :: gl 0 (keysL.map S) :: gl 1 (textsL.map S) :: Φ) w → k_expr_read_lower_s11 (l, at_, names, deep, bad, place) = some r → CallsR Tryd.prog 77 [(.pointer (some ⟨b, 0, none⟩)), (.func (.func 78) #[] #[])] w (fun v w' => ∃ v3 : SLV, ∃ R4 : List Nat, v = (.agg #[(.int .i64 r.1.op), (.int .i64 r.1.n), (.int .i64 r.1.at_), (sl v3)]) ∧ Sat (osl RExpr 51 (sl v3) r.1.l R4 :: box b 115 [(sl v2), (.int .i64 r.2.1), (sl v4), (.int .i64 r.2.2.1), (.int .i64 r.2.2.2.1), (.int .i64 r.2.2.2.2)] :: osl Q1 28 (sl v2) l R :: osl RS 9 (sl v4) names R5 :: Φ) w')) (ih_expr_read_lower_s12 : ∀ {Φ : Ctx} {w : World} {l : Q3} {at_ : Int} {names : (List Str)} {deep : Int} {bad : Int} {place : Int} {b : Nat} {v2 : SLV} {R : List Nat} {v4 : SLV} {R5 : List Nat} {r : Q4}, Sat (box b 115 [(sl v2), (.int .i64 at_), (sl v4), (.int .i64 deep), (.int .i64 bad), (.int .i64 place)] :: osl Q1 28 (sl v2) l R :: osl RS 9 (sl v4) names R5 :: gl 0 (keysL.map S) :: gl 1 (textsL.map S) :: Φ) w → k_expr_read_lower_s12 (l, at_, names, deep, bad, place) = some r → CallsR Tryd.prog 77 [(.pointer (some ⟨b, 0, none⟩)), (.func (.func 85) #[] #[])] w (fun v w' => ∃ v3 : SLV, ∃ R4 : List Nat, v = (.agg #[(.int .i64 r.1.op), (.int .i64 r.1.n), (.int .i64 r.1.at_), (sl v3)]) ∧ Sat (osl RExpr 51 (sl v3) r.1.l R4 :: box b 115 [(sl v2), (.int .i64 r.2.1), (sl v4), (.int .i64 r.2.2.1), (.int .i64 r.2.2.2.1), (.int .i64 r.2.2.2.2)] :: osl Q1 28 (sl v2) l R :: osl RS 9 (sl v4) names R5 :: Φ) w')) {Φ : Ctx} {w : World} {l : Q3} {at_ : Int} {names : (List Str)} {deep : Int} {bad : Int} {place : Int} {b : Nat} {v2 : SLV} {R : List Nat} {v4 : SLV} {R5 : List Nat} {r : Q4} (hs : Sat (box b 115 [(sl v2), (.int .i64 at_), (sl v4), (.int .i64 deep), (.int .i64 bad), (.int .i64 place)] :: osl Q1 28 (sl v2) l R :: osl RS 9 (sl v4) names R5 :: gl 0 (keysL.map S) :: gl 1 (textsL.map S) :: Φ) w) (hm : expr_read_lower_s12_F k_expr_read_lower_s11 k_expr_read_lower_s12 l at_ names deep bad place = some r) :
  CallsR Tryd.prog 77 [(.pointer (some ⟨b, 0, none⟩)), (.func (.func 85) #[] #[])] w (fun v w' => ∃ v3 : SLV, ∃ R4 : List Nat, v = (.agg #[(.int .i64 r.1.op), (.int .i64 r.1.n), (.int .i64 r.1.at_), (sl v3)]) ∧ Sat (osl RExpr 51 (sl v3) r.1.l R4 :: box b 115 [(sl v2), (.int .i64 r.2.1), (sl v4), (.int .i64 r.2.2.1), (.int .i64 r.2.2.2.1), (.int .i64 r.2.2.2.2)] :: osl Q1 28 (sl v2) l R :: osl RS 9 (sl v4) names R5 :: Φ) w') := by
 refine CallsX_enter Tryd.func77 rfl Tryd.ntmps77 rfl ?_
 unfold expr_read_lower_s12_F at hm
 refine WC_seq <| WC_region ?_
 refine WS_alloc (zs := [(.int .i64 0), (.int .i64 0), (.int .i64 0), (sl (none, 0, 0))]) hs ti51 rfl rfl ?_
 intro b9 w10 hs
 replace hs := Sat.n6 (Γ := Φ) hs rfl
 refine WL_nil <| At_then <| WC_seq <| WC_seq <| WC_region ?_
 iterate 5 refine W ?_
 refine WL_nil <| At_then ?_
 refine WC_cond (O rfl) (fun hc11 => ?_) (fun hc11 => ?_)
 ·
  replace hm := bif_t hc11 hm
  refine WC_seq <| WC_region ?_
  refine W ?_
  obtain ⟨r12, hr13, hm⟩ := bind_some' hm
  refine WL_call (f := 80) (first := []) (cap := []) (xs := [(.tmp 11), (.const (.int .i64 9))]) (vs := [(.pointer (some ⟨b, 0, none⟩)), (.int .i64 9)]) (args := [(.pointer (some ⟨b, 0, none⟩)), (.int .i64 9)]) Tryd.call80 Opd.f (.cons (O rfl) (.cons Opd.c .nil)) rfl rfl (expr_read_fail_s3_ok (hs.re 6 [1, 2, 3, 0, 4, 5] rfl) hr13) ?_
  rintro _ w16 ⟨v14, R15, rfl, hs⟩
  replace hs := Sat.n7 (Γ := Φ) hs rfl
  refine WS_store (us := [(.int .i64 r12.1.op), (.int .i64 r12.1.n), (.int .i64 r12.1.at_), (sl v14)]) (vs' := [(.int .i64 r12.1.op), (.int .i64 r12.1.n), (.int .i64 r12.1.at_), (sl v14)]) hs 4 rfl ti51 (O rfl) (O rfl) rfl rfl rfl rfl rfl ?_
  intro w17 hs
  replace hs := Sat.n7 (Γ := Φ) hs rfl
  refine WL_nil <| At_then ?_
  refine WC_ret ?_
  refine At_then_ret <| ?_
  refine At_r1 rfl (ResIs.cA (vs := [(.int .i64 r12.1.op), (.int .i64 r12.1.n), (.int .i64 r12.1.at_), (sl v14)]) rfl Tryd.underlying51 rfl ti51 ((hs.box (i := 4) rfl).part 0 rfl) rfl) ?_
  cases hm
  exact ⟨v14, R15, rfl, (hs.re 7 [0, 1, 2, 3] rfl)⟩
 ·
  replace hm := bif_f hc11 hm
  refine WC_skip ?_
  refine At_then <| WC_seq <| WC_region ?_
  iterate 7 refine W ?_
  refine WS_store (us := [(.int .i64 (IntKind.i64.wrap (deep + 1)))]) (vs' := [(sl v2), (.int .i64 at_), (sl v4), (.int .i64 (IntKind.i64.wrap (deep + 1))), (.int .i64 bad), (.int .i64 place)]) hs 1 rfl ti3 (O rfl) (O rfl) rfl rfl rfl rfl rfl ?_
  intro w18 hs
  replace hs := Sat.n6 (Γ := Φ) hs rfl
  refine WL_nil <| At_then <| WC_seq <| WC_region ?_
  iterate 2 refine W ?_
  obtain ⟨r19, hr20, hm⟩ := bind_some' hm
  refine WL_call (f := 85) (first := []) (cap := []) (xs := [(.tmp 21)]) (vs := [(.pointer (some ⟨b, 0, none⟩))]) (args := [(.pointer (some ⟨b, 0, none⟩))]) Tryd.call85 (O rfl) (.cons (O rfl) .nil) rfl rfl (expr_read_imp_s3_ok (@ih_expr_read_lower_s11) (@ih_expr_read_lower_s12) (hs.re 6 [1, 2, 3, 4, 5, 0, 4, 5] rfl) hr20) ?_
  rintro _ w23 ⟨v21, R22, rfl, hs⟩
  replace hs := Sat.n7 (Γ := Φ) hs rfl
  refine WS_alloc (zs := [(.int .i64 0), (.int .i64 0), (.int .i64 0), (sl (none, 0, 0))]) hs ti51 rfl rfl ?_
  intro b24 w25 hs
  replace hs := Sat.n8 (Γ := Φ) hs rfl
  refine WS_store (us := [(.int .i64 r19.1.op), (.int .i64 r19.1.n), (.int .i64 r19.1.at_), (sl v21)]) (vs' := [(.int .i64 r19.1.op), (.int .i64 r19.1.n), (.int .i64 r19.1.at_), (sl v21)]) hs 0 rfl ti51 (O rfl) (O rfl) rfl rfl rfl rfl rfl ?_
  intro w26 hs
  replace hs := Sat.n8 (Γ := Φ) hs rfl
  refine WL_nil <| At_then <| WC_seq <| WC_region ?_
  iterate 7 refine W ?_
  refine WS_store (us := [(.int .i64 (IntKind.i64.wrap (r19.2.2.1 - 1)))]) (vs' := [(sl v2), (.int .i64 r19.2.1), (sl v4), (.int .i64 (IntKind.i64.wrap (r19.2.2.1 - 1))), (.int .i64 r19.2.2.2.1), (.int .i64 r19.2.2.2.2)]) hs 2 rfl ti3 (O rfl) (O rfl) rfl rfl rfl rfl rfl ?_
  intro w27 hs
  replace hs := Sat.n8 (Γ := Φ) hs rfl
  refine WL_nil <| At_then <| WC_seq <| WC_region ?_
  refine Wo (Run_loadA (vs := [(.int .i64 r19.1.op), (.int .i64 r19.1.n), (.int .i64 r19.1.at_), (sl v21)]) Tryd.underlying51 rfl ti51 (O rfl) (fun _ => (hs.box (i := 0) rfl).part 0 rfl) rfl) rfl <| ?_
  refine WS_store (us := [(.int .i64 r19.1.op), (.int .i64 r19.1.n), (.int .i64 r19.1.at_), (sl v21)]) (vs' := [(.int .i64 r19.1.op), (.int .i64 r19.1.n), (.int .i64 r19.1.at_), (sl v21)]) hs 5 rfl ti51 (O rfl) (O rfl) rfl rfl rfl rfl rfl ?_
  intro w28 hs
  replace hs := Sat.n8 (Γ := Φ) hs rfl
  refine WL_nil <| At_then ?_
  refine WC_ret ?_
  refine At_r1 rfl (ResIs.cA (vs := [(.int .i64 r19.1.op), (.int .i64 r19.1.n), (.int .i64 r19.1.at_), (sl v21)]) rfl Tryd.underlying51 rfl ti51 ((hs.box (i := 5) rfl).part 0 rfl) rfl) ?_
  cases hm
  exact ⟨v21, R22, rfl, (hs.re 8 [1, 2, 3, 4] rfl)⟩
theorem expr_read_lower_s12_ok {k_expr_read_lower_s11} (ih_expr_read_lower_s11 : ∀ {Φ : Ctx} {w : World} {l : Q3} {at_ : Int} {names : (List Str)} {deep : Int} {bad : Int} {place : Int} {b : Nat} {v2 : SLV} {R : List Nat} {v4 : SLV} {R5 : List Nat} {r : Q4}, Sat (box b 115 [(sl v2), (.int .i64 at_), (sl v4), (.int .i64 deep), (.int .i64 bad), (.int .i64 place)] :: osl Q1 28 (sl v2) l R :: osl RS 9 (sl v4) names R5 :: gl 0 (keysL.map S) :: gl 1 (textsL.map S) :: Φ) w → k_expr_read_lower_s11 (l, at_, names, deep, bad, place) = some r → CallsR Tryd.prog 77 [(.pointer (some ⟨b, 0, none⟩)), (.func (.func 78) #[] #[])] w (fun v w' => ∃ v3 : SLV, ∃ R4 : List Nat, v = (.agg #[(.int .i64 r.1.op), (.int .i64 r.1.n), (.int .i64 r.1.at_), (sl v3)]) ∧ Sat (osl RExpr 51 (sl v3) r.1.l R4 :: box b 115 [(sl v2), (.int .i64 r.2.1), (sl v4), (.int .i64 r.2.2.1), (.int .i64 r.2.2.2.1), (.int .i64 r.2.2.2.2)] :: osl Q1 28 (sl v2) l R :: osl RS 9 (sl v4) names R5 :: Φ) w')) {Φ : Ctx} {w : World} {l : Q3} {at_ : Int} {names : (List Str)} {deep : Int} {bad : Int} {place : Int} {b : Nat} {v2 : SLV} {R : List Nat} {v4 : SLV} {R5 : List Nat} {r : Q4} (hs : Sat (box b 115 [(sl v2), (.int .i64 at_), (sl v4), (.int .i64 deep), (.int .i64 bad), (.int .i64 place)] :: osl Q1 28 (sl v2) l R :: osl RS 9 (sl v4) names R5 :: gl 0 (keysL.map S) :: gl 1 (textsL.map S) :: Φ) w) (hm : expr_read_lower_s12 k_expr_read_lower_s11 l at_ names deep bad place = some r) :
  CallsR Tryd.prog 77 [(.pointer (some ⟨b, 0, none⟩)), (.func (.func 85) #[] #[])] w (fun v w' => ∃ v3 : SLV, ∃ R4 : List Nat, v = (.agg #[(.int .i64 r.1.op), (.int .i64 r.1.n), (.int .i64 r.1.at_), (sl v3)]) ∧ Sat (osl RExpr 51 (sl v3) r.1.l R4 :: box b 115 [(sl v2), (.int .i64 r.2.1), (sl v4), (.int .i64 r.2.2.1), (.int .i64 r.2.2.2.1), (.int .i64 r.2.2.2.2)] :: osl Q1 28 (sl v2) l R :: osl RS 9 (sl v4) names R5 :: Φ) w') := by
 have key : ∀ (N : Nat) {Φ : Ctx} {w : World} {l : Q3} {at_ : Int} {names : (List Str)} {deep : Int} {bad : Int} {place : Int} {b : Nat} {v2 : SLV} {R : List Nat} {v4 : SLV} {R5 : List Nat} {r : Q4}, Sat (box b 115 [(sl v2), (.int .i64 at_), (sl v4), (.int .i64 deep), (.int .i64 bad), (.int .i64 place)] :: osl Q1 28 (sl v2) l R :: osl RS 9 (sl v4) names R5 :: gl 0 (keysL.map S) :: gl 1 (textsL.map S) :: Φ) w → fixN (fun k (s : (Q3 × Int × (List Str) × Int × Int × Int)) => expr_read_lower_s12_F k_expr_read_lower_s11 k s.1 s.2.1 s.2.2.1 s.2.2.2.1 s.2.2.2.2.1 s.2.2.2.2.2) N (l, at_, names, deep, bad, place) = some r → CallsR Tryd.prog 77 [(.pointer (some ⟨b, 0, none⟩)), (.func (.func 85) #[] #[])] w (fun v w' => ∃ v3 : SLV, ∃ R4 : List Nat, v = (.agg #[(.int .i64 r.1.op), (.int .i64 r.1.n), (.int .i64 r.1.at_), (sl v3)]) ∧ Sat (osl RExpr 51 (sl v3) r.1.l R4 :: box b 115 [(sl v2), (.int .i64 r.2.1), (sl v4), (.int .i64 r.2.2.1), (.int .i64 r.2.2.2.1), (.int .i64 r.2.2.2.2)] :: osl Q1 28 (sl v2) l R :: osl RS 9 (sl v4) names R5 :: Φ) w') := by
  intro N
  induction N with
  | zero => intros; rename_i h; cases h
  | succ N ih => intros; rename_i hs hm; rw [fixN_succ] at hm; exact expr_read_lower_s12_F_ok (@ih_expr_read_lower_s11) (@ih) hs hm
 unfold expr_read_lower_s12 at hm
 exact key FUEL hs hm
theorem expr_read_deepImp_s3_ok {k_expr_read_lower_s11} (ih_expr_read_lower_s11 : ∀ {Φ : Ctx} {w : World} {l : Q3} {at_ : Int} {names : (List Str)} {deep : Int} {bad : Int} {place : Int} {b : Nat} {v2 : SLV} {R : List Nat} {v4 : SLV} {R5 : List Nat} {r : Q4}, Sat (box b 115 [(sl v2), (.int .i64 at_), (sl v4), (.int .i64 deep), (.int .i64 bad), (.int .i64 place)] :: osl Q1 28 (sl v2) l R :: osl RS 9 (sl v4) names R5 :: gl 0 (keysL.map S) :: gl 1 (textsL.map S) :: Φ) w → k_expr_read_lower_s11 (l, at_, names, deep, bad, place) = some r → CallsR Tryd.prog 77 [(.pointer (some ⟨b, 0, none⟩)), (.func (.func 78) #[] #[])] w (fun v w' => ∃ v3 : SLV, ∃ R4 : List Nat, v = (.agg #[(.int .i64 r.1.op), (.int .i64 r.1.n), (.int .i64 r.1.at_), (sl v3)]) ∧ Sat (osl RExpr 51 (sl v3) r.1.l R4 :: box b 115 [(sl v2), (.int .i64 r.2.1), (sl v4), (.int .i64 r.2.2.1), (.int .i64 r.2.2.2.1), (.int .i64 r.2.2.2.2)] :: osl Q1 28 (sl v2) l R :: osl RS 9 (sl v4) names R5 :: Φ) w')) {Φ : Ctx} {w : World} {l : Q3} {at_ : Int} {names : (List Str)} {deep : Int} {bad : Int} {place : Int} {b : Nat} {v2 : SLV} {R : List Nat} {v4 : SLV} {R5 : List Nat} {r : Q4} (hs : Sat (box b 115 [(sl v2), (.int .i64 at_), (sl v4), (.int .i64 deep), (.int .i64 bad), (.int .i64 place)] :: osl Q1 28 (sl v2) l R :: osl RS 9 (sl v4) names R5 :: gl 0 (keysL.map S) :: gl 1 (textsL.map S) :: Φ) w) (hm : expr_read_deepImp_s3 k_expr_read_lower_s11 l at_ names deep bad place = some r) :
  CallsR Tryd.prog 82 [(.pointer (some ⟨b, 0, none⟩))] w (fun v w' => ∃ v3 : SLV, ∃ R4 : List Nat, v = (.agg #[(.int .i64 r.1.op), (.int .i64 r.1.n), (.int .i64 r.1.at_), (sl v3)]) ∧ Sat (osl RExpr 51 (sl v3) r.1.l R4 :: box b 115 [(sl v2), (.int .i64 r.2.1), (sl v4), (.int .i64 r.2.2.1), (.int .i64 r.2.2.2.1), (.int .i64 r.2.2.2.2)] :: osl Q1 28 (sl v2) l R :: osl RS 9 (sl v4) names R5 :: Φ) w') := by
 refine CallsX_enter Tryd.func82 rfl Tryd.ntmps82 rfl ?_
 unfold expr_read_deepImp_s3 at hm
 refine WC_seq <| WC_region ?_
 refine WS_alloc (zs := [(.int .i64 0), (.int .i64 0), (.int .i64 0), (sl (none, 0, 0))]) hs ti51 rfl rfl ?_
 intro b9 w10 hs
 replace hs := Sat.n6 (Γ := Φ) hs rfl
 refine WL_nil <| At_then <| WC_seq <| WC_region ?_
 refine W ?_
 obtain ⟨r11, hr12, hm⟩ := bind_some' hm
 refine WL_call (f := 77) (first := []) (cap := []) (xs := [(.tmp 3), (.func 85)]) (vs := [(.pointer (some ⟨b, 0, none⟩)), (.func (.func 85) #[] #[])]) (args := [(.pointer (some ⟨b, 0, none⟩)), (.func (.func 85) #[] #[])]) Tryd.call77 Opd.f (.cons (O rfl) (.cons Opd.f .nil)) rfl rfl (expr_read_lower_s12_ok (@ih_expr_read_lower_s11) (hs.re 6 [1, 2, 3, 4, 5, 0, 4, 5] rfl) hr12) ?_
 rintro _ w15 ⟨v13, R14, rfl, hs⟩
 replace hs := Sat.n7 (Γ := Φ) hs rfl
 refine WS_store (us := [(.int .i64 r11.1.op), (.int .i64 r11.1.n), (.int .i64 r11.1.at_), (sl v13)]) (vs' := [(.int .i64 r11.1.op), (.int .i64 r11.1.n), (.int .i64 r11.1.at_), (sl v13)]) hs 4 rfl ti51 (O rfl) (O rfl) rfl rfl rfl rfl rfl ?_
 intro w16 hs
 replace hs := Sat.n7 (Γ := Φ) hs rfl
 refine WL_nil <| At_then ?_
 refine WC_ret ?_
 refine At_r1 rfl (ResIs.cA (vs := [(.int .i64 r11.1.op), (.int .i64 r11.1.n), (.int .i64 r11.1.at_), (sl v13)]) rfl Tryd.underlying51 rfl ti51 ((hs.box (i := 4) rfl).part 0 rfl) rfl) ?_
 cases hm
 exact ⟨v13, R14, rfl, (hs.re 7 [0, 1, 2, 3] rfl)⟩
end Go.Proofs.YtdhgpnejphlfpaaDoor
namespace Go.Proofs.YtdhgpnejphlfpaaDoor
open Go.Proofs
theorem expr_read_right_s7_ok {k_expr_read_lower_s11} (ih_expr_read_lower_s11 : ∀ {Φ : Ctx} {w : World} {l : Q3} {at_ : Int} {names : (List Str)} {deep : Int} {bad : Int} {place : Int} {b : Nat} {v2 : SLV} {R : List Nat} {v4 : SLV} {R5 : List Nat} {r : Q4}, Sat (box b 115 [(sl v2), (.int .i64 at_), (sl v4), (.int .i64 deep), (.int .i64 bad), (.int .i64 place)] :: osl Q1 28 (sl v2) l R :: osl RS 9 (sl v4) names R5 :: gl 0 (keysL.map S) :: gl 1 (textsL.map S) :: Φ) w → k_expr_read_lower_s11 (l, at_, names, deep, bad, place) = some r → CallsR Tryd.prog 77 [(.pointer (some ⟨b, 0, none⟩)), (.func (.func 78) #[] #[])] w (fun v w' => ∃ v3 : SLV, ∃ R4 : List Nat, v = (.agg #[(.int .i64 r.1.op), (.int .i64 r.1.n), (.int .i64 r.1.at_), (sl v3)]) ∧ Sat (osl RExpr 51 (sl v3) r.1.l R4 :: box b 115 [(sl v2), (.int .i64 r.2.1), (sl v4), (.int .i64 r.2.2.1), (.int .i64 r.2.2.2.1), (.int .i64 r.2.2.2.2)] :: osl Q1 28 (sl v2) l R :: osl RS 9 (sl v4) names R5 :: Φ) w')) {Φ : Ctx} {w : World} {ops : (List Int)} {l : Q3} {at_ : Int} {names : (List Str)} {deep : Int} {bad : Int} {place : Int} {b : Nat} {v2 : SLV} {v4 : SLV} {R : List Nat} {v6 : SLV} {R7 : List Nat} {r : Q4} (hs : Sat (box b 115 [(sl v4), (.int .i64 at_), (sl v6), (.int .i64 deep), (.int .i64 bad), (.int .i64 place)] :: imm Q8 [sl v2] ops :: osl Q1 28 (sl v4) l R :: osl RS 9 (sl v6) names R7 :: gl 0 (keysL.map S) :: gl 1 (textsL.map S) :: Φ) w) (hm : expr_read_right_s7 k_expr_read_lower_s11 ops l at_ names deep bad place = some r) :
  CallsR Tryd.prog 81 [(.pointer (some ⟨b, 0, none⟩)), (.func (.func 82) #[] #[]), (.func (.func 78) #[] #[]), (sl v2)] w (fun v w' => ∃ v3 : SLV, ∃ R4 : List Nat, v = (.agg #[(.int .i64 r.1.op), (.int .i64 r.1.n), (.int .i64 r.1.at_), (sl v3)]) ∧ Sat (osl RExpr 51 (sl v3) r.1.l R4 :: box b 115 [(sl v4), (.int .i64 r.2.1), (sl v6), (.int .i64 r.2.2.1), (.int .i64 r.2.2.2.1), (.int .i64 r.2.2.2.2)] :: osl Q1 28 (sl v4) l R :: osl RS 9 (sl v6) names R7 :: Φ) w') := by
 refine CallsX_enter Tryd.func81 rfl Tryd.ntmps81 rfl ?_
 unfold expr_read_right_s7 at hm
 refine WC_seq <| WC_region ?_
 refine WS_alloc (zs := [(.int .i64 0), (.int .i64 0), (.int .i64 0), (sl (none, 0, 0))]) hs ti51 rfl rfl ?_
 intro b9 w10 hs
 replace hs := Sat.n7 (Γ := Φ) hs rfl
 refine WL_nil <| At_then <| WC_seq <| WC_region ?_
 iterate 2 refine W ?_
 obtain ⟨r11, hr12, hm⟩ := bind_some' hm
 refine WL_call (f := 82) (first := []) (cap := []) (xs := [(.tmp 15)]) (vs := [(.pointer (some ⟨b, 0, none⟩))]) (args := [(.pointer (some ⟨b, 0, none⟩))]) Tryd.call82 (O rfl) (.cons (O rfl) .nil) rfl rfl (expr_read_deepImp_s3_ok (@ih_expr_read_lower_s11) (hs.re 7 [1, 3, 4, 5, 6, 0, 2, 5, 6] rfl) hr12) ?_
 rintro _ w15 ⟨v13, R14, rfl, hs⟩
 replace hs := Sat.n8 (Γ := Φ) hs rfl
 refine WS_alloc (zs := [(.int .i64 0), (.int .i64 0), (.int .i64 0), (sl (none, 0, 0))]) hs ti51 rfl rfl ?_
 intro b16 w17 hs
 replace hs := Sat.n9 (Γ := Φ) hs rfl
 refine WS_store (us := [(.int .i64 r11.1.op), (.int .i64 r11.1.n), (.int .i64 r11.1.at_), (sl v13)]) (vs' := [(.int .i64 r11.1.op), (.int .i64 r11.1.n), (.int .i64 r11.1.at_), (sl v13)]) hs 0 rfl ti51 (O rfl) (O rfl) rfl rfl rfl rfl rfl ?_
 intro w18 hs
 replace hs := Sat.n9 (Γ := Φ) hs rfl
 refine WL_nil <| At_then <| WC_seq <| WC_region ?_
 iterate 2 refine W ?_
 obtain ⟨r19, hr20, hm⟩ := bind_some' hm
 refine WL_call (f := 83) (first := []) (cap := []) (xs := [(.tmp 18), (.tmp 19)]) (vs := [(.pointer (some ⟨b, 0, none⟩)), (sl v2)]) (args := [(.pointer (some ⟨b, 0, none⟩)), (sl v2)]) Tryd.call83 Opd.f (.cons (O rfl) (.cons (O rfl) .nil)) rfl rfl (expr_read_is_s3_ok (hs.re 9 [2, 6, 3, 4, 7, 8, 0, 1, 5, 6, 7, 8] rfl) hr20) ?_
 rintro _ w21 ⟨rfl, hs⟩
 replace hs := Sat.n9 (Γ := Φ) hs rfl
 iterate 5 refine W ?_
 refine WL_nil <| At_then <| WC_seq <| WC_seq <| WC_region ?_
 iterate 4 refine W ?_
 obtain ⟨b22, e23, hm⟩ := letv_som hm
 iterate 2 refine W ?_
 refine WG ?_
 obtain ⟨b24, e25, hm⟩ := letv_som hm
 refine WG ?_
 obtain ⟨b26, e27, hm⟩ := letv_som hm
 refine W ?_
 refine WL_nil <| At_then ?_
 refine WC_cond (O rfl) (fun hc28 => ?_) (fun hc28 => ?_)
 ·
  replace hm := bif_t hc28 hm
  refine WC_seq <| WC_region ?_
  refine Wo (Run_loadA (vs := [(.int .i64 r11.1.op), (.int .i64 r11.1.n), (.int .i64 r11.1.at_), (sl v13)]) Tryd.underlying51 rfl ti51 (O rfl) (fun _ => (hs.box (i := 3) rfl).part 0 rfl) rfl) rfl <| ?_
  refine WS_store (us := [(.int .i64 r11.1.op), (.int .i64 r11.1.n), (.int .i64 r11.1.at_), (sl v13)]) (vs' := [(.int .i64 r11.1.op), (.int .i64 r11.1.n), (.int .i64 r11.1.at_), (sl v13)]) hs 5 rfl ti51 (O rfl) (O rfl) rfl rfl rfl rfl rfl ?_
  intro w29 hs
  replace hs := Sat.n9 (Γ := Φ) hs rfl
  refine WL_nil <| At_then ?_
  refine WC_ret ?_
  refine At_then_ret <| ?_
  refine At_r1 rfl (ResIs.cA (vs := [(.int .i64 r11.1.op), (.int .i64 r11.1.n), (.int .i64 r11.1.at_), (sl v13)]) rfl Tryd.underlying51 rfl ti51 ((hs.box (i := 5) rfl).part 0 rfl) rfl) ?_
  cases hm
  exact ⟨v13, R14, rfl, (hs.re 9 [4, 0, 1, 2] rfl)⟩
 ·
  replace hm := bif_f hc28 hm
  refine WC_skip ?_
  refine At_then <| WC_seq <| WC_region ?_
  refine W ?_
  obtain ⟨r30, hr31, hm⟩ := bind_some' hm
  refine WL_call (f := 84) (first := []) (cap := []) (xs := [(.tmp 33)]) (vs := [(.pointer (some ⟨b, 0, none⟩))]) (args := [(.pointer (some ⟨b, 0, none⟩))]) Tryd.call84 Opd.f (.cons (O rfl) .nil) rfl rfl (expr_read_next_s3_ok (hs.re 9 [0, 1, 2, 3, 4, 5, 6, 7, 8] rfl) hr31) ?_
  rintro _ w32 ⟨rfl, hs⟩
  replace hs := Sat.n9 (Γ := Φ) hs rfl
  refine WS_alloc (zs := [(.int .i64 0), (S []), (.int .i64 0), (.int .i64 0)]) hs ti28 rfl rfl ?_
  intro b33 w34 hs
  replace hs := Sat.n10 (Γ := Φ) hs rfl
  refine WS_store (us := [(.int .i64 r30.1), (S r30.2.1), (.int .i64 r30.2.2.1), (.int .i64 r30.2.2.2)]) (vs' := [(.int .i64 r30.1), (S r30.2.1), (.int .i64 r30.2.2.1), (.int .i64 r30.2.2.2)]) hs 0 rfl ti28 (O rfl) (O rfl) rfl rfl rfl rfl rfl ?_
  intro w35 hs
  replace hs := Sat.n10 (Γ := Φ) hs rfl
  refine WL_nil <| At_then <| WC_seq <| WC_region ?_
  iterate 7 refine W ?_
  refine WS_store (us := [(.int .i64 (IntKind.i64.wrap (r11.2.1 + 1)))]) (vs' := [(sl v4), (.int .i64 (IntKind.i64.wrap (r11.2.1 + 1))), (sl v6), (.int .i64 r11.2.2.1), (.int .i64 r11.2.2.2.1), (.int .i64 r11.2.2.2.2)]) hs 1 rfl ti3 (O rfl) (O rfl) rfl rfl rfl rfl rfl ?_
  intro w36 hs
  replace hs := Sat.n10 (Γ := Φ) hs rfl
  refine WL_nil <| At_then <| WC_seq <| WC_region ?_
  iterate 2 refine W ?_
  obtain ⟨r37, hr38, hm⟩ := bind_some' hm
  refine WL_call (f := 77) (first := []) (cap := []) (xs := [(.tmp 42), (.tmp 43)]) (vs := [(.pointer (some ⟨b, 0, none⟩)), (.func (.func 78) #[] #[])]) (args := [(.pointer (some ⟨b, 0, none⟩)), (.func (.func 78) #[] #[])]) Tryd.call77 Opd.f (.cons (O rfl) (.cons (O rfl) .nil)) rfl rfl (ih_expr_read_lower_s11 (hs.re 10 [1, 2, 3, 8, 9, 0, 4, 5, 6, 7, 8, 9] rfl) hr38) ?_
  rintro _ w41 ⟨v39, R40, rfl, hs⟩
  replace hs := Sat.n11 (Γ := Φ) hs rfl
  refine WS_alloc (zs := [(.int .i64 0), (.int .i64 0), (.int .i64 0), (sl (none, 0, 0))]) hs ti51 rfl rfl ?_
  intro b42 w43 hs
  replace hs := Sat.n12 (Γ := Φ) hs rfl
  refine WS_store (us := [(.int .i64 r37.1.op), (.int .i64 r37.1.n), (.int .i64 r37.1.at_), (sl v39)]) (vs' := [(.int .i64 r37.1.op), (.int .i64 r37.1.n), (.int .i64 r37.1.at_), (sl v39)]) hs 0 rfl ti51 (O rfl) (O rfl) rfl rfl rfl rfl rfl ?_
  intro w44 hs
  replace hs := Sat.n12 (Γ := Φ) hs rfl
  refine WL_nil <| At_then <| WC_seq <| WC_region ?_
  iterate 3 refine W ?_
  refine Wo (Run_loadA (vs := [(.int .i64 r11.1.op), (.int .i64 r11.1.n), (.int .i64 r11.1.at_), (sl v13)]) Tryd.underlying51 rfl ti51 (O rfl) (fun _ => (hs.box (i := 6) rfl).part 0 rfl) rfl) rfl <| Wo (Run_loadA (vs := [(.int .i64 r37.1.op), (.int .i64 r37.1.n), (.int .i64 r37.1.at_), (sl v39)]) Tryd.underlying51 rfl ti51 (O rfl) (fun _ => (hs.box (i := 0) rfl).part 0 rfl) rfl) rfl <| ?_
  replace hs := hs.freeze (i := 7) rfl
  replace hs := hs.freeze (i := 1) rfl
  refine WS_lit (A := RExpr) (xs := [r11.1, r37.1]) (zs := [(.int .i64 0), (.int .i64 0), (.int .i64 0), (sl (none, 0, 0))]) (cells := [(.int .i64 r11.1.op), (.int .i64 r11.1.n), (.int .i64 r11.1.at_), (sl v13), (.int .i64 r37.1.op), (.int .i64 r37.1.n), (.int .i64 r37.1.at_), (sl v39)]) (parts := [(0, (.tmp 48)), (1, (.tmp 49))]) hs Tryd.underlying49 ti51 rfl rfl rfl (.cons (O rfl) (.cons (O rfl) .nil)) (by kernel_rfl) rfl (ARd.cons (A := RExpr) (c := [(.int .i64 r11.1.op), (.int .i64 r11.1.n), (.int .i64 r11.1.at_), (sl v13)]) (x := r11.1) (RExpr_closeE (⟨_, rfl, (hs.sl (i := 7) rfl)⟩)) (ARd.cons (A := RExpr) (c := [(.int .i64 r37.1.op), (.int .i64 r37.1.n), (.int .i64 r37.1.at_), (sl v39)]) (x := r37.1) (RExpr_closeE (⟨_, rfl, (hs.sl (i := 1) rfl)⟩)) ARd.nil)) rfl ?_
  intro b45 w46 hs
  replace hs := Sat.n13 (Γ := Φ) hs rfl
  refine Wo (Run_build (parts := [(0, (.tmp 45)), (2, (.tmp 47)), (3, (.tmp 50))]) (v := (.agg #[(.int .i64 r19.1), (.int .i64 0), (.int .i64 r30.2.2.2), (sl (some ⟨b45, 0, none⟩, 2, 2))])) (.cons (O rfl) (.cons (O rfl) (.cons (O rfl) .nil))) (fun _ => by kernel_rfl)) rfl <| ?_
  refine WS_store (us := [(.int .i64 r19.1), (.int .i64 0), (.int .i64 r30.2.2.2), (sl (some ⟨b45, 0, none⟩, 2, 2))]) (vs' := [(.int .i64 r19.1), (.int .i64 0), (.int .i64 r30.2.2.2), (sl (some ⟨b45, 0, none⟩, 2, 2))]) hs 9 rfl ti51 (O rfl) (O rfl) rfl rfl rfl rfl rfl ?_
  intro w47 hs
  replace hs := Sat.n13 (Γ := Φ) hs rfl
  refine WL_nil <| At_then ?_
  refine WC_ret ?_
  refine At_r1 rfl (ResIs.cA (vs := [(.int .i64 r19.1), (.int .i64 0), (.int .i64 r30.2.2.2), (sl (some ⟨b45, 0, none⟩, 2, 2))]) rfl Tryd.underlying51 rfl ti51 ((hs.box (i := 9) rfl).part 0 rfl) rfl) ?_
  cases hm
  exact ⟨(some ⟨b45, 0, none⟩, 2, 2), [b45], rfl, (hs.re 13 [0, 3, 4, 5] rfl)⟩
theorem expr_read_iff_s3_ok {k_expr_read_lower_s11} (ih_expr_read_lower_s11 : ∀ {Φ : Ctx} {w : World} {l : Q3} {at_ : Int} {names : (List Str)} {deep : Int} {bad : Int} {place : Int} {b : Nat} {v2 : SLV} {R : List Nat} {v4 : SLV} {R5 : List Nat} {r : Q4}, Sat (box b 115 [(sl v2), (.int .i64 at_), (sl v4), (.int .i64 deep), (.int .i64 bad), (.int .i64 place)] :: osl Q1 28 (sl v2) l R :: osl RS 9 (sl v4) names R5 :: gl 0 (keysL.map S) :: gl 1 (textsL.map S) :: Φ) w → k_expr_read_lower_s11 (l, at_, names, deep, bad, place) = some r → CallsR Tryd.prog 77 [(.pointer (some ⟨b, 0, none⟩)), (.func (.func 78) #[] #[])] w (fun v w' => ∃ v3 : SLV, ∃ R4 : List Nat, v = (.agg #[(.int .i64 r.1.op), (.int .i64 r.1.n), (.int .i64 r.1.at_), (sl v3)]) ∧ Sat (osl RExpr 51 (sl v3) r.1.l R4 :: box b 115 [(sl v2), (.int .i64 r.2.1), (sl v4), (.int .i64 r.2.2.1), (.int .i64 r.2.2.2.1), (.int .i64 r.2.2.2.2)] :: osl Q1 28 (sl v2) l R :: osl RS 9 (sl v4) names R5 :: Φ) w')) {Φ : Ctx} {w : World} {l : Q3} {at_ : Int} {names : (List Str)} {deep : Int} {bad : Int} {place : Int} {b : Nat} {v2 : SLV} {R : List Nat} {v4 : SLV} {R5 : List Nat} {r : Q4} (hs : Sat (box b 115 [(sl v2), (.int .i64 at_), (sl v4), (.int .i64 deep), (.int .i64 bad), (.int .i64 place)] :: osl Q1 28 (sl v2) l R :: osl RS 9 (sl v4) names R5 :: gl 0 (keysL.map S) :: gl 1 (textsL.map S) :: Φ) w) (hm : expr_read_iff_s3 k_expr_read_lower_s11 l at_ names deep bad place = some r) :
  CallsR Tryd.prog 78 [(.pointer (some ⟨b, 0, none⟩))] w (fun v w' => ∃ v3 : SLV, ∃ R4 : List Nat, v = (.agg #[(.int .i64 r.1.op), (.int .i64 r.1.n), (.int .i64 r.1.at_), (sl v3)]) ∧ Sat (osl RExpr 51 (sl v3) r.1.l R4 :: box b 115 [(sl v2), (.int .i64 r.2.1), (sl v4), (.int .i64 r.2.2.1), (.int .i64 r.2.2.2.1), (.int .i64 r.2.2.2.2)] :: osl Q1 28 (sl v2) l R :: osl RS 9 (sl v4) names R5 :: Φ) w') := by
 refine CallsX_enter Tryd.func78 rfl Tryd.ntmps78 rfl ?_
 unfold expr_read_iff_s3 at hm
 refine WC_seq <| WC_region ?_
 refine WS_alloc (zs := [(.int .i64 0), (.int .i64 0), (.int .i64 0), (sl (none, 0, 0))]) hs ti51 rfl rfl ?_
 intro b9 w10 hs
 replace hs := Sat.n6 (Γ := Φ) hs rfl
 refine WL_nil <| At_then <| WC_seq <| WC_region ?_
 refine W ?_
 refine WS_lit (A := (RI .i64)) (xs := [19]) (zs := [(.int .i64 0)]) (cells := [(.int .i64 19)]) (parts := [(0, (.const (.int .i64 19)))]) hs Tryd.underlying30 ti3 rfl rfl rfl (.cons Opd.c .nil) (by kernel_rfl) rfl (ARd.cons (A := (RI .i64)) (c := [(.int .i64 19)]) (x := 19) rfl ARd.nil) rfl ?_
 intro b11 w12 hs
 replace hs := Sat.n7 (Γ := Φ) hs rfl
 replace hs := hs.freeze (i := 0) rfl
 obtain ⟨r13, hr14, hm⟩ := bind_some' hm
 refine WL_call (f := 81) (first := []) (cap := []) (xs := [(.tmp 3), (.func 82), (.func 78), (.tmp 4)]) (vs := [(.pointer (some ⟨b, 0, none⟩)), (.func (.func 82) #[] #[]), (.func (.func 78) #[] #[]), (sl (some ⟨b11, 0, none⟩, 1, 1))]) (args := [(.pointer (some ⟨b, 0, none⟩)), (.func (.func 82) #[] #[]), (.func (.func 78) #[] #[]), (sl (some ⟨b11, 0, none⟩, 1, 1))]) Tryd.call81 Opd.f (.cons (O rfl) (.cons Opd.f (.cons Opd.f (.cons (O rfl) .nil)))) rfl rfl (expr_read_right_s7_ok (@ih_expr_read_lower_s11) (hs.re 7 [2, 0, 3, 4, 5, 6, 0, 1, 5, 6] rfl) hr14) ?_
 rintro _ w17 ⟨v15, R16, rfl, hs⟩
 replace hs := Sat.n8 (Γ := Φ) hs rfl
 refine WS_store (us := [(.int .i64 r13.1.op), (.int .i64 r13.1.n), (.int .i64 r13.1.at_), (sl v15)]) (vs' := [(.int .i64 r13.1.op), (.int .i64 r13.1.n), (.int .i64 r13.1.at_), (sl v15)]) hs 5 rfl ti51 (O rfl) (O rfl) rfl rfl rfl rfl rfl ?_
 intro w18 hs
 replace hs := Sat.n8 (Γ := Φ) hs rfl
 refine WL_nil <| At_then ?_
 refine WC_ret ?_
 refine At_r1 rfl (ResIs.cA (vs := [(.int .i64 r13.1.op), (.int .i64 r13.1.n), (.int .i64 r13.1.at_), (sl v15)]) rfl Tryd.underlying51 rfl ti51 ((hs.box (i := 5) rfl).part 0 rfl) rfl) ?_
 cases hm
 exact ⟨v15, R16, rfl, (hs.re 8 [0, 1, 2, 3] rfl)⟩
theorem expr_read_lower_s11_F_ok {k_expr_read_lower_s11} (ih_expr_read_lower_s11 : ∀ {Φ : Ctx} {w : World} {l : Q3} {at_ : Int} {names : (List Str)} {deep : Int} {bad : Int} {place : Int} {b : Nat} {v2 : SLV} {R : List Nat} {v4 : SLV} {R5 : List Nat} {r : Q4}, Sat (box b 115 [(sl v2), (.int .i64 at_), (sl v4), (.int .i64 deep), (.int .i64 bad), (.int .i64 place)] :: osl Q1 28 (sl v2) l R :: osl RS 9 (sl v4) names R5 :: gl 0 (keysL.map S) :: gl 1 (textsL.map S) :: Φ) w → k_expr_read_lower_s11 (l, at_, names, deep, bad, place) = some r → CallsR Tryd.prog 77 [(.pointer (some ⟨b, 0, none⟩)), (.func (.func 78) #[] #[])] w (fun v w' => ∃ v3 : SLV, ∃ R4 : List Nat, v = (.agg #[(.int .i64 r.1.op), (.int .i64 r.1.n), (.int .i64 r.1.at_), (sl v3)]) ∧ Sat (osl RExpr 51 (sl v3) r.1.l R4 :: box b 115 [(sl v2), (.int .i64 r.2.1), (sl v4), (.int .i64 r.2.2.1), (.int .i64 r.2.2.2.1), (.int .i64 r.2.2.2.2)] :: osl Q1 28 (sl v2) l R :: osl RS 9 (sl v4) names R5 :: Φ) w')) {Φ : Ctx} {w : World} {l : Q3} {at_ : Int} {names : (List Str)} {deep : Int} {bad : Int} {place : Int} {b : Nat} {v2 : SLV} {R : List Nat} {v4 : SLV} {R5 : List Nat} {r : Q4} (hs : Sat (box b 115 [(sl v2), (.int .i64 at_), (sl v4), (.int .i64 deep), (.int .i64 bad), (.int .i64 place)] :: osl Q1 28 (sl v2) l R :: osl RS 9 (sl v4) names R5 :: gl 0 (keysL.map S) :: gl 1 (textsL.map S) :: Φ) w) (hm : expr_read_lower_s11_F k_expr_read_lower_s11 l at_ names deep bad place = some r) :
  CallsR Tryd.prog 77 [(.pointer (some ⟨b, 0, none⟩)), (.func (.func 78) #[] #[])] w (fun v w' => ∃ v3 : SLV, ∃ R4 : List Nat, v = (.agg #[(.int .i64 r.1.op), (.int .i64 r.1.n), (.int .i64 r.1.at_), (sl v3)]) ∧ Sat (osl RExpr 51 (sl v3) r.1.l R4 :: box b 115 [(sl v2), (.int .i64 r.2.1), (sl v4), (.int .i64 r.2.2.1), (.int .i64 r.2.2.2.1), (.int .i64 r.2.2.2.2)] :: osl Q1 28 (sl v2) l R :: osl RS 9 (sl v4) names R5 :: Φ) w') := by
 refine CallsX_enter Tryd.func77 rfl Tryd.ntmps77 rfl ?_
 unfold expr_read_lower_s11_F at hm
 refine WC_seq <| WC_region ?_
 refine WS_alloc (zs := [(.int .i64 0), (.int .i64 0), (.int .i64 0), (sl (none, 0, 0))]) hs ti51 rfl rfl ?_
 intro b9 w10 hs
 replace hs := Sat.n6 (Γ := Φ) hs rfl
 refine WL_nil <| At_then <| WC_seq <| WC_seq <| WC_region ?_
 iterate 5 refine W ?_
 refine WL_nil <| At_then ?_
 refine WC_cond (O rfl) (fun hc11 => ?_) (fun hc11 => ?_)
 ·
  replace hm := bif_t hc11 hm
  refine WC_seq <| WC_region ?_
  refine W ?_
  obtain ⟨r12, hr13, hm⟩ := bind_some' hm
  refine WL_call (f := 80) (first := []) (cap := []) (xs := [(.tmp 11), (.const (.int .i64 9))]) (vs := [(.pointer (some ⟨b, 0, none⟩)), (.int .i64 9)]) (args := [(.pointer (some ⟨b, 0, none⟩)), (.int .i64 9)]) Tryd.call80 Opd.f (.cons (O rfl) (.cons Opd.c .nil)) rfl rfl (expr_read_fail_s3_ok (hs.re 6 [1, 2, 3, 0, 4, 5] rfl) hr13) ?_
  rintro _ w16 ⟨v14, R15, rfl, hs⟩
  replace hs := Sat.n7 (Γ := Φ) hs rfl
  refine WS_store (us := [(.int .i64 r12.1.op), (.int .i64 r12.1.n), (.int .i64 r12.1.at_), (sl v14)]) (vs' := [(.int .i64 r12.1.op), (.int .i64 r12.1.n), (.int .i64 r12.1.at_), (sl v14)]) hs 4 rfl ti51 (O rfl) (O rfl) rfl rfl rfl rfl rfl ?_
  intro w17 hs
  replace hs := Sat.n7 (Γ := Φ) hs rfl
  refine WL_nil <| At_then ?_
  refine WC_ret ?_
  refine At_then_ret <| ?_
  refine At_r1 rfl (ResIs.cA (vs := [(.int .i64 r12.1.op), (.int .i64 r12.1.n), (.int .i64 r12.1.at_), (sl v14)]) rfl Tryd.underlying51 rfl ti51 ((hs.box (i := 4) rfl).part 0 rfl) rfl) ?_
  cases hm
  exact ⟨v14, R15, rfl, (hs.re 7 [0, 1, 2, 3] rfl)⟩
 ·
  replace hm := bif_f hc11 hm
  refine WC_skip ?_
  refine At_then <| WC_seq <| WC_region ?_
  iterate 7 refine W ?_
  refine WS_store (us := [(.int .i64 (IntKind.i64.wrap (deep + 1)))]) (vs' := [(sl v2), (.int .i64 at_), (sl v4), (.int .i64 (IntKind.i64.wrap (deep + 1))), (.int .i64 bad), (.int .i64 place)]) hs 1 rfl ti3 (O rfl) (O rfl) rfl rfl rfl rfl rfl ?_
  intro w18 hs
  replace hs := Sat.n6 (Γ := Φ) hs rfl
  refine WL_nil <| At_then <| WC_seq <| WC_region ?_
  iterate 2 refine W ?_
  obtain ⟨r19, hr20, hm⟩ := bind_some' hm
  refine WL_call (f := 78) (first := []) (cap := []) (xs := [(.tmp 21)]) (vs := [(.pointer (some ⟨b, 0, none⟩))]) (args := [(.pointer (some ⟨b, 0, none⟩))]) Tryd.call78 (O rfl) (.cons (O rfl) .nil) rfl rfl (expr_read_iff_s3_ok (@ih_expr_read_lower_s11) (hs.re 6 [1, 2, 3, 4, 5, 0, 4, 5] rfl) hr20) ?_
  rintro _ w23 ⟨v21, R22, rfl, hs⟩
  replace hs := Sat.n7 (Γ := Φ) hs rfl
  refine WS_alloc (zs := [(.int .i64 0), (.int .i64 0), (.int .i64 0), (sl (none, 0, 0))]) hs ti51 rfl rfl ?_
  intro b24 w25 hs
  replace hs := Sat.n8 (Γ := Φ) hs rfl
  refine WS_store (us := [(.int .i64 r19.1.op), (.int .i64 r19.1.n), (.int .i64 r19.1.at_), (sl v21)]) (vs' := [(.int .i64 r19.1.op), (.int .i64 r19.1.n), (.int .i64 r19.1.at_), (sl v21)]) hs 0 rfl ti51 (O rfl) (O rfl) rfl rfl rfl rfl rfl ?_
  intro w26 hs
  replace hs := Sat.n8 (Γ := Φ) hs rfl
  refine WL_nil <| At_then <| WC_seq <| WC_region ?_
  iterate 7 refine W ?_
  refine WS_store (us := [(.int .i64 (IntKind.i64.wrap (r19.2.2.1 - 1)))]) (vs' := [(sl v2), (.int .i64 r19.2.1), (sl v4), (.int .i64 (IntKind.i64.wrap (r19.2.2.1 - 1))), (.int .i64 r19.2.2.2.1), (.int .i64 r19.2.2.2.2)]) hs 2 rfl ti3 (O rfl) (O rfl) rfl rfl rfl rfl rfl ?_
  intro w27 hs
  replace hs := Sat.n8 (Γ := Φ) hs rfl
  refine WL_nil <| At_then <| WC_seq <| WC_region ?_
  refine Wo (Run_loadA (vs := [(.int .i64 r19.1.op), (.int .i64 r19.1.n), (.int .i64 r19.1.at_), (sl v21)]) Tryd.underlying51 rfl ti51 (O rfl) (fun _ => (hs.box (i := 0) rfl).part 0 rfl) rfl) rfl <| ?_
  refine WS_store (us := [(.int .i64 r19.1.op), (.int .i64 r19.1.n), (.int .i64 r19.1.at_), (sl v21)]) (vs' := [(.int .i64 r19.1.op), (.int .i64 r19.1.n), (.int .i64 r19.1.at_), (sl v21)]) hs 5 rfl ti51 (O rfl) (O rfl) rfl rfl rfl rfl rfl ?_
  intro w28 hs
  replace hs := Sat.n8 (Γ := Φ) hs rfl
  refine WL_nil <| At_then ?_
  refine WC_ret ?_
  refine At_r1 rfl (ResIs.cA (vs := [(.int .i64 r19.1.op), (.int .i64 r19.1.n), (.int .i64 r19.1.at_), (sl v21)]) rfl Tryd.underlying51 rfl ti51 ((hs.box (i := 5) rfl).part 0 rfl) rfl) ?_
  cases hm
  exact ⟨v21, R22, rfl, (hs.re 8 [1, 2, 3, 4] rfl)⟩
theorem expr_read_lower_s11_ok {Φ w l at_ names deep bad place b v2 R v4 R5 r} (hs : Sat (box b 115 [(sl v2), (.int .i64 at_), (sl v4), (.int .i64 deep), (.int .i64 bad), (.int .i64 place)] :: osl Q1 28 (sl v2) l R :: osl RS 9 (sl v4) names R5 :: gl 0 (keysL.map S) :: gl 1 (textsL.map S) :: Φ) w) (hm : expr_read_lower_s11 l at_ names deep bad place = some r) :
  CallsR Tryd.prog 77 [(.pointer (some ⟨b, 0, none⟩)), (.func (.func 78) #[] #[])] w (fun v w' => ∃ v3 : SLV, ∃ R4 : List Nat, v = (.agg #[(.int .i64 r.1.op), (.int .i64 r.1.n), (.int .i64 r.1.at_), (sl v3)]) ∧ Sat (osl RExpr 51 (sl v3) r.1.l R4 :: box b 115 [(sl v2), (.int .i64 r.2.1), (sl v4), (.int .i64 r.2.2.1), (.int .i64 r.2.2.2.1), (.int .i64 r.2.2.2.2)] :: osl Q1 28 (sl v2) l R :: osl RS 9 (sl v4) names R5 :: Φ) w') := by
 have key : ∀ (N : Nat) {Φ : Ctx} {w : World} {l : Q3} {at_ : Int} {names : (List Str)} {deep : Int} {bad : Int} {place : Int} {b : Nat} {v2 : SLV} {R : List Nat} {v4 : SLV} {R5 : List Nat} {r : Q4}, Sat (box b 115 [(sl v2), (.int .i64 at_), (sl v4), (.int .i64 deep), (.int .i64 bad), (.int .i64 place)] :: osl Q1 28 (sl v2) l R :: osl RS 9 (sl v4) names R5 :: gl 0 (keysL.map S) :: gl 1 (textsL.map S) :: Φ) w → fixN (fun k (s : (Q3 × Int × (List Str) × Int × Int × Int)) => expr_read_lower_s11_F k s.1 s.2.1 s.2.2.1 s.2.2.2.1 s.2.2.2.2.1 s.2.2.2.2.2) N (l, at_, names, deep, bad, place) = some r → CallsR Tryd.prog 77 [(.pointer (some ⟨b, 0, none⟩)), (.func (.func 78) #[] #[])] w (fun v w' => ∃ v3 : SLV, ∃ R4 : List Nat, v = (.agg #[(.int .i64 r.1.op), (.int .i64 r.1.n), (.int .i64 r.1.at_), (sl v3)]) ∧ Sat (osl RExpr 51 (sl v3) r.1.l R4 :: box b 115 [(sl v2), (.int .i64 r.2.1), (sl v4), (.int .i64 r.2.2.1), (.int .i64 r.2.2.2.1), (.int .i64 r.2.2.2.2)] :: osl Q1 28 (sl v2) l R :: osl RS 9 (sl v4) names R5 :: Φ) w') := by
  intro N
  induction N with
  | zero => intros; rename_i h; cases h
  | succ N ih => intros; rename_i hs hm; rw [fixN_succ] at hm; exact expr_read_lower_s11_F_ok (@ih) hs hm
 unfold expr_read_lower_s11 at hm
 exact key FUEL hs hm
theorem expr_Parse_s3_ok {Φ w l at_ names v1 R v3 R4 r} (hs : Sat (osl Q1 28 (sl v1) l R :: osl RS 9 (sl v3) names R4 :: gl 0 (keysL.map S) :: gl 1 (textsL.map S) :: Φ) w) (hm : expr_Parse_s3 l at_ names = some r) :
  CallsR Tryd.prog 72 [(sl v1), (.int .i64 at_), (sl v3)] w (fun v w' => ∃ v4 : SLV, ∃ R5 : List Nat, v = (.tuple #[(.agg #[(.int .i64 r.1.op), (.int .i64 r.1.n), (.int .i64 r.1.at_), (sl v4)]), (.int .i64 r.2.1), (.int .i64 r.2.2.1), (.int .i64 r.2.2.2)]) ∧ Sat (osl RExpr 51 (sl v4) r.1.l R5 :: osl Q1 28 (sl v1) l R :: osl RS 9 (sl v3) names R4 :: Φ) w') := by
 refine CallsX_enter Tryd.func72 rfl Tryd.ntmps72 rfl ?_
 unfold expr_Parse_s3 at hm
 refine WC_seq <| WC_region ?_
 refine WS_alloc (zs := [(.int .i64 0), (.int .i64 0), (.int .i64 0), (sl (none, 0, 0))]) hs ti51 rfl rfl ?_
 intro b9 w10 hs
 replace hs := Sat.n5 (Γ := Φ) hs rfl
 iterate 3 refine W ?_
 refine WL_nil <| At_then <| WC_seq <| WC_region ?_
 iterate 3 refine W ?_
 refine Wo (Run_build (parts := [(0, (.tmp 12)), (1, (.tmp 13)), (2, (.tmp 14))]) (v := (.agg #[(sl v1), (.int .i64 at_), (sl v3), (.int .i64 0), (.int .i64 0), (.int .i64 0)])) (.cons (O rfl) (.cons (O rfl) (.cons (O rfl) .nil))) (fun _ => by kernel_rfl)) rfl <| ?_
 refine WS_box (zs := [(sl v1), (.int .i64 at_), (sl v3), (.int .i64 0), (.int .i64 0), (.int .i64 0)]) hs (O rfl) rfl rfl ?_
 intro b11 w12 hs
 replace hs := Sat.n6 (Γ := Φ) hs rfl
 refine W ?_
 refine WL_nil <| At_then <| WC_seq <| WC_region ?_
 refine W ?_
 obtain ⟨r13, hr14, hm⟩ := bind_some' hm
 refine WL_call (f := 77) (first := []) (cap := []) (xs := [(.tmp 17), (.func 78)]) (vs := [(.pointer (some ⟨b11, 0, none⟩)), (.func (.func 78) #[] #[])]) (args := [(.pointer (some ⟨b11, 0, none⟩)), (.func (.func 78) #[] #[])]) Tryd.call77 Opd.f (.cons (O rfl) (.cons Opd.f .nil)) rfl rfl (expr_read_lower_s11_ok (hs.re 6 [0, 2, 3, 4, 5, 1, 4, 5] rfl) hr14) ?_
 rintro _ w17 ⟨v15, R16, rfl, hs⟩
 replace hs := Sat.n7 (Γ := Φ) hs rfl
 refine WS_alloc (zs := [(.int .i64 0), (.int .i64 0), (.int .i64 0), (sl (none, 0, 0))]) hs ti51 rfl rfl ?_
 intro b18 w19 hs
 replace hs := Sat.n8 (Γ := Φ) hs rfl
 refine WS_store (us := [(.int .i64 r13.1.op), (.int .i64 r13.1.n), (.int .i64 r13.1.at_), (sl v15)]) (vs' := [(.int .i64 r13.1.op), (.int .i64 r13.1.n), (.int .i64 r13.1.at_), (sl v15)]) hs 0 rfl ti51 (O rfl) (O rfl) rfl rfl rfl rfl rfl ?_
 intro w20 hs
 replace hs := Sat.n8 (Γ := Φ) hs rfl
 refine WL_nil <| At_then <| WC_seq <| WC_seq <| WC_region ?_
 iterate 5 refine W ?_
 refine WL_nil <| At_then ?_
 refine WC_cond (O rfl) (fun hc21 => ?_) (fun hc21 => ?_)
 ·
  replace hm := bif_t hc21 hm
  refine WC_seq ?_
  refine WC_region_mixed [0, 0, 2, 4, 8, 0, 32, 64, 128, 1, 513, 1567, 4095] (.q 0 0 (.q 1 1 (.q 2 3 (.q 3 7 (.q 4 15 (.q 5 31 (.q 6 63 (.q 7 127 (.q 8 255 (.l 9 511 (.q 10 1023 (.q 11 2047 (.q 12 4095 .nil))))))))))))) (by kernel_rfl) (by kernel_rfl) ?_
  intro w22 hx23
  replace hs := hs.ext hx23
  refine WD_pure (fun _ => (Run_build (parts := []) (v := (.agg #[(.int .i64 0), (.int .i64 0), (.int .i64 0), (sl (none, 0, 0))])) .nil (fun _ => by kernel_rfl))) rfl rfl rfl rfl <| WD_pure (fun _ => (Run_move (O rfl))) rfl rfl rfl rfl <| WD_pure (fun _ => (Run_nilP (O rfl))) rfl rfl rfl rfl <| WD_pure (fun _ => (Run_fieldAddr fo115_4 (O rfl))) rfl rfl rfl rfl <| WD_op (fun w => CellsAt w ⟨b11, 4, none⟩ [(.int .i64 r13.2.2.2.1)]) ((hs.box (i := 2) rfl).part 4 rfl) (fun _ hJ => (Run_load1 (v := (.int .i64 r13.2.2.2.1)) Tryd.underlying34 rfl (O rfl) (fun _ => hJ))) rfl rfl rfl rfl <| WD_pure (fun _ => (Run_move (O rfl))) rfl rfl rfl rfl <| WD_pure (fun _ => (Run_nilP (O rfl))) rfl rfl rfl rfl <| WD_pure (fun _ => (Run_fieldAddr fo115_5 (O rfl))) rfl rfl rfl rfl <| ?_
  refine WD_op (fun w => CellsAt w ⟨b11, 5, none⟩ [(.int .i64 r13.2.2.2.2)]) ((hs.box (i := 2) rfl).part 5 rfl) (fun _ hJ => (Run_load1 (v := (.int .i64 r13.2.2.2.2)) Tryd.underlying3 rfl (O rfl) (fun _ => hJ))) rfl rfl rfl rfl <| ?_
  refine WD_loud (pend' := [(8, fun w => CellsAt w ⟨b11, 5, none⟩ [(.int .i64 r13.2.2.2.2)]), (4, fun w => CellsAt w ⟨b11, 4, none⟩ [(.int .i64 r13.2.2.2.1)])]) rfl (by kernel_rfl) ?_
  refine WS_store (us := [(.int .i64 0), (.int .i64 0), (.int .i64 0), (sl (none, 0, 0))]) (vs' := [(.int .i64 0), (.int .i64 0), (.int .i64 0), (sl (none, 0, 0))]) hs 5 rfl ti51 (O rfl) (O rfl) rfl rfl rfl rfl rfl ?_
  intro w24 hs
  replace hs := Sat.n8 (Γ := Φ) hs rfl
  refine WL_nil ?_
  refine At_QK (allJ_cons ((hs.box (i := 2) rfl).part 5 rfl) (allJ_cons ((hs.box (i := 2) rfl).part 4 rfl) allJ_nil)) ?_
  refine WD_pure (fun _ => (Run_assign Opd.c)) rfl rfl rfl rfl <| WD_pure (fun _ => (Run_assign (O rfl))) rfl rfl rfl rfl <| WD_pure (fun _ => (Run_assign (O rfl))) rfl rfl rfl rfl <| ?_
  refine WD_nil ?_
  refine At_then ?_
  refine WC_ret ?_
  refine At_then_ret <| ?_
  refine At_r4 rfl (ResIs.cA (vs := [(.int .i64 0), (.int .i64 0), (.int .i64 0), (sl (none, 0, 0))]) rfl Tryd.underlying51 rfl ti51 ((hs.box (i := 5) rfl).part 0 rfl) rfl) (ResIs.t rfl) (ResIs.t rfl) (ResIs.t rfl) ?_
  replace hs := hs.addNil RExpr 51
  cases hm
  exact ⟨(none, 0, 0), [], rfl, (hs.re 9 [0, 4, 5] rfl)⟩
 ·
  replace hm := bif_f hc21 hm
  refine WC_skip ?_
  refine At_then <| WC_seq ?_
  refine WC_region_mixed [0, 0, 2, 4, 8, 1, 63, 127, 255] (.q 0 0 (.q 1 1 (.q 2 3 (.q 3 7 (.q 4 15 (.l 5 31 (.q 6 63 (.q 7 127 (.q 8 255 .nil))))))))) (by kernel_rfl) (by kernel_rfl) ?_
  intro w25 hx26
  replace hs := hs.ext hx26
  refine WD_op (fun w => CellsAt w ⟨b18, 0, none⟩ [(.int .i64 r13.1.op), (.int .i64 r13.1.n), (.int .i64 r13.1.at_), (sl v15)]) ((hs.box (i := 0) rfl).part 0 rfl) (fun _ hJ => (Run_loadA (vs := [(.int .i64 r13.1.op), (.int .i64 r13.1.n), (.int .i64 r13.1.at_), (sl v15)]) Tryd.underlying51 rfl ti51 (O rfl) (fun _ => hJ) rfl)) rfl rfl rfl rfl <| WD_pure (fun _ => (Run_move (O rfl))) rfl rfl rfl rfl <| WD_pure (fun _ => (Run_nilP (O rfl))) rfl rfl rfl rfl <| WD_pure (fun _ => (Run_fieldAddr fo115_1 (O rfl))) rfl rfl rfl rfl <| WD_op (fun w => CellsAt w ⟨b11, 1, none⟩ [(.int .i64 r13.2.1)]) ((hs.box (i := 2) rfl).part 1 rfl) (fun _ hJ => (Run_load1 (v := (.int .i64 r13.2.1)) Tryd.underlying3 rfl (O rfl) (fun _ => hJ))) rfl rfl rfl rfl <| ?_
  refine WD_loud (pend' := [(4, fun w => CellsAt w ⟨b11, 1, none⟩ [(.int .i64 r13.2.1)])]) rfl (by kernel_rfl) ?_
  refine WS_store (us := [(.int .i64 r13.1.op), (.int .i64 r13.1.n), (.int .i64 r13.1.at_), (sl v15)]) (vs' := [(.int .i64 r13.1.op), (.int .i64 r13.1.n), (.int .i64 r13.1.at_), (sl v15)]) hs 5 rfl ti51 (O rfl) (O rfl) rfl rfl rfl rfl rfl ?_
  intro w27 hs
  replace hs := Sat.n8 (Γ := Φ) hs rfl
  refine WL_nil ?_
  refine At_QK (allJ_cons ((hs.box (i := 2) rfl).part 1 rfl) allJ_nil) ?_
  refine WD_pure (fun _ => (Run_assign (O rfl))) rfl rfl rfl rfl <| WD_pure (fun _ => (Run_assign Opd.c)) rfl rfl rfl rfl <| WD_pure (fun _ => (Run_assign Opd.c)) rfl rfl rfl rfl <| ?_
  refine WD_nil ?_
  refine At_then ?_
  refine WC_ret ?_
  refine At_r4 rfl (ResIs.cA (vs := [(.int .i64 r13.1.op), (.int .i64 r13.1.n), (.int .i64 r13.1.at_), (sl v15)]) rfl Tryd.underlying51 rfl ti51 ((hs.box (i := 5) rfl).part 0 rfl) rfl) (ResIs.t rfl) (ResIs.t rfl) (ResIs.t rfl) ?_
  cases hm
  exact ⟨v15, R16, rfl, (hs.re 8 [1, 3, 4] rfl)⟩
end Go.Proofs.YtdhgpnejphlfpaaDoor
namespace Go.Proofs.YtdhgpnejphlfpaaDoor
open Go.Proofs
theorem expr_Type_F_ok {k_expr_Type} (ih_expr_Type : ∀ {Φ : Ctx} {w : World} {e : Ex} {v1 : SLV} {r : (Int × Int × Int)}, Sat (imm (RSl RExpr) [sl v1] e.l :: Φ) w → k_expr_Type e = some r → CallsR Tryd.prog 73 [(.agg #[(.int .i64 e.op), (.int .i64 e.n), (.int .i64 e.at_), (sl v1)])] w (fun v w' => v = (.tuple #[(.int .i64 r.1), (.int .i64 r.2.1), (.int .i64 r.2.2)]) ∧ Sat (Φ) w')) {Φ : Ctx} {w : World} {e : Ex} {v1 : SLV} {r : (Int × Int × Int)} (hs : Sat (imm (RSl RExpr) [sl v1] e.l :: Φ) w) (hm : expr_Type_F k_expr_Type e = some r) :
  CallsR Tryd.prog 73 [(.agg #[(.int .i64 e.op), (.int .i64 e.n), (.int .i64 e.at_), (sl v1)])] w (fun v w' => v = (.tuple #[(.int .i64 r.1), (.int .i64 r.2.1), (.int .i64 r.2.2)]) ∧ Sat (Φ) w') := by
 refine CallsX_enter Tryd.func73 rfl Tryd.ntmps73 rfl ?_
 unfold expr_Type_F at hm
 refine WC_seq <| WC_region ?_
 refine WS_box (zs := [(.int .i64 e.op), (.int .i64 e.n), (.int .i64 e.at_), (sl v1)]) hs (O rfl) rfl rfl ?_
 intro b5 w6 hs
 replace hs := Sat.n2 (Γ := Φ) hs rfl
 iterate 3 refine W ?_
 refine WL_nil <| At_then <| WC_seq <| WC_region ?_
 iterate 3 refine W ?_
 refine WL_nil <| At_then <| WC_seq <| WC_seq <| WC_region ?_
 iterate 4 refine W ?_
 refine WL_nil <| At_then ?_
 refine WC_block ?_
 refine WC_loop (σ := Bool × Bool × Bool × Int) (γ := Unit) (F := (expr_Type_L1 k_expr_Type e)) (N := FUEL) (s0 := (true, true, true, 0)) (r := r) (fun ⟨ints8, bools9, times10, t11⟩ (_ : Unit) w7 => Sat (box b5 51 [(.int .i64 e.op), (.int .i64 e.n), (.int .i64 e.at_), (sl v1)] :: imm (RSl RExpr) [sl v1] e.l :: Φ) w7) (fun ⟨ints8, bools9, times10, t11⟩ (_ : Unit) => [(1, true, (.pointer (some ⟨b5, 0, none⟩))), (5, true, (.bool ints8)), (6, true, (.bool bools9)), (7, true, (.bool times10)), (14, true, (sl v1)), (15, true, (.int .i64 (List.length e.l : Int))), (16, true, (.int .i64 t11))]) hm () (hs.re 2 [0, 1] rfl) rfl ?_
 rintro again12 ⟨ints8, bools9, times10, t11⟩ _ w7 hm hs
 unfold expr_Type_L1 at hm
 dsimp only at hm
 refine WC_seq <| WC_region ?_
 refine W ?_
 refine WL_nil <| At_then <| WC_seq ?_
 refine WC_cond (O rfl) (fun hc13 => ?_) (fun hc13 => ?_)
 ·
  replace hm := bif_t hc13 hm
  refine WC_skip ?_
  refine At_then <| WC_seq ?_
  refine WC_block ?_
  refine WC_seq <| WC_region ?_
  obtain ⟨e14, he15, hm⟩ := bind_some' hm
  obtain ⟨v16, hC17, hN18, hR19⟩ := cellsM51 (g := true) (fun hg => (hs.sl (i := 1) rfl)) (fun hg => he15)
  replace hs := hs.addL [elem true (elA (sl v1) t11 4) [(.int .i64 e14.op), (.int .i64 e14.n), (.int .i64 e14.at_), (sl v16)], imm (RSl RExpr) [sl v16] e14.l] rfl ⟨fun hg => ⟨hN18 hg, hC17 hg⟩, ⟨_, rfl, hR19 rfl⟩, trivial⟩
  replace hs := Sat.n4 (Γ := Φ) hs rfl
  refine Wo (Run_idxAddr (p := (elA (sl v1) t11 4)) Tryd.underlying49 ti51 (O rfl) (O rfl) (fun hg => (SRd.atA (A := RExpr) (v := (sl v1)) (hs.sl (i := 3) rfl) he15).1)) rfl <| Wo (Run_loadA (vs := [(.int .i64 e14.op), (.int .i64 e14.n), (.int .i64 e14.at_), (sl v16)]) Tryd.underlying51 rfl ti51 (O rfl) (fun hg => ((hs.elem (i := 0) rfl) hg).sub 0 rfl) rfl) rfl <| ?_
  refine WS_alloc (zs := [(.int .i64 0), (.int .i64 0), (.int .i64 0), (sl (none, 0, 0))]) hs ti51 rfl rfl ?_
  intro b20 w21 hs
  replace hs := Sat.n5 (Γ := Φ) hs rfl
  refine WS_store (us := [(.int .i64 e14.op), (.int .i64 e14.n), (.int .i64 e14.at_), (sl v16)]) (vs' := [(.int .i64 e14.op), (.int .i64 e14.n), (.int .i64 e14.at_), (sl v16)]) hs 0 rfl ti51 (O rfl) (O rfl) rfl rfl rfl rfl rfl ?_
  intro w22 hs
  replace hs := Sat.n5 (Γ := Φ) hs rfl
  refine WL_nil <| At_then <| WC_seq <| WC_region ?_
  refine Wo (Run_loadA (vs := [(.int .i64 e14.op), (.int .i64 e14.n), (.int .i64 e14.at_), (sl v16)]) Tryd.underlying51 rfl ti51 (O rfl) (fun _ => (hs.box (i := 0) rfl).part 0 rfl) rfl) rfl <| ?_
  obtain ⟨r23, hr24, hm⟩ := bind_some' hm
  refine WL_call (f := 73) (first := []) (cap := []) (xs := [(.tmp 21)]) (vs := [(.agg #[(.int .i64 e14.op), (.int .i64 e14.n), (.int .i64 e14.at_), (sl v16)])]) (args := [(.agg #[(.int .i64 e14.op), (.int .i64 e14.n), (.int .i64 e14.at_), (sl v16)])]) Tryd.call73 Opd.f (.cons (O rfl) .nil) rfl rfl (ih_expr_Type (hs.re 5 [2, 0, 1, 2, 3, 4] rfl) hr24) ?_
  rintro _ w25 ⟨rfl, hs⟩
  replace hs := Sat.n5 (Γ := Φ) hs rfl
  iterate 7 refine W ?_
  refine WL_nil <| At_then <| WC_seq <| WC_seq <| WC_region ?_
  iterate 2 refine W ?_
  refine WL_nil <| At_then ?_
  refine WC_cond (O rfl) (fun hc26 => ?_) (fun hc26 => ?_)
  ·
   replace hm := bif_t hc26 hm
   refine WC_seq <| WC_region ?_
   iterate 5 refine W ?_
   refine WL_nil <| At_then ?_
   refine WC_ret ?_
   refine At_then_ret <| At_blk_ret <| At_then_ret <| At_then_ret <| At_blk_ret <| At_then_ret <| ?_
   refine At_r3 rfl (ResIs.t rfl) (ResIs.t rfl) (ResIs.t rfl) ?_
   cases hm
   exact ⟨rfl, (hs.re 5 [] rfl)⟩
  ·
   replace hm := bif_f hc26 hm
   refine WC_skip ?_
   refine At_then <| WC_seq <| WC_region ?_
   iterate 2 refine W ?_
   refine WG ?_
   obtain ⟨b27, e28, hm⟩ := letv_som hm
   refine WG ?_
   obtain ⟨b29, e30, hm⟩ := letv_som hm
   iterate 2 refine W ?_
   refine WL_nil <| At_then <| WC_seq <| WC_region ?_
   iterate 2 refine W ?_
   refine WG ?_
   obtain ⟨b31, e32, hm⟩ := letv_som hm
   refine WG ?_
   obtain ⟨b33, e34, hm⟩ := letv_som hm
   iterate 2 refine W ?_
   refine WL_nil <| At_then <| WC_region ?_
   iterate 2 refine W ?_
   refine WG ?_
   obtain ⟨b35, e36, hm⟩ := letv_som hm
   refine WG ?_
   obtain ⟨b37, e38, hm⟩ := letv_som hm
   iterate 2 refine W ?_
   refine WL_nil ?_
   refine At_blk_normal ?_
   refine At_then <| WC_region ?_
   iterate 2 refine W ?_
   refine WL_nil ?_
   exact At_again (b29, b33, b37, (IntKind.i64.wrap (t11 + 1))) () hm (hs.re 5 [3, 4] rfl) rfl
 ·
  replace hm := bif_f hc13 hm
  refine WC_exit ?_
  refine At_then_exit <| At_then_exit <| At_blk_here <| ?_
  refine At_then <| WC_seq ?_
  refine WC_block ?_
  refine WC_seq <| WC_region ?_
  iterate 2 refine W ?_
  obtain ⟨b39, e40, hm⟩ := letv_som hm
  iterate 2 refine W ?_
  refine WG ?_
  obtain ⟨b41, e42, hm⟩ := letv_som hm
  iterate 2 refine W ?_
  refine WL_nil <| At_then ?_
  refine WC_cond (O rfl) (fun hc43 => ?_) (fun hc43 => ?_)
  ·
   replace hm := bif_t hc43 hm
   refine WC_seq <| WC_region ?_
   iterate 3 refine W ?_
   refine WL_nil <| At_then ?_
   refine WC_ret ?_
   refine At_blk_ret <| At_then_ret <| ?_
   refine At_r3 rfl (ResIs.t rfl) (ResIs.t rfl) (ResIs.t rfl) ?_
   cases hm
   exact ⟨rfl, (hs.re 2 [] rfl)⟩
  ·
   replace hm := bif_f hc43 hm
   refine WC_seq_cut (γ := Bool) (fun t45 w44 => expr_Type_K2 e times10 t45 = some r ∧ Sat (box b5 51 [(.int .i64 e.op), (.int .i64 e.n), (.int .i64 e.at_), (sl v1)] :: imm (RSl RExpr) [sl v1] e.l :: Φ) w44) (fun t45 => [(1, true, (.pointer (some ⟨b5, 0, none⟩))), (7, true, (.bool times10)), (53, true, (.bool t45))]) ?_ ?_
   ·
    rintro t45 w44 ⟨hm, hs⟩
    unfold expr_Type_K2 at hm
    refine WC_cond (O rfl) (fun hc46 => ?_) (fun hc46 => ?_)
    ·
     replace hm := bif_t hc46 hm
     refine WC_seq <| WC_region ?_
     iterate 3 refine W ?_
     refine WL_nil <| At_then ?_
     refine WC_ret ?_
     refine At_blk_ret <| At_then_ret <| ?_
     refine At_r3 rfl (ResIs.t rfl) (ResIs.t rfl) (ResIs.t rfl) ?_
     cases hm
     exact ⟨rfl, (hs.re 2 [] rfl)⟩
    ·
     replace hm := bif_f hc46 hm
     refine WC_seq <| WC_region ?_
     iterate 2 refine W ?_
     obtain ⟨b47, e48, hm⟩ := letv_som hm
     iterate 2 refine W ?_
     refine WG ?_
     obtain ⟨b49, e50, hm⟩ := letv_som hm
     iterate 2 refine W ?_
     refine WL_nil <| At_then ?_
     refine WC_cond (O rfl) (fun hc51 => ?_) (fun hc51 => ?_)
     ·
      replace hm := bif_t hc51 hm
      refine WC_seq <| WC_region ?_
      iterate 3 refine W ?_
      refine WL_nil <| At_then ?_
      refine WC_ret ?_
      refine At_blk_ret <| At_then_ret <| ?_
      refine At_r3 rfl (ResIs.t rfl) (ResIs.t rfl) (ResIs.t rfl) ?_
      cases hm
      exact ⟨rfl, (hs.re 2 [] rfl)⟩
     ·
      replace hm := bif_f hc51 hm
      refine WC_skip ?_
      refine At_blk_normal ?_
      refine At_then <| WC_seq ?_
      refine WC_region_mixed [0, 1, 0, 4, 15] (.q 0 0 (.q 1 1 (.q 2 3 (.q 3 7 (.q 4 15 .nil))))) (by kernel_rfl) (by kernel_rfl) ?_
      intro w52 hx53
      replace hs := hs.ext hx53
      refine WD_pure (fun _ => (Run_fieldAddr fo51_2 (O rfl))) rfl rfl rfl rfl <| WD_op (fun w => CellsAt w ⟨b5, 2, none⟩ [(.int .i64 e.at_)]) ((hs.box (i := 0) rfl).part 2 rfl) (fun _ hJ => (Run_load1 (v := (.int .i64 e.at_)) Tryd.underlying3 rfl (O rfl) (fun _ => hJ))) rfl rfl rfl rfl <| WD_pure (fun _ => (Run_assign Opd.c)) rfl rfl rfl rfl <| WD_pure (fun _ => (Run_assign Opd.c)) rfl rfl rfl rfl <| WD_pure (fun _ => (Run_assign (O rfl))) rfl rfl rfl rfl <| ?_
      refine WD_nil ?_
      refine At_then ?_
      refine WC_ret ?_
      refine At_r3 rfl (ResIs.t rfl) (ResIs.t rfl) (ResIs.t rfl) ?_
      cases hm
      exact ⟨rfl, (hs.re 2 [] rfl)⟩
   ·
    refine WC_seq <| WC_region ?_
    iterate 2 refine W ?_
    obtain ⟨b54, e55, hm⟩ := letv_som hm
    iterate 2 refine W ?_
    iterate 2 refine WG ?_
    obtain ⟨b56, e57, hm⟩ := letv_som hm
    refine WG ?_
    obtain ⟨b58, e59, hm⟩ := letv_som hm
    iterate 2 refine W ?_
    refine WG ?_
    obtain ⟨b60, e61, hm⟩ := letv_som hm
    iterate 2 refine W ?_
    refine WL_nil <| At_then ?_
    refine WC_cond (O rfl) (fun hc62 => ?_) (fun hc62 => ?_)
    ·
     replace hm := bif_t hc62 hm
     refine WC_skip ?_
     exact At_join b60 ⟨hm, (hs.re 2 [0, 1] rfl)⟩ rfl
    ·
     replace hm := bif_f hc62 hm
     refine WC_seq <| WC_region ?_
     iterate 4 refine W ?_
     refine WL_nil <| At_then ?_
     refine WC_cond (O rfl) (fun hc63 => ?_) (fun hc63 => ?_)
     ·
      replace hm := bif_t hc63 hm
      refine WC_skip ?_
      exact At_join (e.op == 13) ⟨hm, (hs.re 2 [0, 1] rfl)⟩ rfl
     ·
      replace hm := bif_f hc63 hm
      refine WC_seq <| WC_region ?_
      iterate 4 refine W ?_
      refine WL_nil <| At_then ?_
      refine WC_cond (O rfl) (fun hc64 => ?_) (fun hc64 => ?_)
      ·
       replace hm := bif_t hc64 hm
       refine WC_skip ?_
       exact At_join (e.op == 14) ⟨hm, (hs.re 2 [0, 1] rfl)⟩ rfl
      ·
       replace hm := bif_f hc64 hm
       refine WC_region ?_
       iterate 2 refine W ?_
       obtain ⟨b65, e66, hm⟩ := letv_som hm
       iterate 2 refine W ?_
       iterate 2 refine WG ?_
       obtain ⟨b67, e68, hm⟩ := letv_som hm
       refine WG ?_
       obtain ⟨b69, e70, hm⟩ := letv_som hm
       iterate 2 refine W ?_
       refine WG ?_
       obtain ⟨b71, e72, hm⟩ := letv_som hm
       iterate 2 refine W ?_
       refine WL_nil ?_
       exact At_join b71 ⟨hm, (hs.re 2 [0, 1] rfl)⟩ rfl
theorem expr_Type_ok {Φ w e v1 r} (hs : Sat (imm (RSl RExpr) [sl v1] e.l :: Φ) w) (hm : expr_Type e = some r) :
  CallsR Tryd.prog 73 [(.agg #[(.int .i64 e.op), (.int .i64 e.n), (.int .i64 e.at_), (sl v1)])] w (fun v w' => v = (.tuple #[(.int .i64 r.1), (.int .i64 r.2.1), (.int .i64 r.2.2)]) ∧ Sat (Φ) w') := by
 have key : ∀ (N : Nat) {Φ : Ctx} {w : World} {e : Ex} {v1 : SLV} {r : (Int × Int × Int)}, Sat (imm (RSl RExpr) [sl v1] e.l :: Φ) w → fixN (fun k (s : Ex) => expr_Type_F k s) N e = some r → CallsR Tryd.prog 73 [(.agg #[(.int .i64 e.op), (.int .i64 e.n), (.int .i64 e.at_), (sl v1)])] w (fun v w' => v = (.tuple #[(.int .i64 r.1), (.int .i64 r.2.1), (.int .i64 r.2.2)]) ∧ Sat (Φ) w') := by
  intro N
  induction N with
  | zero => intros; rename_i h; cases h
  | succ N ih => intros; rename_i hs hm; rw [fixN_succ] at hm; exact expr_Type_F_ok (@ih) hs hm
 unfold expr_Type at hm
 exact key FUEL hs hm
theorem expr_Type_s2_ok {Φ w e v1 R r} (hs : Sat (osl RExpr 51 (sl v1) e.l R :: Φ) w) (hm : expr_Type_s2 e = some r) :
  CallsR Tryd.prog 73 [(.agg #[(.int .i64 e.op), (.int .i64 e.n), (.int .i64 e.at_), (sl v1)])] w (fun v w' => v = (.tuple #[(.int .i64 r.1), (.int .i64 r.2.1), (.int .i64 r.2.2)]) ∧ Sat (osl RExpr 51 (sl v1) e.l R :: Φ) w') := by
 refine CallsX_enter Tryd.func73 rfl Tryd.ntmps73 rfl ?_
 unfold expr_Type_s2 at hm
 refine WC_seq <| WC_region ?_
 refine WS_box (zs := [(.int .i64 e.op), (.int .i64 e.n), (.int .i64 e.at_), (sl v1)]) hs (O rfl) rfl rfl ?_
 intro b5 w6 hs
 replace hs := Sat.n2 (Γ := Φ) hs rfl
 iterate 3 refine W ?_
 refine WL_nil <| At_then <| WC_seq <| WC_region ?_
 iterate 3 refine W ?_
 refine WL_nil <| At_then <| WC_seq <| WC_seq <| WC_region ?_
 iterate 4 refine W ?_
 refine WL_nil <| At_then ?_
 refine WC_block ?_
 refine WC_loop (σ := Bool × Bool × Bool × Int) (γ := Unit) (F := (expr_Type_s2_L1 e)) (N := FUEL) (s0 := (true, true, true, 0)) (r := r) (fun ⟨ints8, bools9, times10, t11⟩ (_ : Unit) w7 => Sat (box b5 51 [(.int .i64 e.op), (.int .i64 e.n), (.int .i64 e.at_), (sl v1)] :: osl RExpr 51 (sl v1) e.l R :: Φ) w7) (fun ⟨ints8, bools9, times10, t11⟩ (_ : Unit) => [(1, true, (.pointer (some ⟨b5, 0, none⟩))), (5, true, (.bool ints8)), (6, true, (.bool bools9)), (7, true, (.bool times10)), (14, true, (sl v1)), (15, true, (.int .i64 (List.length e.l : Int))), (16, true, (.int .i64 t11))]) hm () (hs.re 2 [0, 1] rfl) rfl ?_
 rintro again12 ⟨ints8, bools9, times10, t11⟩ _ w7 hm hs
 unfold expr_Type_s2_L1 at hm
 dsimp only at hm
 refine WC_seq <| WC_region ?_
 refine W ?_
 refine WL_nil <| At_then <| WC_seq ?_
 refine WC_cond (O rfl) (fun hc13 => ?_) (fun hc13 => ?_)
 ·
  replace hm := bif_t hc13 hm
  refine WC_skip ?_
  refine At_then <| WC_seq ?_
  refine WC_block ?_
  refine WC_seq <| WC_region ?_
  obtain ⟨e14, he15, hm⟩ := bind_some' hm
  obtain ⟨v16, hC17, hN18, hR19⟩ := cellsMO51 (g := true) (fun hg => (hs.own (i := 1) rfl)) (fun hg => he15)
  replace hs := hs.addL [imm (RSl RExpr) [sl v16] e14.l] rfl ⟨⟨_, rfl, hR19 rfl⟩, trivial⟩
  replace hs := Sat.n3 (Γ := Φ) hs rfl
  refine Wo (Run_idxAddr (p := (elA (sl v1) t11 4)) Tryd.underlying49 ti51 (O rfl) (O rfl) (fun hg => (Own.atA (A := RExpr) (v := (sl v1)) (hs.own (i := 2) rfl) he15).1)) rfl <| Wo (Run_loadA (vs := [(.int .i64 e14.op), (.int .i64 e14.n), (.int .i64 e14.at_), (sl v16)]) Tryd.underlying51 rfl ti51 (O rfl) (fun hg => (hC17 hg).sub 0 rfl) rfl) rfl <| ?_
  refine WS_alloc (zs := [(.int .i64 0), (.int .i64 0), (.int .i64 0), (sl (none, 0, 0))]) hs ti51 rfl rfl ?_
  intro b20 w21 hs
  replace hs := Sat.n4 (Γ := Φ) hs rfl
  refine WS_store (us := [(.int .i64 e14.op), (.int .i64 e14.n), (.int .i64 e14.at_), (sl v16)]) (vs' := [(.int .i64 e14.op), (.int .i64 e14.n), (.int .i64 e14.at_), (sl v16)]) hs 0 rfl ti51 (O rfl) (O rfl) rfl rfl rfl rfl rfl ?_
  intro w22 hs
  replace hs := Sat.n4 (Γ := Φ) hs rfl
  refine WL_nil <| At_then <| WC_seq <| WC_region ?_
  refine Wo (Run_loadA (vs := [(.int .i64 e14.op), (.int .i64 e14.n), (.int .i64 e14.at_), (sl v16)]) Tryd.underlying51 rfl ti51 (O rfl) (fun _ => (hs.box (i := 0) rfl).part 0 rfl) rfl) rfl <| ?_
  obtain ⟨r23, hr24, hm⟩ := bind_some' hm
  refine WL_call (f := 73) (first := []) (cap := []) (xs := [(.tmp 21)]) (vs := [(.agg #[(.int .i64 e14.op), (.int .i64 e14.n), (.int .i64 e14.at_), (sl v16)])]) (args := [(.agg #[(.int .i64 e14.op), (.int .i64 e14.n), (.int .i64 e14.at_), (sl v16)])]) Tryd.call73 Opd.f (.cons (O rfl) .nil) rfl rfl (expr_Type_ok (hs.re 4 [1, 0, 1, 2, 3] rfl) hr24) ?_
  rintro _ w25 ⟨rfl, hs⟩
  replace hs := Sat.n4 (Γ := Φ) hs rfl
  iterate 7 refine W ?_
  refine WL_nil <| At_then <| WC_seq <| WC_seq <| WC_region ?_
  iterate 2 refine W ?_
  refine WL_nil <| At_then ?_
  refine WC_cond (O rfl) (fun hc26 => ?_) (fun hc26 => ?_)
  ·
   replace hm := bif_t hc26 hm
   refine WC_seq <| WC_region ?_
   iterate 5 refine W ?_
   refine WL_nil <| At_then ?_
   refine WC_ret ?_
   refine At_then_ret <| At_blk_ret <| At_then_ret <| At_then_ret <| At_blk_ret <| At_then_ret <| ?_
   refine At_r3 rfl (ResIs.t rfl) (ResIs.t rfl) (ResIs.t rfl) ?_
   cases hm
   exact ⟨rfl, (hs.re 4 [3] rfl)⟩
  ·
   replace hm := bif_f hc26 hm
   refine WC_skip ?_
   refine At_then <| WC_seq <| WC_region ?_
   iterate 2 refine W ?_
   refine WG ?_
   obtain ⟨b27, e28, hm⟩ := letv_som hm
   refine WG ?_
   obtain ⟨b29, e30, hm⟩ := letv_som hm
   iterate 2 refine W ?_
   refine WL_nil <| At_then <| WC_seq <| WC_region ?_
   iterate 2 refine W ?_
   refine WG ?_
   obtain ⟨b31, e32, hm⟩ := letv_som hm
   refine WG ?_
   obtain ⟨b33, e34, hm⟩ := letv_som hm
   iterate 2 refine W ?_
   refine WL_nil <| At_then <| WC_region ?_
   iterate 2 refine W ?_
   refine WG ?_
   obtain ⟨b35, e36, hm⟩ := letv_som hm
   refine WG ?_
   obtain ⟨b37, e38, hm⟩ := letv_som hm
   iterate 2 refine W ?_
   refine WL_nil ?_
   refine At_blk_normal ?_
   refine At_then <| WC_region ?_
   iterate 2 refine W ?_
   refine WL_nil ?_
   exact At_again (b29, b33, b37, (IntKind.i64.wrap (t11 + 1))) () hm (hs.re 4 [2, 3] rfl) rfl
 ·
  replace hm := bif_f hc13 hm
  refine WC_exit ?_
  refine At_then_exit <| At_then_exit <| At_blk_here <| ?_
  refine At_then <| WC_seq ?_
  refine WC_block ?_
  refine WC_seq <| WC_region ?_
  iterate 2 refine W ?_
  obtain ⟨b39, e40, hm⟩ := letv_som hm
  iterate 2 refine W ?_
  refine WG ?_
  obtain ⟨b41, e42, hm⟩ := letv_som hm
  iterate 2 refine W ?_
  refine WL_nil <| At_then ?_
  refine WC_cond (O rfl) (fun hc43 => ?_) (fun hc43 => ?_)
  ·
   replace hm := bif_t hc43 hm
   refine WC_seq <| WC_region ?_
   iterate 3 refine W ?_
   refine WL_nil <| At_then ?_
   refine WC_ret ?_
   refine At_blk_ret <| At_then_ret <| ?_
   refine At_r3 rfl (ResIs.t rfl) (ResIs.t rfl) (ResIs.t rfl) ?_
   cases hm
   exact ⟨rfl, (hs.re 2 [1] rfl)⟩
  ·
   replace hm := bif_f hc43 hm
   refine WC_seq_cut (γ := Bool) (fun t45 w44 => expr_Type_s2_K2 e times10 t45 = some r ∧ Sat (box b5 51 [(.int .i64 e.op), (.int .i64 e.n), (.int .i64 e.at_), (sl v1)] :: osl RExpr 51 (sl v1) e.l R :: Φ) w44) (fun t45 => [(1, true, (.pointer (some ⟨b5, 0, none⟩))), (7, true, (.bool times10)), (53, true, (.bool t45))]) ?_ ?_
   ·
    rintro t45 w44 ⟨hm, hs⟩
    unfold expr_Type_s2_K2 at hm
    refine WC_cond (O rfl) (fun hc46 => ?_) (fun hc46 => ?_)
    ·
     replace hm := bif_t hc46 hm
     refine WC_seq <| WC_region ?_
     iterate 3 refine W ?_
     refine WL_nil <| At_then ?_
     refine WC_ret ?_
     refine At_blk_ret <| At_then_ret <| ?_
     refine At_r3 rfl (ResIs.t rfl) (ResIs.t rfl) (ResIs.t rfl) ?_
     cases hm
     exact ⟨rfl, (hs.re 2 [1] rfl)⟩
    ·
     replace hm := bif_f hc46 hm
     refine WC_seq <| WC_region ?_
     iterate 2 refine W ?_
     obtain ⟨b47, e48, hm⟩ := letv_som hm
     iterate 2 refine W ?_
     refine WG ?_
     obtain ⟨b49, e50, hm⟩ := letv_som hm
     iterate 2 refine W ?_
     refine WL_nil <| At_then ?_
     refine WC_cond (O rfl) (fun hc51 => ?_) (fun hc51 => ?_)
     ·
      replace hm := bif_t hc51 hm
      refine WC_seq <| WC_region ?_
      iterate 3 refine W ?_
      refine WL_nil <| At_then ?_
      refine WC_ret ?_
      refine At_blk_ret <| At_then_ret <| ?_
      refine At_r3 rfl (ResIs.t rfl) (ResIs.t rfl) (ResIs.t rfl) ?_
      cases hm
      exact ⟨rfl, (hs.re 2 [1] rfl)⟩
     ·
      replace hm := bif_f hc51 hm
      refine WC_skip ?_
      refine At_blk_normal ?_
      refine At_then <| WC_seq ?_
      refine WC_region_mixed [0, 1, 0, 4, 15] (.q 0 0 (.q 1 1 (.q 2 3 (.q 3 7 (.q 4 15 .nil))))) (by kernel_rfl) (by kernel_rfl) ?_
      intro w52 hx53
      replace hs := hs.ext hx53
      refine WD_pure (fun _ => (Run_fieldAddr fo51_2 (O rfl))) rfl rfl rfl rfl <| WD_op (fun w => CellsAt w ⟨b5, 2, none⟩ [(.int .i64 e.at_)]) ((hs.box (i := 0) rfl).part 2 rfl) (fun _ hJ => (Run_load1 (v := (.int .i64 e.at_)) Tryd.underlying3 rfl (O rfl) (fun _ => hJ))) rfl rfl rfl rfl <| WD_pure (fun _ => (Run_assign Opd.c)) rfl rfl rfl rfl <| WD_pure (fun _ => (Run_assign Opd.c)) rfl rfl rfl rfl <| WD_pure (fun _ => (Run_assign (O rfl))) rfl rfl rfl rfl <| ?_
      refine WD_nil ?_
      refine At_then ?_
      refine WC_ret ?_
      refine At_r3 rfl (ResIs.t rfl) (ResIs.t rfl) (ResIs.t rfl) ?_
      cases hm
      exact ⟨rfl, (hs.re 2 [1] rfl)⟩
   ·
    refine WC_seq <| WC_region ?_
    iterate 2 refine W ?_
    obtain ⟨b54, e55, hm⟩ := letv_som hm
    iterate 2 refine W ?_
    iterate 2 refine WG ?_
    obtain ⟨b56, e57, hm⟩ := letv_som hm
    refine WG ?_
    obtain ⟨b58, e59, hm⟩ := letv_som hm
    iterate 2 refine W ?_
    refine WG ?_
    obtain ⟨b60, e61, hm⟩ := letv_som hm
    iterate 2 refine W ?_
    refine WL_nil <| At_then ?_
    refine WC_cond (O rfl) (fun hc62 => ?_) (fun hc62 => ?_)
    ·
     replace hm := bif_t hc62 hm
     refine WC_skip ?_
     exact At_join b60 ⟨hm, (hs.re 2 [0, 1] rfl)⟩ rfl
    ·
     replace hm := bif_f hc62 hm
     refine WC_seq <| WC_region ?_
     iterate 4 refine W ?_
     refine WL_nil <| At_then ?_
     refine WC_cond (O rfl) (fun hc63 => ?_) (fun hc63 => ?_)
     ·
      replace hm := bif_t hc63 hm
      refine WC_skip ?_
      exact At_join (e.op == 13) ⟨hm, (hs.re 2 [0, 1] rfl)⟩ rfl
     ·
      replace hm := bif_f hc63 hm
      refine WC_seq <| WC_region ?_
      iterate 4 refine W ?_
      refine WL_nil <| At_then ?_
      refine WC_cond (O rfl) (fun hc64 => ?_) (fun hc64 => ?_)
      ·
       replace hm := bif_t hc64 hm
       refine WC_skip ?_
       exact At_join (e.op == 14) ⟨hm, (hs.re 2 [0, 1] rfl)⟩ rfl
      ·
       replace hm := bif_f hc64 hm
       refine WC_region ?_
       iterate 2 refine W ?_
       obtain ⟨b65, e66, hm⟩ := letv_som hm
       iterate 2 refine W ?_
       iterate 2 refine WG ?_
       obtain ⟨b67, e68, hm⟩ := letv_som hm
       refine WG ?_
       obtain ⟨b69, e70, hm⟩ := letv_som hm
       iterate 2 refine W ?_
       refine WG ?_
       obtain ⟨b71, e72, hm⟩ := letv_som hm
       iterate 2 refine W ?_
       refine WL_nil ?_
       exact At_join b71 ⟨hm, (hs.re 2 [0, 1] rfl)⟩ rfl
end Go.Proofs.YtdhgpnejphlfpaaDoor
namespace Go.Proofs.YtdhgpnejphlfpaaDoor
open Go.Proofs
theorem model_read_expression_ok {Φ w want l at_ Names Schema Init Procs Cmd b v2 R v4 R5 v7 R8 v10 R11 v13 R14 v16 R17 r} (hs : Sat (box b 69 [(sl v2), (.int .i64 at_), (sl v4), (sl v7), (sl v10), (sl v13), (sl v16)] :: osl Q1 28 (sl v2) l R :: osl RS 9 (sl v4) Names R5 :: osl Q5 44 (sl v7) Schema R8 :: osl (RI .i64) 3 (sl v10) Init R11 :: osl RS 9 (sl v13) Procs R14 :: osl Q2 54 (sl v16) Cmd R17 :: gl 0 (keysL.map S) :: gl 1 (textsL.map S) :: Φ) w) (hm : model_read_expression want l at_ Names Schema Init Procs Cmd = some r) :
  CallsE Tryd.prog 67 [(.pointer (some ⟨b, 0, none⟩)), (.int .i64 want)] w r panV Φ (fun (r : (Ex × Int)) v w' => ∃ v3 : SLV, ∃ R4 : List Nat, v = (.agg #[(.int .i64 r.1.op), (.int .i64 r.1.n), (.int .i64 r.1.at_), (sl v3)]) ∧ Sat (osl RExpr 51 (sl v3) r.1.l R4 :: box b 69 [(sl v2), (.int .i64 r.2), (sl v4), (sl v7), (sl v10), (sl v13), (sl v16)] :: osl Q1 28 (sl v2) l R :: osl RS 9 (sl v4) Names R5 :: osl Q5 44 (sl v7) Schema R8 :: osl (RI .i64) 3 (sl v10) Init R11 :: osl RS 9 (sl v13) Procs R14 :: osl Q2 54 (sl v16) Cmd R17 :: Φ) w') := by
 refine CallsX_enter Tryd.func67 rfl Tryd.ntmps67 rfl ?_
 unfold model_read_expression at hm
 refine WC_seq <| WC_region ?_
 refine WS_alloc (zs := [(.int .i64 0), (.int .i64 0), (.int .i64 0), (sl (none, 0, 0))]) hs ti51 rfl rfl ?_
 intro b6 w7 hs
 replace hs := Sat.n10 (Γ := Φ) hs rfl
 refine WL_nil <| At_then <| WC_seq ?_
 refine WC_region_mixed [0, 1, 2, 4, 0, 16, 32, 64, 0, 256, 512, 1024, 2048, 4232, 8192, 16384, 16384, 16384, 16384, 0, 589823, 1703935, 3932159, 8388607] (.q 0 0 (.q 1 1 (.q 2 3 (.q 3 7 (.q 4 15 (.q 5 31 (.q 6 63 (.q 7 127 (.q 8 255 (.q 9 511 (.q 10 1023 (.q 11 2047 (.q 12 4095 (.l2 8191 13 (.q 14 16383 (.q 15 32767 (.q 16 65535 (.q 17 131071 (.q 18 262143 (.l 19 524287 (.l 20 1048575 (.q 21 2097151 (.q 22 4194303 (.q 23 8388607 .nil)))))))))) 19 (.l 13 532479 (.q 14 540671 (.q 15 557055 (.q 16 589823 (.q 17 655359 (.q 18 786431 (.l 20 1048575 (.q 21 2097151 (.q 22 4194303 (.q 23 8388607 .nil)))))))))))))))))))))))) (by kernel_rfl) (by kernel_rfl) ?_
 intro w8 hx9
 replace hs := hs.ext hx9
 refine WD_pure (fun _ => (Run_move (O rfl))) rfl rfl rfl rfl <| WD_pure (fun _ => (Run_nilP (O rfl))) rfl rfl rfl rfl <| WD_pure (fun _ => (Run_fieldAddr fo69_0 (O rfl))) rfl rfl rfl rfl <| WD_op (fun w => CellsAt w ⟨b, 0, none⟩ [(sl v2)]) ((hs.box (i := 1) rfl).part 0 rfl) (fun _ hJ => (Run_load1 (v := (sl v2)) Tryd.underlying23 rfl (O rfl) (fun _ => hJ))) rfl rfl rfl rfl <| WD_pure (fun _ => (Run_move (O rfl))) rfl rfl rfl rfl <| WD_pure (fun _ => (Run_nilP (O rfl))) rfl rfl rfl rfl <| WD_pure (fun _ => (Run_fieldAddr fo69_1 (O rfl))) rfl rfl rfl rfl <| WD_op (fun w => CellsAt w ⟨b, 1, none⟩ [(.int .i64 at_)]) ((hs.box (i := 1) rfl).part 1 rfl) (fun _ hJ => (Run_load1 (v := (.int .i64 at_)) Tryd.underlying3 rfl (O rfl) (fun _ => hJ))) rfl rfl rfl rfl <| ?_
 refine WD_pure (fun _ => (Run_move (O rfl))) rfl rfl rfl rfl <| WD_pure (fun _ => (Run_nilP (O rfl))) rfl rfl rfl rfl <| WD_pure (fun _ => (Run_fieldAddr fo69_2 (O rfl))) rfl rfl rfl rfl <| WD_pure (fun _ => (Run_fieldAddr fo33_0 (O rfl))) rfl rfl rfl rfl <| WD_op (fun w => CellsAt w ⟨b, 2, none⟩ [(sl v4)]) ((hs.box (i := 1) rfl).part 2 rfl) (fun _ hJ => (Run_load1 (v := (sl v4)) Tryd.underlying26 rfl (O rfl) (fun _ => hJ))) rfl rfl rfl rfl <| ?_
 refine WD_loud2 ?_ ?_
 ·
  refine WD_loud (pend' := []) rfl (by kernel_rfl) ?_
  obtain ⟨r10, hr11, hm⟩ := bind_some' hm
  refine WL_call (f := 72) (first := []) (cap := []) (xs := [(.tmp 14), (.tmp 18), (.tmp 23)]) (vs := [(sl v2), (.int .i64 at_), (sl v4)]) (args := [(sl v2), (.int .i64 at_), (sl v4)]) Tryd.call72 Opd.f (.cons (O rfl) (.cons (O rfl) (.cons (O rfl) .nil))) rfl rfl (expr_Parse_s3_ok (hs.re 10 [2, 3, 8, 9, 0, 1, 4, 5, 6, 7, 8, 9] rfl) hr11) ?_
  rintro _ w14 ⟨v12, R13, rfl, hs⟩
  replace hs := Sat.n11 (Γ := Φ) hs rfl
  refine WL_nil ?_
  refine At_QK allJ_nil ?_
  refine WD_pure (fun _ => (Run_move (O rfl))) rfl rfl rfl rfl <| WD_pure (fun _ => (Run_extract (vs := [(.agg #[(.int .i64 r10.1.op), (.int .i64 r10.1.n), (.int .i64 r10.1.at_), (sl v12)]), (.int .i64 r10.2.1), (.int .i64 r10.2.2.1), (.int .i64 r10.2.2.2)]) (O rfl) rfl)) rfl rfl rfl rfl <| WD_pure (fun _ => (Run_extract (vs := [(.agg #[(.int .i64 r10.1.op), (.int .i64 r10.1.n), (.int .i64 r10.1.at_), (sl v12)]), (.int .i64 r10.2.1), (.int .i64 r10.2.2.1), (.int .i64 r10.2.2.2)]) (O rfl) rfl)) rfl rfl rfl rfl <| WD_pure (fun _ => (Run_extract (vs := [(.agg #[(.int .i64 r10.1.op), (.int .i64 r10.1.n), (.int .i64 r10.1.at_), (sl v12)]), (.int .i64 r10.2.1), (.int .i64 r10.2.2.1), (.int .i64 r10.2.2.2)]) (O rfl) rfl)) rfl rfl rfl rfl <| WD_pure (fun _ => (Run_extract (vs := [(.agg #[(.int .i64 r10.1.op), (.int .i64 r10.1.n), (.int .i64 r10.1.at_), (sl v12)]), (.int .i64 r10.2.1), (.int .i64 r10.2.2.1), (.int .i64 r10.2.2.2)]) (O rfl) rfl)) rfl rfl rfl rfl <| ?_
  refine WD_loud (pend' := []) rfl (by kernel_rfl) ?_
  refine WS_alloc (zs := [(.int .i64 0), (.int .i64 0), (.int .i64 0), (sl (none, 0, 0))]) hs ti51 rfl rfl ?_
  intro b15 w16 hs
  replace hs := Sat.n12 (Γ := Φ) hs rfl
  refine WL_nil ?_
  refine At_QK allJ_nil ?_
  refine WD_loud (pend' := []) rfl (by kernel_rfl) ?_
  refine WS_store (us := [(.int .i64 r10.1.op), (.int .i64 r10.1.n), (.int .i64 r10.1.at_), (sl v12)]) (vs' := [(.int .i64 r10.1.op), (.int .i64 r10.1.n), (.int .i64 r10.1.at_), (sl v12)]) hs 0 rfl ti51 (O rfl) (O rfl) rfl rfl rfl rfl rfl ?_
  intro w17 hs
  replace hs := Sat.n12 (Γ := Φ) hs rfl
  refine WL_nil ?_
  refine At_QK allJ_nil ?_
  refine WD_pure (fun _ => (Run_assign (O rfl))) rfl rfl rfl rfl <| WD_pure (fun _ => (Run_assign (O rfl))) rfl rfl rfl rfl <| WD_pure (fun _ => (Run_assign (O rfl))) rfl rfl rfl rfl <| ?_
  refine WD_nil ?_
  refine At_then ?_
  refine WC_seq_cut (γ := Unit) (fun (_ : Unit) w18 => model_read_expression_K1 want at_ r10 = some r ∧ Sat (box b 69 [(sl v2), (.int .i64 at_), (sl v4), (sl v7), (sl v10), (sl v13), (sl v16)] :: osl Q1 28 (sl v2) l R :: osl RS 9 (sl v4) Names R5 :: osl Q5 44 (sl v7) Schema R8 :: osl (RI .i64) 3 (sl v10) Init R11 :: osl RS 9 (sl v13) Procs R14 :: osl Q2 54 (sl v16) Cmd R17 :: box b6 51 [(.int .i64 0), (.int .i64 0), (.int .i64 0), (sl (none, 0, 0))] :: box b15 51 [(.int .i64 r10.1.op), (.int .i64 r10.1.n), (.int .i64 r10.1.at_), (sl v12)] :: osl RExpr 51 (sl v12) r10.1.l R13 :: gl 0 (keysL.map S) :: gl 1 (textsL.map S) :: Φ) w18) (fun (_ : Unit) => [(0, true, (.pointer (some ⟨b, 0, none⟩))), (1, true, (.int .i64 want)), (4, true, (.pointer (some ⟨b6, 0, none⟩))), (5, true, (.pointer (some ⟨b15, 0, none⟩))), (6, true, (.int .i64 r10.2.1))]) ?_ ?_
  ·
   rintro _ w18 ⟨hm, hs⟩
   unfold model_read_expression_K1 at hm
   refine WC_seq <| WC_region ?_
   refine Wo (Run_loadA (vs := [(.int .i64 r10.1.op), (.int .i64 r10.1.n), (.int .i64 r10.1.at_), (sl v12)]) Tryd.underlying51 rfl ti51 (O rfl) (fun _ => (hs.box (i := 8) rfl).part 0 rfl) rfl) rfl <| ?_
   obtain ⟨r19, hr20, hm⟩ := bind_some' hm
   refine WL_call (f := 73) (first := []) (cap := []) (xs := [(.tmp 36)]) (vs := [(.agg #[(.int .i64 r10.1.op), (.int .i64 r10.1.n), (.int .i64 r10.1.at_), (sl v12)])]) (args := [(.agg #[(.int .i64 r10.1.op), (.int .i64 r10.1.n), (.int .i64 r10.1.at_), (sl v12)])]) Tryd.call73 Opd.f (.cons (O rfl) .nil) rfl rfl (expr_Type_s2_ok (hs.re 12 [9, 0, 1, 2, 3, 4, 5, 6, 7, 8, 10, 11] rfl) hr20) ?_
   rintro _ w21 ⟨rfl, hs⟩
   replace hs := Sat.n12 (Γ := Φ) hs rfl
   iterate 7 refine W ?_
   refine WL_nil <| At_then ?_
   refine WC_seq_cut (γ := Unit) (fun (_ : Unit) w22 => model_read_expression_K2 want at_ r10 r19 = some r ∧ Sat (box b 69 [(sl v2), (.int .i64 at_), (sl v4), (sl v7), (sl v10), (sl v13), (sl v16)] :: osl Q1 28 (sl v2) l R :: osl RS 9 (sl v4) Names R5 :: osl Q5 44 (sl v7) Schema R8 :: osl (RI .i64) 3 (sl v10) Init R11 :: osl RS 9 (sl v13) Procs R14 :: osl Q2 54 (sl v16) Cmd R17 :: box b6 51 [(.int .i64 0), (.int .i64 0), (.int .i64 0), (sl (none, 0, 0))] :: box b15 51 [(.int .i64 r10.1.op), (.int .i64 r10.1.n), (.int .i64 r10.1.at_), (sl v12)] :: osl RExpr 51 (sl v12) r10.1.l R13 :: gl 0 (keysL.map S) :: gl 1 (textsL.map S) :: Φ) w22) (fun (_ : Unit) => [(0, true, (.pointer (some ⟨b, 0, none⟩))), (1, true, (.int .i64 want)), (4, true, (.pointer (some ⟨b6, 0, none⟩))), (5, true, (.pointer (some ⟨b15, 0, none⟩))), (6, true, (.int .i64 r10.2.1)), (9, true, (.int .i64 r19.1))]) ?_ ?_
   ·
    rintro _ w22 ⟨hm, hs⟩
    unfold model_read_expression_K2 at hm
    refine WC_seq_cut (γ := Unit) (fun (_ : Unit) w23 => model_read_expression_K3 r10 = some r ∧ Sat (box b 69 [(sl v2), (.int .i64 at_), (sl v4), (sl v7), (sl v10), (sl v13), (sl v16)] :: osl Q1 28 (sl v2) l R :: osl RS 9 (sl v4) Names R5 :: osl Q5 44 (sl v7) Schema R8 :: osl (RI .i64) 3 (sl v10) Init R11 :: osl RS 9 (sl v13) Procs R14 :: osl Q2 54 (sl v16) Cmd R17 :: box b6 51 [(.int .i64 0), (.int .i64 0), (.int .i64 0), (sl (none, 0, 0))] :: box b15 51 [(.int .i64 r10.1.op), (.int .i64 r10.1.n), (.int .i64 r10.1.at_), (sl v12)] :: osl RExpr 51 (sl v12) r10.1.l R13 :: gl 0 (keysL.map S) :: gl 1 (textsL.map S) :: Φ) w23) (fun (_ : Unit) => [(0, true, (.pointer (some ⟨b, 0, none⟩))), (4, true, (.pointer (some ⟨b6, 0, none⟩))), (5, true, (.pointer (some ⟨b15, 0, none⟩))), (6, true, (.int .i64 r10.2.1))]) ?_ ?_
    ·
     rintro _ w23 ⟨hm, hs⟩
     unfold model_read_expression_K3 at hm
     refine WC_seq <| WC_region ?_
     iterate 4 refine W ?_
     refine WS_store (us := [(.int .i64 r10.2.1)]) (vs' := [(sl v2), (.int .i64 r10.2.1), (sl v4), (sl v7), (sl v10), (sl v13), (sl v16)]) hs 0 rfl ti3 (O rfl) (O rfl) rfl rfl rfl rfl rfl ?_
     intro w24 hs
     replace hs := Sat.n12 (Γ := Φ) hs rfl
     refine WL_nil <| At_then <| WC_seq <| WC_region ?_
     refine Wo (Run_loadA (vs := [(.int .i64 r10.1.op), (.int .i64 r10.1.n), (.int .i64 r10.1.at_), (sl v12)]) Tryd.underlying51 rfl ti51 (O rfl) (fun _ => (hs.box (i := 8) rfl).part 0 rfl) rfl) rfl <| ?_
     refine WS_store (us := [(.int .i64 r10.1.op), (.int .i64 r10.1.n), (.int .i64 r10.1.at_), (sl v12)]) (vs' := [(.int .i64 r10.1.op), (.int .i64 r10.1.n), (.int .i64 r10.1.at_), (sl v12)]) hs 7 rfl ti51 (O rfl) (O rfl) rfl rfl rfl rfl rfl ?_
     intro w25 hs
     replace hs := Sat.n12 (Γ := Φ) hs rfl
     refine WL_nil <| At_then ?_
     refine WC_ret ?_
     refine At_r1 rfl (ResIs.cA (vs := [(.int .i64 r10.1.op), (.int .i64 r10.1.n), (.int .i64 r10.1.at_), (sl v12)]) rfl Tryd.underlying51 rfl ti51 ((hs.box (i := 7) rfl).part 0 rfl) rfl) ?_
     cases hm
     exact ⟨_, rfl, v12, R13, rfl, (hs.re 12 [9, 0, 1, 2, 3, 4, 5, 6] rfl)⟩
    ·
     refine WC_seq <| WC_region ?_
     iterate 3 refine W ?_
     refine WL_nil <| At_then ?_
     refine WC_cond (O rfl) (fun hc26 => ?_) (fun hc26 => ?_)
     ·
      replace hm := bif_t hc26 hm
      refine WC_region ?_
      iterate 2 refine W ?_
      refine Wo (Run_build (parts := [(0, (.const (.int .i64 4))), (1, (.tmp 51))]) (v := (.agg #[(.int .i64 4), (.int .i64 r10.1.at_)])) (.cons Opd.c (.cons (O rfl) .nil)) (fun _ => by kernel_rfl)) rfl <| ?_
      refine W ?_
      cases hm
      refine WL_panic (O rfl) ?_
      refine At_then_panic <| ?_
      exact At_p ⟨_, rfl, rfl, hs.re 12 [] rfl⟩
     ·
      replace hm := bif_f hc26 hm
      refine WC_skip ?_
      exact At_join () ⟨hm, (hs.re 12 [0, 1, 2, 3, 4, 5, 6, 7, 8, 9, 10, 11] rfl)⟩ rfl
   ·
    refine WC_seq <| WC_region ?_
    iterate 2 refine W ?_
    refine WL_nil <| At_then ?_
    refine WC_cond (O rfl) (fun hc27 => ?_) (fun hc27 => ?_)
    ·
     replace hm := bif_t hc27 hm
     refine WC_region ?_
     iterate 2 refine W ?_
     refine Wo (Run_build (parts := [(0, (.tmp 43)), (1, (.tmp 44))]) (v := (.agg #[(.int .i64 r19.2.1), (.int .i64 r19.2.2)])) (.cons (O rfl) (.cons (O rfl) .nil)) (fun _ => by kernel_rfl)) rfl <| ?_
     refine W ?_
     cases hm
     refine WL_panic (O rfl) ?_
     refine At_then_panic <| ?_
     exact At_p ⟨_, rfl, rfl, hs.re 12 [] rfl⟩
    ·
     replace hm := bif_f hc27 hm
     refine WC_skip ?_
     exact At_join () ⟨hm, (hs.re 12 [1, 2, 3, 4, 5, 6, 7, 8, 9, 0, 10, 11] rfl)⟩ rfl
  ·
   refine WC_seq <| WC_region ?_
   iterate 2 refine W ?_
   refine WL_nil <| At_then ?_
   refine WC_cond (O rfl) (fun hc28 => ?_) (fun hc28 => ?_)
   ·
    replace hm := bif_t hc28 hm
    refine WC_region ?_
    iterate 2 refine W ?_
    refine Wo (Run_build (parts := [(0, (.tmp 31)), (1, (.tmp 32))]) (v := (.agg #[(.int .i64 r10.2.2.1), (.int .i64 r10.2.2.2)])) (.cons (O rfl) (.cons (O rfl) .nil)) (fun _ => by kernel_rfl)) rfl <| ?_
    refine W ?_
    cases hm
    refine WL_panic (O rfl) ?_
    refine At_then_panic <| ?_
    exact At_p ⟨_, rfl, rfl, hs.re 12 [] rfl⟩
   ·
    replace hm := bif_f hc28 hm
    refine WC_skip ?_
    exact At_join () ⟨hm, (hs.re 12 [5, 2, 3, 6, 7, 8, 9, 4, 0, 1, 10, 11] rfl)⟩ rfl
 ·
  refine WD_loud (pend' := [(12, fun w => CellsAt w ⟨b, 2, none⟩ [(sl v4)]), (7, fun w => CellsAt w ⟨b, 1, none⟩ [(.int .i64 at_)]), (3, fun w => CellsAt w ⟨b, 0, none⟩ [(sl v2)])]) rfl (by kernel_rfl) ?_
  refine WS_alloc (zs := [(.int .i64 0), (.int .i64 0), (.int .i64 0), (sl (none, 0, 0))]) hs ti51 rfl rfl ?_
  intro b29 w30 hs
  replace hs := Sat.n11 (Γ := Φ) hs rfl
  refine WL_nil ?_
  refine At_QK (allJ_cons ((hs.box (i := 2) rfl).part 2 rfl) (allJ_cons ((hs.box (i := 2) rfl).part 1 rfl) (allJ_cons ((hs.box (i := 2) rfl).part 0 rfl) allJ_nil))) ?_
  refine WD_loud (pend' := []) rfl (by kernel_rfl) ?_
  obtain ⟨r31, hr32, hm⟩ := bind_some' hm
  refine WL_call (f := 72) (first := []) (cap := []) (xs := [(.tmp 14), (.tmp 18), (.tmp 23)]) (vs := [(sl v2), (.int .i64 at_), (sl v4)]) (args := [(sl v2), (.int .i64 at_), (sl v4)]) Tryd.call72 Opd.f (.cons (O rfl) (.cons (O rfl) (.cons (O rfl) .nil))) rfl rfl (expr_Parse_s3_ok (hs.re 11 [3, 4, 9, 10, 0, 1, 2, 5, 6, 7, 8, 9, 10] rfl) hr32) ?_
  rintro _ w35 ⟨v33, R34, rfl, hs⟩
  replace hs := Sat.n12 (Γ := Φ) hs rfl
  refine WL_nil ?_
  refine At_QK allJ_nil ?_
  refine WD_pure (fun _ => (Run_move (O rfl))) rfl rfl rfl rfl <| WD_pure (fun _ => (Run_extract (vs := [(.agg #[(.int .i64 r31.1.op), (.int .i64 r31.1.n), (.int .i64 r31.1.at_), (sl v33)]), (.int .i64 r31.2.1), (.int .i64 r31.2.2.1), (.int .i64 r31.2.2.2)]) (O rfl) rfl)) rfl rfl rfl rfl <| WD_pure (fun _ => (Run_extract (vs := [(.agg #[(.int .i64 r31.1.op), (.int .i64 r31.1.n), (.int .i64 r31.1.at_), (sl v33)]), (.int .i64 r31.2.1), (.int .i64 r31.2.2.1), (.int .i64 r31.2.2.2)]) (O rfl) rfl)) rfl rfl rfl rfl <| WD_pure (fun _ => (Run_extract (vs := [(.agg #[(.int .i64 r31.1.op), (.int .i64 r31.1.n), (.int .i64 r31.1.at_), (sl v33)]), (.int .i64 r31.2.1), (.int .i64 r31.2.2.1), (.int .i64 r31.2.2.2)]) (O rfl) rfl)) rfl rfl rfl rfl <| WD_pure (fun _ => (Run_extract (vs := [(.agg #[(.int .i64 r31.1.op), (.int .i64 r31.1.n), (.int .i64 r31.1.at_), (sl v33)]), (.int .i64 r31.2.1), (.int .i64 r31.2.2.1), (.int .i64 r31.2.2.2)]) (O rfl) rfl)) rfl rfl rfl rfl <| ?_
  refine WD_loud (pend' := []) rfl (by kernel_rfl) ?_
  refine WS_store (us := [(.int .i64 r31.1.op), (.int .i64 r31.1.n), (.int .i64 r31.1.at_), (sl v33)]) (vs' := [(.int .i64 r31.1.op), (.int .i64 r31.1.n), (.int .i64 r31.1.at_), (sl v33)]) hs 3 rfl ti51 (O rfl) (O rfl) rfl rfl rfl rfl rfl ?_
  intro w36 hs
  replace hs := Sat.n12 (Γ := Φ) hs rfl
  refine WL_nil ?_
  refine At_QK allJ_nil ?_
  refine WD_pure (fun _ => (Run_assign (O rfl))) rfl rfl rfl rfl <| WD_pure (fun _ => (Run_assign (O rfl))) rfl rfl rfl rfl <| WD_pure (fun _ => (Run_assign (O rfl))) rfl rfl rfl rfl <| ?_
  refine WD_nil ?_
  refine At_then ?_
  refine WC_seq_cut (γ := Unit) (fun (_ : Unit) w37 => model_read_expression_K1 want at_ r31 = some r ∧ Sat (box b 69 [(sl v2), (.int .i64 at_), (sl v4), (sl v7), (sl v10), (sl v13), (sl v16)] :: osl Q1 28 (sl v2) l R :: osl RS 9 (sl v4) Names R5 :: osl Q5 44 (sl v7) Schema R8 :: osl (RI .i64) 3 (sl v10) Init R11 :: osl RS 9 (sl v13) Procs R14 :: osl Q2 54 (sl v16) Cmd R17 :: box b6 51 [(.int .i64 0), (.int .i64 0), (.int .i64 0), (sl (none, 0, 0))] :: box b29 51 [(.int .i64 r31.1.op), (.int .i64 r31.1.n), (.int .i64 r31.1.at_), (sl v33)] :: osl RExpr 51 (sl v33) r31.1.l R34 :: gl 0 (keysL.map S) :: gl 1 (textsL.map S) :: Φ) w37) (fun (_ : Unit) => [(0, true, (.pointer (some ⟨b, 0, none⟩))), (1, true, (.int .i64 want)), (4, true, (.pointer (some ⟨b6, 0, none⟩))), (5, true, (.pointer (some ⟨b29, 0, none⟩))), (6, true, (.int .i64 r31.2.1))]) ?_ ?_
  ·
   rintro _ w37 ⟨hm, hs⟩
   unfold model_read_expression_K1 at hm
   refine WC_seq <| WC_region ?_
   refine Wo (Run_loadA (vs := [(.int .i64 r31.1.op), (.int .i64 r31.1.n), (.int .i64 r31.1.at_), (sl v33)]) Tryd.underlying51 rfl ti51 (O rfl) (fun _ => (hs.box (i := 8) rfl).part 0 rfl) rfl) rfl <| ?_
   obtain ⟨r38, hr39, hm⟩ := bind_some' hm
   refine WL_call (f := 73) (first := []) (cap := []) (xs := [(.tmp 36)]) (vs := [(.agg #[(.int .i64 r31.1.op), (.int .i64 r31.1.n), (.int .i64 r31.1.at_), (sl v33)])]) (args := [(.agg #[(.int .i64 r31.1.op), (.int .i64 r31.1.n), (.int .i64 r31.1.at_), (sl v33)])]) Tryd.call73 Opd.f (.cons (O rfl) .nil) rfl rfl (expr_Type_s2_ok (hs.re 12 [9, 0, 1, 2, 3, 4, 5, 6, 7, 8, 10, 11] rfl) hr39) ?_
   rintro _ w40 ⟨rfl, hs⟩
   replace hs := Sat.n12 (Γ := Φ) hs rfl
   iterate 7 refine W ?_
   refine WL_nil <| At_then ?_
   refine WC_seq_cut (γ := Unit) (fun (_ : Unit) w41 => model_read_expression_K2 want at_ r31 r38 = some r ∧ Sat (box b 69 [(sl v2), (.int .i64 at_), (sl v4), (sl v7), (sl v10), (sl v13), (sl v16)] :: osl Q1 28 (sl v2) l R :: osl RS 9 (sl v4) Names R5 :: osl Q5 44 (sl v7) Schema R8 :: osl (RI .i64) 3 (sl v10) Init R11 :: osl RS 9 (sl v13) Procs R14 :: osl Q2 54 (sl v16) Cmd R17 :: box b6 51 [(.int .i64 0), (.int .i64 0), (.int .i64 0), (sl (none, 0, 0))] :: box b29 51 [(.int .i64 r31.1.op), (.int .i64 r31.1.n), (.int .i64 r31.1.at_), (sl v33)] :: osl RExpr 51 (sl v33) r31.1.l R34 :: gl 0 (keysL.map S) :: gl 1 (textsL.map S) :: Φ) w41) (fun (_ : Unit) => [(0, true, (.pointer (some ⟨b, 0, none⟩))), (1, true, (.int .i64 want)), (4, true, (.pointer (some ⟨b6, 0, none⟩))), (5, true, (.pointer (some ⟨b29, 0, none⟩))), (6, true, (.int .i64 r31.2.1)), (9, true, (.int .i64 r38.1))]) ?_ ?_
   ·
    rintro _ w41 ⟨hm, hs⟩
    unfold model_read_expression_K2 at hm
    refine WC_seq_cut (γ := Unit) (fun (_ : Unit) w42 => model_read_expression_K3 r31 = some r ∧ Sat (box b 69 [(sl v2), (.int .i64 at_), (sl v4), (sl v7), (sl v10), (sl v13), (sl v16)] :: osl Q1 28 (sl v2) l R :: osl RS 9 (sl v4) Names R5 :: osl Q5 44 (sl v7) Schema R8 :: osl (RI .i64) 3 (sl v10) Init R11 :: osl RS 9 (sl v13) Procs R14 :: osl Q2 54 (sl v16) Cmd R17 :: box b6 51 [(.int .i64 0), (.int .i64 0), (.int .i64 0), (sl (none, 0, 0))] :: box b29 51 [(.int .i64 r31.1.op), (.int .i64 r31.1.n), (.int .i64 r31.1.at_), (sl v33)] :: osl RExpr 51 (sl v33) r31.1.l R34 :: gl 0 (keysL.map S) :: gl 1 (textsL.map S) :: Φ) w42) (fun (_ : Unit) => [(0, true, (.pointer (some ⟨b, 0, none⟩))), (4, true, (.pointer (some ⟨b6, 0, none⟩))), (5, true, (.pointer (some ⟨b29, 0, none⟩))), (6, true, (.int .i64 r31.2.1))]) ?_ ?_
    ·
     rintro _ w42 ⟨hm, hs⟩
     unfold model_read_expression_K3 at hm
     refine WC_seq <| WC_region ?_
     iterate 4 refine W ?_
     refine WS_store (us := [(.int .i64 r31.2.1)]) (vs' := [(sl v2), (.int .i64 r31.2.1), (sl v4), (sl v7), (sl v10), (sl v13), (sl v16)]) hs 0 rfl ti3 (O rfl) (O rfl) rfl rfl rfl rfl rfl ?_
     intro w43 hs
     replace hs := Sat.n12 (Γ := Φ) hs rfl
     refine WL_nil <| At_then <| WC_seq <| WC_region ?_
     refine Wo (Run_loadA (vs := [(.int .i64 r31.1.op), (.int .i64 r31.1.n), (.int .i64 r31.1.at_), (sl v33)]) Tryd.underlying51 rfl ti51 (O rfl) (fun _ => (hs.box (i := 8) rfl).part 0 rfl) rfl) rfl <| ?_
     refine WS_store (us := [(.int .i64 r31.1.op), (.int .i64 r31.1.n), (.int .i64 r31.1.at_), (sl v33)]) (vs' := [(.int .i64 r31.1.op), (.int .i64 r31.1.n), (.int .i64 r31.1.at_), (sl v33)]) hs 7 rfl ti51 (O rfl) (O rfl) rfl rfl rfl rfl rfl ?_
     intro w44 hs
     replace hs := Sat.n12 (Γ := Φ) hs rfl
     refine WL_nil <| At_then ?_
     refine WC_ret ?_
     refine At_r1 rfl (ResIs.cA (vs := [(.int .i64 r31.1.op), (.int .i64 r31.1.n), (.int .i64 r31.1.at_), (sl v33)]) rfl Tryd.underlying51 rfl ti51 ((hs.box (i := 7) rfl).part 0 rfl) rfl) ?_
     cases hm
     exact ⟨_, rfl, v33, R34, rfl, (hs.re 12 [9, 0, 1, 2, 3, 4, 5, 6] rfl)⟩
    ·
     refine WC_seq <| WC_region ?_
     iterate 3 refine W ?_
     refine WL_nil <| At_then ?_
     refine WC_cond (O rfl) (fun hc45 => ?_) (fun hc45 => ?_)
     ·
      replace hm := bif_t hc45 hm
      refine WC_region ?_
      iterate 2 refine W ?_
      refine Wo (Run_build (parts := [(0, (.const (.int .i64 4))), (1, (.tmp 51))]) (v := (.agg #[(.int .i64 4), (.int .i64 r31.1.at_)])) (.cons Opd.c (.cons (O rfl) .nil)) (fun _ => by kernel_rfl)) rfl <| ?_
      refine W ?_
      cases hm
      refine WL_panic (O rfl) ?_
      refine At_then_panic <| ?_
      exact At_p ⟨_, rfl, rfl, hs.re 12 [] rfl⟩
     ·
      replace hm := bif_f hc45 hm
      refine WC_skip ?_
      exact At_join () ⟨hm, (hs.re 12 [0, 1, 2, 3, 4, 5, 6, 7, 8, 9, 10, 11] rfl)⟩ rfl
   ·
    refine WC_seq <| WC_region ?_
    iterate 2 refine W ?_
    refine WL_nil <| At_then ?_
    refine WC_cond (O rfl) (fun hc46 => ?_) (fun hc46 => ?_)
    ·
     replace hm := bif_t hc46 hm
     refine WC_region ?_
     iterate 2 refine W ?_
     refine Wo (Run_build (parts := [(0, (.tmp 43)), (1, (.tmp 44))]) (v := (.agg #[(.int .i64 r38.2.1), (.int .i64 r38.2.2)])) (.cons (O rfl) (.cons (O rfl) .nil)) (fun _ => by kernel_rfl)) rfl <| ?_
     refine W ?_
     cases hm
     refine WL_panic (O rfl) ?_
     refine At_then_panic <| ?_
     exact At_p ⟨_, rfl, rfl, hs.re 12 [] rfl⟩
    ·
     replace hm := bif_f hc46 hm
     refine WC_skip ?_
     exact At_join () ⟨hm, (hs.re 12 [1, 2, 3, 4, 5, 6, 7, 8, 9, 0, 10, 11] rfl)⟩ rfl
  ·
   refine WC_seq <| WC_region ?_
   iterate 2 refine W ?_
   refine WL_nil <| At_then ?_
   refine WC_cond (O rfl) (fun hc47 => ?_) (fun hc47 => ?_)
   ·
    replace hm := bif_t hc47 hm
    refine WC_region ?_
    iterate 2 refine W ?_
    refine Wo (Run_build (parts := [(0, (.tmp 31)), (1, (.tmp 32))]) (v := (.agg #[(.int .i64 r31.2.2.1), (.int .i64 r31.2.2.2)])) (.cons (O rfl) (.cons (O rfl) .nil)) (fun _ => by kernel_rfl)) rfl <| ?_
    refine W ?_
    cases hm
    refine WL_panic (O rfl) ?_
    refine At_then_panic <| ?_
    exact At_p ⟨_, rfl, rfl, hs.re 12 [] rfl⟩
   ·
    replace hm := bif_f hc47 hm
    refine WC_skip ?_
    exact At_join () ⟨hm, (hs.re 12 [5, 1, 2, 6, 7, 8, 9, 4, 3, 0, 10, 11] rfl)⟩ rfl
theorem model_read_assignment_c1_ok {Φ w s x v1 b r} (hs : Sat (imm (RSl RExpr) [sl v1] s.2.l :: box b 3 [(.int .i64 x)] :: Φ) w) (hm : model_read_assignment_c1 s x = some r) :
  CallsR Tryd.prog 76 [(.agg #[(.int .i64 s.1), (.int .i64 s.2.op), (.int .i64 s.2.n), (.int .i64 s.2.at_), (sl v1)]), (.pointer (some ⟨b, 0, none⟩))] w (fun v w' => v = (.bool r) ∧ Sat (box b 3 [(.int .i64 x)] :: Φ) w') := by
 refine CallsX_enter Tryd.func76 rfl Tryd.ntmps76 rfl ?_
 unfold model_read_assignment_c1 at hm
 refine WC_seq <| WC_region ?_
 refine WS_box (zs := [(.int .i64 s.1), (.int .i64 s.2.op), (.int .i64 s.2.n), (.int .i64 s.2.at_), (sl v1)]) hs (O rfl) rfl rfl ?_
 intro b3 w4 hs
 replace hs := Sat.n3 (Γ := Φ) hs rfl
 refine W ?_
 refine WL_nil <| At_then <| WC_seq <| WC_region ?_
 iterate 5 refine W ?_
 refine WL_nil <| At_then ?_
 refine WC_ret ?_
 refine At_r1 rfl (ResIs.t rfl) ?_
 cases hm
 exact ⟨rfl, (hs.re 3 [2] rfl)⟩
theorem slices_IndexFunc_api_Set_api_Set_s2_ok {Φ w s c v1 R b r} (hs : Sat (osl Q6 57 (sl v1) s R :: box b 3 [(.int .i64 c)] :: Φ) w) (hm : slices_IndexFunc_api_Set_api_Set_s2 s c = some r) :
  CallsR Tryd.prog 79 [(sl v1), (.func (.func 76) #[] #[(.pointer (some ⟨b, 0, none⟩))])] w (fun v w' => v = (.int .i64 r) ∧ Sat (osl Q6 57 (sl v1) s R :: box b 3 [(.int .i64 c)] :: Φ) w') := by
 refine CallsX_enter Tryd.func79 rfl Tryd.ntmps79 rfl ?_
 unfold slices_IndexFunc_api_Set_api_Set_s2 at hm
 refine WC_seq <| WC_region ?_
 refine W ?_
 refine WL_nil <| At_then <| WC_seq <| WC_seq <| WC_region ?_
 iterate 3 refine W ?_
 refine WL_nil <| At_then ?_
 refine WC_block ?_
 refine WC_loop (σ := Int) (γ := Unit) (F := (slices_IndexFunc_api_Set_api_Set_s2_L1 s c)) (N := FUEL) (s0 := 0) (r := r) (fun t4 (_ : Unit) w3 => Sat (osl Q6 57 (sl v1) s R :: box b 3 [(.int .i64 c)] :: Φ) w3) (fun t4 (_ : Unit) => [(0, true, (sl v1)), (1, true, (.func (.func 76) #[] #[(.pointer (some ⟨b, 0, none⟩))])), (7, true, (.int .i64 (List.length s : Int))), (8, true, (.int .i64 t4))]) hm () (hs.re 2 [0, 1] rfl) rfl ?_
 rintro again5 t4 _ w3 hm hs
 unfold slices_IndexFunc_api_Set_api_Set_s2_L1 at hm
 refine WC_seq <| WC_region ?_
 refine W ?_
 refine WL_nil <| At_then <| WC_seq ?_
 refine WC_cond (O rfl) (fun hc6 => ?_) (fun hc6 => ?_)
 ·
  replace hm := bif_t hc6 hm
  refine WC_skip ?_
  refine At_then <| WC_seq ?_
  refine WC_block ?_
  refine WC_seq <| WC_region ?_
  iterate 2 refine W ?_
  refine WL_nil <| At_then <| WC_seq <| WC_region ?_
  iterate 3 refine W ?_
  obtain ⟨e7, he8, hm⟩ := bind_some' hm
  obtain ⟨v9, hC10, hN11, hR12⟩ := cellsMO57 (g := true) (fun hg => (hs.own (i := 0) rfl)) (fun hg => he8)
  replace hs := hs.addL [imm (RSl RExpr) [sl v9] e7.2.l] rfl ⟨⟨_, rfl, hR12 rfl⟩, trivial⟩
  replace hs := Sat.n3 (Γ := Φ) hs rfl
  refine Wo (Run_idxAddr (p := (elA (sl v1) t4 5)) Tryd.underlying52 ti57 (O rfl) (O rfl) (fun hg => (Own.atA (A := Q6) (v := (sl v1)) (hs.own (i := 1) rfl) he8).1)) rfl <| Wo (Run_loadA (vs := [(.int .i64 e7.1), (.int .i64 e7.2.op), (.int .i64 e7.2.n), (.int .i64 e7.2.at_), (sl v9)]) Tryd.underlying57 rfl ti57 (O rfl) (fun hg => (hC10 hg).sub 0 rfl) rfl) rfl <| ?_
  obtain ⟨r13, hr14, hm⟩ := bind_some' hm
  refine WL_call (f := 76) (first := []) (cap := [(.pointer (some ⟨b, 0, none⟩))]) (xs := [(.tmp 15)]) (vs := [(.agg #[(.int .i64 e7.1), (.int .i64 e7.2.op), (.int .i64 e7.2.n), (.int .i64 e7.2.at_), (sl v9)])]) (args := [(.agg #[(.int .i64 e7.1), (.int .i64 e7.2.op), (.int .i64 e7.2.n), (.int .i64 e7.2.at_), (sl v9)]), (.pointer (some ⟨b, 0, none⟩))]) Tryd.call76 (O rfl) (.cons (O rfl) .nil) rfl rfl (model_read_assignment_c1_ok (hs.re 3 [0, 2, 0, 1] rfl) hr14) ?_
  rintro _ w15 ⟨rfl, hs⟩
  replace hs := Sat.n3 (Γ := Φ) hs rfl
  refine WL_nil <| At_then ?_
  refine WC_cond (O rfl) (fun hc16 => ?_) (fun hc16 => ?_)
  ·
   replace hm := bif_t hc16 hm
   refine WC_seq <| WC_region ?_
   iterate 2 refine W ?_
   refine WL_nil <| At_then ?_
   refine WC_ret ?_
   refine At_blk_ret <| At_then_ret <| At_then_ret <| At_blk_ret <| At_then_ret <| ?_
   refine At_r1 rfl (ResIs.t rfl) ?_
   cases hm
   exact ⟨rfl, (hs.re 3 [2, 0] rfl)⟩
  ·
   replace hm := bif_f hc16 hm
   refine WC_skip ?_
   refine At_blk_normal ?_
   refine At_then <| WC_region ?_
   iterate 2 refine W ?_
   refine WL_nil ?_
   exact At_again (IntKind.i64.wrap (t4 + 1)) () hm (hs.re 3 [2, 0] rfl) rfl
 ·
  replace hm := bif_f hc6 hm
  refine WC_exit ?_
  refine At_then_exit <| At_then_exit <| At_blk_here <| ?_
  refine At_then <| WC_seq <| WC_region ?_
  refine W ?_
  refine WL_nil <| At_then ?_
  refine WC_ret ?_
  refine At_r1 rfl (ResIs.t rfl) ?_
  cases hm
  exact ⟨rfl, (hs.re 2 [0, 1] rfl)⟩
theorem slices_ContainsFunc_api_Set_api_Set_s2_ok {Φ w s c v1 R b r} (hs : Sat (osl Q6 57 (sl v1) s R :: box b 3 [(.int .i64 c)] :: Φ) w) (hm : slices_ContainsFunc_api_Set_api_Set_s2 s c = some r) :
  CallsR Tryd.prog 75 [(sl v1), (.func (.func 76) #[] #[(.pointer (some ⟨b, 0, none⟩))])] w (fun v w' => v = (.bool r) ∧ Sat (osl Q6 57 (sl v1) s R :: box b 3 [(.int .i64 c)] :: Φ) w') := by
 refine CallsX_enter Tryd.func75 rfl Tryd.ntmps75 rfl ?_
 unfold slices_ContainsFunc_api_Set_api_Set_s2 at hm
 refine WC_seq <| WC_region ?_
 refine W ?_
 refine WL_nil <| At_then <| WC_seq <| WC_region ?_
 iterate 2 refine W ?_
 obtain ⟨r3, hr4, hm⟩ := bind_some' hm
 refine WL_call (f := 79) (first := []) (cap := []) (xs := [(.tmp 5), (.tmp 6)]) (vs := [(sl v1), (.func (.func 76) #[] #[(.pointer (some ⟨b, 0, none⟩))])]) (args := [(sl v1), (.func (.func 76) #[] #[(.pointer (some ⟨b, 0, none⟩))])]) Tryd.call79 Opd.f (.cons (O rfl) (.cons (O rfl) .nil)) rfl rfl (slices_IndexFunc_api_Set_api_Set_s2_ok (hs.re 2 [0, 1] rfl) hr4) ?_
 rintro _ w5 ⟨rfl, hs⟩
 replace hs := Sat.n2 (Γ := Φ) hs rfl
 iterate 2 refine W ?_
 refine WL_nil <| At_then ?_
 refine WC_ret ?_
 refine At_r1 rfl (ResIs.t rfl) ?_
 cases hm
 exact ⟨rfl, (hs.re 2 [0, 1] rfl)⟩
end Go.Proofs.YtdhgpnejphlfpaaDoor
namespace Go.Proofs.YtdhgpnejphlfpaaDoor
open Go.Proofs
theorem model_read_assignment_s2_ok {Φ w ahead l at_ Names Schema Init Procs Cmd b v2 R v4 R5 v7 R8 v10 R11 v13 R14 v16 R17 v19 R20 r} (hs : Sat (box b 69 [(sl v4), (.int .i64 at_), (sl v7), (sl v10), (sl v13), (sl v16), (sl v19)] :: osl Q6 57 (sl v2) ahead R :: osl Q1 28 (sl v4) l R5 :: osl RS 9 (sl v7) Names R8 :: osl Q5 44 (sl v10) Schema R11 :: osl (RI .i64) 3 (sl v13) Init R14 :: osl RS 9 (sl v16) Procs R17 :: osl Q2 54 (sl v19) Cmd R20 :: gl 0 (keysL.map S) :: gl 1 (textsL.map S) :: Φ) w) (hm : model_read_assignment_s2 ahead l at_ Names Schema Init Procs Cmd = some r) :
  CallsE Tryd.prog 68 [(.pointer (some ⟨b, 0, none⟩)), (sl v2)] w r panV Φ (fun (r : ((Int × Ex) × Int)) v w' => ∃ v3 : SLV, ∃ R4 : List Nat, v = (.agg #[(.int .i64 r.1.1), (.int .i64 r.1.2.op), (.int .i64 r.1.2.n), (.int .i64 r.1.2.at_), (sl v3)]) ∧ Sat (osl RExpr 51 (sl v3) r.1.2.l R4 :: box b 69 [(sl v4), (.int .i64 r.2), (sl v7), (sl v10), (sl v13), (sl v16), (sl v19)] :: osl Q1 28 (sl v4) l R5 :: osl RS 9 (sl v7) Names R8 :: osl Q5 44 (sl v10) Schema R11 :: osl (RI .i64) 3 (sl v13) Init R14 :: osl RS 9 (sl v16) Procs R17 :: osl Q2 54 (sl v19) Cmd R20 :: osl Q6 57 (sl v2) ahead R :: Φ) w') := by
 refine CallsX_enter Tryd.func68 rfl Tryd.ntmps68 rfl ?_
 unfold model_read_assignment_s2 at hm
 refine WC_seq <| WC_region ?_
 refine WS_alloc (zs := [(.int .i64 0), (.int .i64 0), (.int .i64 0), (.int .i64 0), (sl (none, 0, 0))]) hs ti57 rfl rfl ?_
 intro b6 w7 hs
 replace hs := Sat.n11 (Γ := Φ) hs rfl
 refine WL_nil <| At_then <| WC_seq <| WC_region ?_
 refine W ?_
 obtain ⟨r8, hr9, hm⟩ := bind_some' hm
 refine WL_call (f := 43) (first := []) (cap := []) (xs := [(.tmp 7)]) (vs := [(.pointer (some ⟨b, 0, none⟩))]) (args := [(.pointer (some ⟨b, 0, none⟩))]) Tryd.call43 Opd.f (.cons (O rfl) .nil) rfl rfl (model_read_next_ok (hs.re 11 [1, 3, 4, 5, 6, 7, 8, 0, 2, 9, 10] rfl) hr9) ?_
 rintro _ w10 ⟨rfl, hs⟩
 replace hs := Sat.n11 (Γ := Φ) hs rfl
 refine WS_alloc (zs := [(.int .i64 0), (S []), (.int .i64 0), (.int .i64 0)]) hs ti28 rfl rfl ?_
 intro b11 w12 hs
 replace hs := Sat.n12 (Γ := Φ) hs rfl
 refine WS_store (us := [(.int .i64 r8.1), (S r8.2.1), (.int .i64 r8.2.2.1), (.int .i64 r8.2.2.2)]) (vs' := [(.int .i64 r8.1), (S r8.2.1), (.int .i64 r8.2.2.1), (.int .i64 r8.2.2.2)]) hs 0 rfl ti28 (O rfl) (O rfl) rfl rfl rfl rfl rfl ?_
 intro w13 hs
 replace hs := Sat.n12 (Γ := Φ) hs rfl
 refine WL_nil <| At_then ?_
 refine WC_seq_cut (γ := Unit) (fun (_ : Unit) w14 => model_read_assignment_s2_K1 ahead l at_ Names Schema Init Procs Cmd r8 = some r ∧ Sat (box b 69 [(sl v4), (.int .i64 at_), (sl v7), (sl v10), (sl v13), (sl v16), (sl v19)] :: osl Q1 28 (sl v4) l R5 :: osl RS 9 (sl v7) Names R8 :: osl Q5 44 (sl v10) Schema R11 :: osl (RI .i64) 3 (sl v13) Init R14 :: osl RS 9 (sl v16) Procs R17 :: osl Q2 54 (sl v19) Cmd R20 :: osl Q6 57 (sl v2) ahead R :: box b6 57 [(.int .i64 0), (.int .i64 0), (.int .i64 0), (.int .i64 0), (sl (none, 0, 0))] :: box b11 28 [(.int .i64 r8.1), (S r8.2.1), (.int .i64 r8.2.2.1), (.int .i64 r8.2.2.2)] :: gl 0 (keysL.map S) :: gl 1 (textsL.map S) :: Φ) w14) (fun (_ : Unit) => [(0, true, (.pointer (some ⟨b, 0, none⟩))), (1, true, (sl v2)), (4, true, (.pointer (some ⟨b6, 0, none⟩))), (5, true, (.pointer (some ⟨b11, 0, none⟩)))]) ?_ ?_
 ·
  rintro _ w14 ⟨hm, hs⟩
  unfold model_read_assignment_s2_K1 at hm
  refine WC_seq ?_
  refine WC_region_mixed [0, 1, 2, 4, 8, 0, 32, 80, 0, 511] (.q 0 0 (.q 1 1 (.q 2 3 (.q 3 7 (.q 4 15 (.q 5 31 (.q 6 63 (.l2 127 7 (.l 8 255 (.l 9 511 .nil)) 8 (.l 7 383 (.l 9 511 .nil)))))))))) (by kernel_rfl) (by kernel_rfl) ?_
  intro w15 hx16
  replace hs := hs.ext hx16
  refine WD_pure (fun _ => (Run_move (O rfl))) rfl rfl rfl rfl <| WD_pure (fun _ => (Run_nilP (O rfl))) rfl rfl rfl rfl <| WD_pure (fun _ => (Run_fieldAddr fo69_2 (O rfl))) rfl rfl rfl rfl <| WD_pure (fun _ => (Run_fieldAddr fo33_0 (O rfl))) rfl rfl rfl rfl <| WD_op (fun w => CellsAt w ⟨b, 2, none⟩ [(sl v7)]) ((hs.box (i := 0) rfl).part 2 rfl) (fun _ hJ => (Run_load1 (v := (sl v7)) Tryd.underlying26 rfl (O rfl) (fun _ => hJ))) rfl rfl rfl rfl <| WD_pure (fun _ => (Run_fieldAddr fo28_1 (O rfl))) rfl rfl rfl rfl <| WD_op (fun w => CellsAt w ⟨b11, 1, none⟩ [(S r8.2.1)]) ((hs.box (i := 9) rfl).part 1 rfl) (fun _ hJ => (Run_load1 (v := (S r8.2.1)) Tryd.underlying9 rfl (O rfl) (fun _ => hJ))) rfl rfl rfl rfl <| ?_
  refine WD_loud2 ?_ ?_
  ·
   refine WD_loud (pend' := []) rfl (by kernel_rfl) ?_
   obtain ⟨r17, hr18, hm⟩ := bind_some' hm
   refine WL_call (f := 74) (first := []) (cap := []) (xs := [(.tmp 18), (.tmp 20)]) (vs := [(sl v7), (S r8.2.1)]) (args := [(sl v7), (S r8.2.1)]) Tryd.call74 Opd.f (.cons (O rfl) (.cons (O rfl) .nil)) rfl rfl (slices_Index_string_string_s2_ok (hs.re 12 [2, 0, 1, 3, 4, 5, 6, 7, 8, 9, 10, 11] rfl) hr18) ?_
   rintro _ w19 ⟨rfl, hs⟩
   replace hs := Sat.n12 (Γ := Φ) hs rfl
   refine WL_nil ?_
   refine At_QK allJ_nil ?_
   refine WD_loud (pend' := []) rfl (by kernel_rfl) ?_
   refine WS_alloc (zs := [(.int .i64 0)]) hs ti3 rfl rfl ?_
   intro b20 w21 hs
   replace hs := Sat.n13 (Γ := Φ) hs rfl
   refine WL_nil ?_
   refine At_QK allJ_nil ?_
   refine WD_loud (pend' := []) rfl (by kernel_rfl) ?_
   refine WS_store (us := [(.int .i64 r17)]) (vs' := [(.int .i64 r17)]) hs 0 rfl ti3 (O rfl) (O rfl) rfl rfl rfl rfl rfl ?_
   intro w22 hs
   replace hs := Sat.n13 (Γ := Φ) hs rfl
   refine WL_nil ?_
   refine At_QK allJ_nil ?_
   refine WD_nil ?_
   refine At_then ?_
   refine WC_seq_cut (γ := Unit) (fun (_ : Unit) w23 => model_read_assignment_s2_K2 l at_ Names Schema Init Procs Cmd r17 = some r ∧ Sat (box b 69 [(sl v4), (.int .i64 at_), (sl v7), (sl v10), (sl v13), (sl v16), (sl v19)] :: osl Q1 28 (sl v4) l R5 :: osl RS 9 (sl v7) Names R8 :: osl Q5 44 (sl v10) Schema R11 :: osl (RI .i64) 3 (sl v13) Init R14 :: osl RS 9 (sl v16) Procs R17 :: osl Q2 54 (sl v19) Cmd R20 :: box b6 57 [(.int .i64 0), (.int .i64 0), (.int .i64 0), (.int .i64 0), (sl (none, 0, 0))] :: box b20 3 [(.int .i64 r17)] :: osl Q6 57 (sl v2) ahead R :: gl 0 (keysL.map S) :: gl 1 (textsL.map S) :: Φ) w23) (fun (_ : Unit) => [(0, true, (.pointer (some ⟨b, 0, none⟩))), (4, true, (.pointer (some ⟨b6, 0, none⟩))), (6, true, (.pointer (some ⟨b20, 0, none⟩)))]) ?_ ?_
   ·
    rintro _ w23 ⟨hm, hs⟩
    unfold model_read_assignment_s2_K2 at hm
    refine WC_seq <| WC_region ?_
    iterate 7 refine W ?_
    refine WS_store (us := [(.int .i64 (IntKind.i64.wrap (at_ + 1)))]) (vs' := [(sl v4), (.int .i64 (IntKind.i64.wrap (at_ + 1))), (sl v7), (sl v10), (sl v13), (sl v16), (sl v19)]) hs 0 rfl ti3 (O rfl) (O rfl) rfl rfl rfl rfl rfl ?_
    intro w24 hs
    replace hs := Sat.n12 (Γ := Φ) hs rfl
    refine WL_nil <| At_then <| WC_seq <| WC_region ?_
    refine W ?_
    rcases bindE_some hm with ⟨p27, hp28, rfl⟩ | ⟨r25, hr26, hm⟩
    ·
     refine WL_callP (f := 55) (first := []) (cap := []) (xs := [(.tmp 38), (.const (.string ⟨#[61]⟩))]) (vs := [(.pointer (some ⟨b, 0, none⟩)), (S [61])]) (args := [(.pointer (some ⟨b, 0, none⟩)), (S [61])]) Tryd.call55 Opd.f (.cons (O rfl) (.cons Opd.c .nil)) rfl rfl (model_read_sign_ok (hs.re 12 [0, 1, 2, 3, 4, 5, 6, 7, 8, 9, 10, 11] rfl) hp28) ?_
     intro w30 hs
     refine At_then_panic <| ?_
     exact At_p ⟨_, rfl, rfl, hs.re 5 [] rfl⟩
    refine WL_callN (f := 55) (first := []) (cap := []) (xs := [(.tmp 38), (.const (.string ⟨#[61]⟩))]) (vs := [(.pointer (some ⟨b, 0, none⟩)), (S [61])]) (args := [(.pointer (some ⟨b, 0, none⟩)), (S [61])]) Tryd.call55 Opd.f (.cons (O rfl) (.cons Opd.c .nil)) rfl rfl (model_read_sign_ok (hs.re 12 [0, 1, 2, 3, 4, 5, 6, 7, 8, 9, 10, 11] rfl) hr26) ?_
    rintro _ w29 ⟨rfl, hs⟩
    replace hs := Sat.n12 (Γ := Φ) hs rfl
    refine WL_nil <| At_then <| WC_seq ?_
    refine WC_region_mixed [0, 0, 2, 5, 15] (.q 0 0 (.q 1 1 (.l 2 3 (.q 3 7 (.l 4 15 .nil))))) (by kernel_rfl) (by kernel_rfl) ?_
    intro w31 hx32
    replace hs := hs.ext hx32
    refine WD_op (fun w => CellsAt w ⟨b20, 0, none⟩ [(.int .i64 r17)]) ((hs.box (i := 8) rfl).part 0 rfl) (fun _ hJ => (Run_load1 (v := (.int .i64 r17)) Tryd.underlying3 rfl (O rfl) (fun _ => hJ))) rfl rfl rfl rfl <| WD_pure (fun _ => (Run_move (O rfl))) rfl rfl rfl rfl <| ?_
    refine WD_loud (pend' := [(0, fun w => CellsAt w ⟨b20, 0, none⟩ [(.int .i64 r17)])]) rfl (by kernel_rfl) ?_
    rcases bindE_some hm with ⟨p35, hp36, rfl⟩ | ⟨r33, hr34, hm⟩
    ·
     refine WL_callP (f := 67) (first := []) (cap := []) (xs := [(.tmp 41), (.const (.int .i64 1))]) (vs := [(.pointer (some ⟨b, 0, none⟩)), (.int .i64 1)]) (args := [(.pointer (some ⟨b, 0, none⟩)), (.int .i64 1)]) Tryd.call67 Opd.f (.cons (O rfl) (.cons Opd.c .nil)) rfl rfl (model_read_expression_ok (hs.re 12 [0, 1, 2, 3, 4, 5, 6, 10, 11, 7, 8, 9, 10, 11] rfl) hp36) ?_
     intro w40 hs
     refine At_QK_panic <| AtP_then <| ?_
     exact AtP_p ⟨_, rfl, rfl, hs.re 5 [] rfl⟩
    refine WL_callN (f := 67) (first := []) (cap := []) (xs := [(.tmp 41), (.const (.int .i64 1))]) (vs := [(.pointer (some ⟨b, 0, none⟩)), (.int .i64 1)]) (args := [(.pointer (some ⟨b, 0, none⟩)), (.int .i64 1)]) Tryd.call67 Opd.f (.cons (O rfl) (.cons Opd.c .nil)) rfl rfl (model_read_expression_ok (hs.re 12 [0, 1, 2, 3, 4, 5, 6, 10, 11, 7, 8, 9, 10, 11] rfl) hr34) ?_
    rintro _ w39 ⟨v37, R38, rfl, hs⟩
    replace hs := Sat.n13 (Γ := Φ) hs rfl
    refine WL_nil ?_
    refine At_QK (allJ_cons ((hs.box (i := 9) rfl).part 0 rfl) allJ_nil) ?_
    refine WD_pure (fun _ => (Run_build (parts := [(0, (.tmp 40)), (1, (.tmp 42))]) (v := (.agg #[(.int .i64 r17), (.int .i64 r33.1.op), (.int .i64 r33.1.n), (.int .i64 r33.1.at_), (sl v37)])) (.cons (O rfl) (.cons (O rfl) .nil)) (fun _ => by kernel_rfl))) rfl rfl rfl rfl <| ?_
    refine WD_loud (pend' := []) rfl (by kernel_rfl) ?_
    refine WS_store (us := [(.int .i64 r17), (.int .i64 r33.1.op), (.int .i64 r33.1.n), (.int .i64 r33.1.at_), (sl v37)]) (vs' := [(.int .i64 r17), (.int .i64 r33.1.op), (.int .i64 r33.1.n), (.int .i64 r33.1.at_), (sl v37)]) hs 8 rfl ti57 (O rfl) (O rfl) rfl rfl rfl rfl rfl ?_
    intro w41 hs
    replace hs := Sat.n13 (Γ := Φ) hs rfl
    refine WL_nil ?_
    refine At_QK allJ_nil ?_
    refine WD_nil ?_
    refine At_then ?_
    refine WC_ret ?_
    refine At_r1 rfl (ResIs.cA (vs := [(.int .i64 r17), (.int .i64 r33.1.op), (.int .i64 r33.1.n), (.int .i64 r33.1.at_), (sl v37)]) rfl Tryd.underlying57 rfl ti57 ((hs.box (i := 8) rfl).part 0 rfl) rfl) ?_
    cases hm
    exact ⟨_, rfl, v37, R38, rfl, (hs.re 13 [0, 1, 2, 3, 4, 5, 6, 7, 10] rfl)⟩
   ·
    refine WC_seq <| WC_region ?_
    refine W ?_
    obtain ⟨b42, e43, hm⟩ := letv_som hm
    iterate 2 refine W ?_
    refine WG ?_
    refine Wg rfl guard_neg (Run_makeFunc (first := []) (cap := [(.tmp 6)]) .nil (.cons (O rfl) .nil)) rfl <| ?_
    obtain ⟨r44, hr45, -, hm⟩ := callG_some hm
    refine WL_callG rfl rfl rfl guard_neg (f := 75) (first := []) (cap := []) (xs := [(.tmp 25), (.tmp 26)]) (vs := [(sl v2), (.func (.func 76) #[] #[(.pointer (some ⟨b20, 0, none⟩))])]) (args := [(sl v2), (.func (.func 76) #[] #[(.pointer (some ⟨b20, 0, none⟩))])]) Tryd.call75 Opd.f (.cons (Opd.g rfl id) (.cons (Opd.g rfl id) .nil)) rfl rfl (fun hg => slices_ContainsFunc_api_Set_api_Set_s2_ok (hs.re 13 [8, 0, 1, 2, 3, 4, 5, 6, 7, 9, 10, 11, 12] rfl) (hr45 hg)) ?_
    intro v47 w46 hv48 hz49
    replace hs := Sat.ofG (fun hg => (hv48 hg).2.re 13 [1, 2, 3, 4, 5, 6, 7, 8, 0, 9, 10, 11, 12] rfl) hz49 hs
    refine WL_sub1 (v := (.bool r44)) (fun hg => (hv48 hg).1) ?_
    replace hs := Sat.n13 (Γ := Φ) hs rfl
    obtain ⟨b50, e51, hm⟩ := letv_som hm
    refine W ?_
    refine WL_nil <| At_then ?_
    refine WC_cond (O rfl) (fun hc52 => ?_) (fun hc52 => ?_)
    ·
     replace hm := bif_t hc52 hm
     refine WC_region ?_
     refine W ?_
     rcases bindE_some hm with ⟨p55, hp56, rfl⟩ | ⟨r53, hr54, hm⟩
     ·
      refine WL_callP (f := 45) (first := []) (cap := []) (xs := [(.tmp 29), (.const (.int .i64 3))]) (vs := [(.pointer (some ⟨b, 0, none⟩)), (.int .i64 3)]) (args := [(.pointer (some ⟨b, 0, none⟩)), (.int .i64 3)]) Tryd.call45 Opd.f (.cons (O rfl) (.cons Opd.c .nil)) rfl rfl (model_read_stop_ok (hs.re 13 [2, 3, 1, 4, 5, 6, 7, 0, 8, 9, 10, 11, 12] rfl) hp56) ?_
      intro w58 hs
      refine At_then_panic <| ?_
      exact At_p ⟨_, rfl, rfl, hs.re 6 [] rfl⟩
     exact r53.elim
    ·
     replace hm := bif_f hc52 hm
     refine WC_skip ?_
     exact At_join () ⟨hm, (hs.re 13 [2, 3, 1, 4, 5, 6, 7, 9, 0, 8, 11, 12] rfl)⟩ rfl
  ·
   refine WD_loud (pend' := [(6, fun w => CellsAt w ⟨b11, 1, none⟩ [(S r8.2.1)]), (4, fun w => CellsAt w ⟨b, 2, none⟩ [(sl v7)])]) rfl (by kernel_rfl) ?_
   refine WS_alloc (zs := [(.int .i64 0)]) hs ti3 rfl rfl ?_
   intro b59 w60 hs
   replace hs := Sat.n13 (Γ := Φ) hs rfl
   refine WL_nil ?_
   refine At_QK (allJ_cons ((hs.box (i := 10) rfl).part 1 rfl) (allJ_cons ((hs.box (i := 1) rfl).part 2 rfl) allJ_nil)) ?_
   refine WD_loud (pend' := []) rfl (by kernel_rfl) ?_
   obtain ⟨r61, hr62, hm⟩ := bind_some' hm
   refine WL_call (f := 74) (first := []) (cap := []) (xs := [(.tmp 18), (.tmp 20)]) (vs := [(sl v7), (S r8.2.1)]) (args := [(sl v7), (S r8.2.1)]) Tryd.call74 Opd.f (.cons (O rfl) (.cons (O rfl) .nil)) rfl rfl (slices_Index_string_string_s2_ok (hs.re 13 [3, 0, 1, 2, 4, 5, 6, 7, 8, 9, 10, 11, 12] rfl) hr62) ?_
   rintro _ w63 ⟨rfl, hs⟩
   replace hs := Sat.n13 (Γ := Φ) hs rfl
   refine WL_nil ?_
   refine At_QK allJ_nil ?_
   refine WD_loud (pend' := []) rfl (by kernel_rfl) ?_
   refine WS_store (us := [(.int .i64 r61)]) (vs' := [(.int .i64 r61)]) hs 1 rfl ti3 (O rfl) (O rfl) rfl rfl rfl rfl rfl ?_
   intro w64 hs
   replace hs := Sat.n13 (Γ := Φ) hs rfl
   refine WL_nil ?_
   refine At_QK allJ_nil ?_
   refine WD_nil ?_
   refine At_then ?_
   refine WC_seq_cut (γ := Unit) (fun (_ : Unit) w65 => model_read_assignment_s2_K2 l at_ Names Schema Init Procs Cmd r61 = some r ∧ Sat (box b 69 [(sl v4), (.int .i64 at_), (sl v7), (sl v10), (sl v13), (sl v16), (sl v19)] :: osl Q1 28 (sl v4) l R5 :: osl RS 9 (sl v7) Names R8 :: osl Q5 44 (sl v10) Schema R11 :: osl (RI .i64) 3 (sl v13) Init R14 :: osl RS 9 (sl v16) Procs R17 :: osl Q2 54 (sl v19) Cmd R20 :: box b6 57 [(.int .i64 0), (.int .i64 0), (.int .i64 0), (.int .i64 0), (sl (none, 0, 0))] :: box b59 3 [(.int .i64 r61)] :: osl Q6 57 (sl v2) ahead R :: gl 0 (keysL.map S) :: gl 1 (textsL.map S) :: Φ) w65) (fun (_ : Unit) => [(0, true, (.pointer (some ⟨b, 0, none⟩))), (4, true, (.pointer (some ⟨b6, 0, none⟩))), (6, true, (.pointer (some ⟨b59, 0, none⟩)))]) ?_ ?_
   ·
    rintro _ w65 ⟨hm, hs⟩
    unfold model_read_assignment_s2_K2 at hm
    refine WC_seq <| WC_region ?_
    iterate 7 refine W ?_
    refine WS_store (us := [(.int .i64 (IntKind.i64.wrap (at_ + 1)))]) (vs' := [(sl v4), (.int .i64 (IntKind.i64.wrap (at_ + 1))), (sl v7), (sl v10), (sl v13), (sl v16), (sl v19)]) hs 0 rfl ti3 (O rfl) (O rfl) rfl rfl rfl rfl rfl ?_
    intro w66 hs
    replace hs := Sat.n12 (Γ := Φ) hs rfl
    refine WL_nil <| At_then <| WC_seq <| WC_region ?_
    refine W ?_
    rcases bindE_some hm with ⟨p69, hp70, rfl⟩ | ⟨r67, hr68, hm⟩
    ·
     refine WL_callP (f := 55) (first := []) (cap := []) (xs := [(.tmp 38), (.const (.string ⟨#[61]⟩))]) (vs := [(.pointer (some ⟨b, 0, none⟩)), (S [61])]) (args := [(.pointer (some ⟨b, 0, none⟩)), (S [61])]) Tryd.call55 Opd.f (.cons (O rfl) (.cons Opd.c .nil)) rfl rfl (model_read_sign_ok (hs.re 12 [0, 1, 2, 3, 4, 5, 6, 7, 8, 9, 10, 11] rfl) hp70) ?_
     intro w72 hs
     refine At_then_panic <| ?_
     exact At_p ⟨_, rfl, rfl, hs.re 5 [] rfl⟩
    refine WL_callN (f := 55) (first := []) (cap := []) (xs := [(.tmp 38), (.const (.string ⟨#[61]⟩))]) (vs := [(.pointer (some ⟨b, 0, none⟩)), (S [61])]) (args := [(.pointer (some ⟨b, 0, none⟩)), (S [61])]) Tryd.call55 Opd.f (.cons (O rfl) (.cons Opd.c .nil)) rfl rfl (model_read_sign_ok (hs.re 12 [0, 1, 2, 3, 4, 5, 6, 7, 8, 9, 10, 11] rfl) hr68) ?_
    rintro _ w71 ⟨rfl, hs⟩
    replace hs := Sat.n12 (Γ := Φ) hs rfl
    refine WL_nil <| At_then <| WC_seq ?_
    refine WC_region_mixed [0, 0, 2, 5, 15] (.q 0 0 (.q 1 1 (.l 2 3 (.q 3 7 (.l 4 15 .nil))))) (by kernel_rfl) (by kernel_rfl) ?_
    intro w73 hx74
    replace hs := hs.ext hx74
    refine WD_op (fun w => CellsAt w ⟨b59, 0, none⟩ [(.int .i64 r61)]) ((hs.box (i := 8) rfl).part 0 rfl) (fun _ hJ => (Run_load1 (v := (.int .i64 r61)) Tryd.underlying3 rfl (O rfl) (fun _ => hJ))) rfl rfl rfl rfl <| WD_pure (fun _ => (Run_move (O rfl))) rfl rfl rfl rfl <| ?_
    refine WD_loud (pend' := [(0, fun w => CellsAt w ⟨b59, 0, none⟩ [(.int .i64 r61)])]) rfl (by kernel_rfl) ?_
    rcases bindE_some hm with ⟨p77, hp78, rfl⟩ | ⟨r75, hr76, hm⟩
    ·
     refine WL_callP (f := 67) (first := []) (cap := []) (xs := [(.tmp 41), (.const (.int .i64 1))]) (vs := [(.pointer (some ⟨b, 0, none⟩)), (.int .i64 1)]) (args := [(.pointer (some ⟨b, 0, none⟩)), (.int .i64 1)]) Tryd.call67 Opd.f (.cons (O rfl) (.cons Opd.c .nil)) rfl rfl (model_read_expression_ok (hs.re 12 [0, 1, 2, 3, 4, 5, 6, 10, 11, 7, 8, 9, 10, 11] rfl) hp78) ?_
     intro w82 hs
     refine At_QK_panic <| AtP_then <| ?_
     exact AtP_p ⟨_, rfl, rfl, hs.re 5 [] rfl⟩
    refine WL_callN (f := 67) (first := []) (cap := []) (xs := [(.tmp 41), (.const (.int .i64 1))]) (vs := [(.pointer (some ⟨b, 0, none⟩)), (.int .i64 1)]) (args := [(.pointer (some ⟨b, 0, none⟩)), (.int .i64 1)]) Tryd.call67 Opd.f (.cons (O rfl) (.cons Opd.c .nil)) rfl rfl (model_read_expression_ok (hs.re 12 [0, 1, 2, 3, 4, 5, 6, 10, 11, 7, 8, 9, 10, 11] rfl) hr76) ?_
    rintro _ w81 ⟨v79, R80, rfl, hs⟩
    replace hs := Sat.n13 (Γ := Φ) hs rfl
    refine WL_nil ?_
    refine At_QK (allJ_cons ((hs.box (i := 9) rfl).part 0 rfl) allJ_nil) ?_
    refine WD_pure (fun _ => (Run_build (parts := [(0, (.tmp 40)), (1, (.tmp 42))]) (v := (.agg #[(.int .i64 r61), (.int .i64 r75.1.op), (.int .i64 r75.1.n), (.int .i64 r75.1.at_), (sl v79)])) (.cons (O rfl) (.cons (O rfl) .nil)) (fun _ => by kernel_rfl))) rfl rfl rfl rfl <| ?_
    refine WD_loud (pend' := []) rfl (by kernel_rfl) ?_
    refine WS_store (us := [(.int .i64 r61), (.int .i64 r75.1.op), (.int .i64 r75.1.n), (.int .i64 r75.1.at_), (sl v79)]) (vs' := [(.int .i64 r61), (.int .i64 r75.1.op), (.int .i64 r75.1.n), (.int .i64 r75.1.at_), (sl v79)]) hs 8 rfl ti57 (O rfl) (O rfl) rfl rfl rfl rfl rfl ?_
    intro w83 hs
    replace hs := Sat.n13 (Γ := Φ) hs rfl
    refine WL_nil ?_
    refine At_QK allJ_nil ?_
    refine WD_nil ?_
    refine At_then ?_
    refine WC_ret ?_
    refine At_r1 rfl (ResIs.cA (vs := [(.int .i64 r61), (.int .i64 r75.1.op), (.int .i64 r75.1.n), (.int .i64 r75.1.at_), (sl v79)]) rfl Tryd.underlying57 rfl ti57 ((hs.box (i := 8) rfl).part 0 rfl) rfl) ?_
    cases hm
    exact ⟨_, rfl, v79, R80, rfl, (hs.re 13 [0, 1, 2, 3, 4, 5, 6, 7, 10] rfl)⟩
   ·
    refine WC_seq <| WC_region ?_
    refine W ?_
    obtain ⟨b84, e85, hm⟩ := letv_som hm
    iterate 2 refine W ?_
    refine WG ?_
    refine Wg rfl guard_neg (Run_makeFunc (first := []) (cap := [(.tmp 6)]) .nil (.cons (O rfl) .nil)) rfl <| ?_
    obtain ⟨r86, hr87, -, hm⟩ := callG_some hm
    refine WL_callG rfl rfl rfl guard_neg (f := 75) (first := []) (cap := []) (xs := [(.tmp 25), (.tmp 26)]) (vs := [(sl v2), (.func (.func 76) #[] #[(.pointer (some ⟨b59, 0, none⟩))])]) (args := [(sl v2), (.func (.func 76) #[] #[(.pointer (some ⟨b59, 0, none⟩))])]) Tryd.call75 Opd.f (.cons (Opd.g rfl id) (.cons (Opd.g rfl id) .nil)) rfl rfl (fun hg => slices_ContainsFunc_api_Set_api_Set_s2_ok (hs.re 13 [8, 1, 0, 2, 3, 4, 5, 6, 7, 9, 10, 11, 12] rfl) (hr87 hg)) ?_
    intro v89 w88 hv90 hz91
    replace hs := Sat.ofG (fun hg => (hv90 hg).2.re 13 [2, 1, 3, 4, 5, 6, 7, 8, 0, 9, 10, 11, 12] rfl) hz91 hs
    refine WL_sub1 (v := (.bool r86)) (fun hg => (hv90 hg).1) ?_
    replace hs := Sat.n13 (Γ := Φ) hs rfl
    obtain ⟨b92, e93, hm⟩ := letv_som hm
    refine W ?_
    refine WL_nil <| At_then ?_
    refine WC_cond (O rfl) (fun hc94 => ?_) (fun hc94 => ?_)
    ·
     replace hm := bif_t hc94 hm
     refine WC_region ?_
     refine W ?_
     rcases bindE_some hm with ⟨p97, hp98, rfl⟩ | ⟨r95, hr96, hm⟩
     ·
      refine WL_callP (f := 45) (first := []) (cap := []) (xs := [(.tmp 29), (.const (.int .i64 3))]) (vs := [(.pointer (some ⟨b, 0, none⟩)), (.int .i64 3)]) (args := [(.pointer (some ⟨b, 0, none⟩)), (.int .i64 3)]) Tryd.call45 Opd.f (.cons (O rfl) (.cons Opd.c .nil)) rfl rfl (model_read_stop_ok (hs.re 13 [2, 3, 0, 4, 5, 6, 7, 1, 8, 9, 10, 11, 12] rfl) hp98) ?_
      intro w100 hs
      refine At_then_panic <| ?_
      exact At_p ⟨_, rfl, rfl, hs.re 6 [] rfl⟩
     exact r95.elim
    ·
     replace hm := bif_f hc94 hm
     refine WC_skip ?_
     exact At_join () ⟨hm, (hs.re 13 [2, 3, 0, 4, 5, 6, 7, 9, 1, 8, 11, 12] rfl)⟩ rfl
 ·
  refine WC_seq <| WC_region ?_
  iterate 3 refine W ?_
  refine WL_nil <| At_then ?_
  refine WC_cond (O rfl) (fun hc101 => ?_) (fun hc101 => ?_)
  ·
   replace hm := bif_t hc101 hm
   refine WC_region ?_
   refine W ?_
   rcases bindE_some hm with ⟨p104, hp105, rfl⟩ | ⟨r102, hr103, hm⟩
   ·
    refine WL_callP (f := 45) (first := []) (cap := []) (xs := [(.tmp 12), (.const (.int .i64 2))]) (vs := [(.pointer (some ⟨b, 0, none⟩)), (.int .i64 2)]) (args := [(.pointer (some ⟨b, 0, none⟩)), (.int .i64 2)]) Tryd.call45 Opd.f (.cons (O rfl) (.cons Opd.c .nil)) rfl rfl (model_read_stop_ok (hs.re 12 [1, 2, 3, 4, 5, 6, 7, 0, 8, 9, 10, 11] rfl) hp105) ?_
    intro w107 hs
    refine At_then_panic <| ?_
    exact At_p ⟨_, rfl, rfl, hs.re 5 [] rfl⟩
   exact r102.elim
  ·
   replace hm := bif_f hc101 hm
   refine WC_skip ?_
   exact At_join () ⟨hm, (hs.re 12 [1, 2, 3, 4, 5, 6, 7, 9, 8, 0, 10, 11] rfl)⟩ rfl
end Go.Proofs.YtdhgpnejphlfpaaDoor
