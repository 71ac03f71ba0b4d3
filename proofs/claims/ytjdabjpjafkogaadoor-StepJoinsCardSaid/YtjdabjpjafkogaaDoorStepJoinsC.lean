/-
  Own texts for the statement StepJoins, cut down to what it needs: Walk4, Walk5, Walk6, Walk7, Walk8. (cut and joined by a program)
-/
import Derived.Test.YtjdabjpjafkogaaDoorStepJoinsA
import Derived.Test.YtjdabjpjafkogaaDoorStepJoinsB
namespace Go.Proofs.YtjdabjpjafkogaaDoor
open Go.Proofs
set_option maxRecDepth 100000 in
set_option maxHeartbeats 4000000 in
theorem scrutinyref13_look_fail_s3_ok {Φ : Ctx} {w : World} {bad : Int} {l : (List (Int × Str × Int × Int))} {at_ : Int} {names : (List Str)} {bad7 : Int} {place : Int} {b : Nat} {v2 : SLV} {R : List Nat} {v4 : SLV} {R5 : List Nat} {r : (Ex × Int × Int)} (hs : Sat (box b 123 [(sl v2), (.int .i64 at_), (sl v4), (.int .i64 bad7), (.int .i64 place)] :: osl (RP (RI .i64) (RP RS (RP (RI .i64) (RI .i64)))) 88 (sl v2) l R :: osl RS 9 (sl v4) names R5 :: Φ) w) (hm : scrutinyref13_look_fail_s3 bad l at_ names bad7 place = some r) :
  CallsR Tryd.prog 66 [(.pointer (some ⟨b, 0, none⟩)), (.int .i64 bad)] w (fun v w' => ∃ v3 : SLV, ∃ R4 : List Nat, v = (.agg #[(.int .i64 r.1.op), (.int .i64 r.1.n), (.int .i64 r.1.at_), (sl v3)]) ∧ Sat (osl RExpr 57 (sl v3) r.1.l R4 :: box b 123 [(sl v2), (.int .i64 at_), (sl v4), (.int .i64 r.2.1), (.int .i64 r.2.2)] :: osl (RP (RI .i64) (RP RS (RP (RI .i64) (RI .i64)))) 88 (sl v2) l R :: osl RS 9 (sl v4) names R5 :: Φ) w') := by
 refine CallsX_enter Tryd.func66 rfl Tryd.ntmps66 rfl ?_
 unfold scrutinyref13_look_fail_s3 at hm
 refine WC_seq <| WC_region ?_
 refine WS_alloc (zs := [(.int .i64 0), (.int .i64 0), (.int .i64 0), (sl (none, 0, 0))]) hs ti57 rfl rfl ?_
 intro b7 w8 hs
 replace hs := Sat.n4 (Γ := Φ) hs rfl
 refine WL_nil <| At_then <| WC_seq <| WC_seq <| WC_region ?_
 refine Wo (Run_move (O rfl)) rfl <| Wo (Run_nilP (O rfl)) rfl <| Wo (Run_fieldAddr fo123_3 (O rfl)) rfl <| Wo (Run_load1 (v := (.int .i64 bad7)) Tryd.underlying3 rfl (O rfl) (fun _ => (hs.box (i := 1) rfl).part 3 rfl)) rfl <| Wo (Run_eqI (O rfl) Opd.c) rfl <| ?_
 refine WL_nil <| At_then ?_
 refine WC_cond (O rfl) (fun hc9 => ?_) (fun hc9 => ?_)
 ·
  replace hm := bif_t hc9 hm
  refine WC_seq <| WC_region ?_
  refine Wo (Run_move (O rfl)) rfl <| Wo (Run_move (O rfl)) rfl <| Wo (Run_nilP (O rfl)) rfl <| Wo (Run_fieldAddr fo123_3 (O rfl)) rfl <| ?_
  refine WS_store (us := [(.int .i64 bad)]) (vs' := [(sl v2), (.int .i64 at_), (sl v4), (.int .i64 bad), (.int .i64 place)]) hs 1 rfl ti3 (O rfl) (O rfl) rfl rfl rfl rfl rfl ?_
  intro w10 hs
  replace hs := Sat.n4 (Γ := Φ) hs rfl
  refine WL_nil <| At_then ?_
  refine WC_region_mixed [0, 0, 2, 4, 8, 0, 32, 64, 128, 272, 512, 1024, 4095, 8191, 12287] (.q 0 0 (.q 1 1 (.q 2 3 (.q 3 7 (.q 4 15 (.q 5 31 (.q 6 63 (.q 7 127 (.q 8 255 (.q 9 511 (.q 10 1023 (.q 11 2047 (.q 12 4095 (.q 13 8191 (.l 14 16383 .nil))))))))))))))) (by kernel_rfl) (by kernel_rfl) ?_
  intro w11 hx12
  replace hs := hs.ext hx12
  refine WD_pure (fun _ => (Run_move (O rfl))) rfl rfl rfl rfl <| WD_pure (fun _ => (Run_move (O rfl))) rfl rfl rfl rfl <| WD_pure (fun _ => (Run_nilP (O rfl))) rfl rfl rfl rfl <| WD_pure (fun _ => (Run_fieldAddr fo123_0 (O rfl))) rfl rfl rfl rfl <| WD_op (fun w => CellsAt w ⟨b, 0, none⟩ [(sl v2)]) ((hs.box (i := 1) rfl).part 0 rfl) (fun _ hJ => (Run_load1 (v := (sl v2)) Tryd.underlying82 rfl (O rfl) (fun _ => hJ))) rfl rfl rfl rfl <| WD_pure (fun _ => (Run_move (O rfl))) rfl rfl rfl rfl <| WD_pure (fun _ => (Run_nilP (O rfl))) rfl rfl rfl rfl <| WD_pure (fun _ => (Run_fieldAddr fo123_1 (O rfl))) rfl rfl rfl rfl <| ?_
  refine WD_op (fun w => CellsAt w ⟨b, 1, none⟩ [(.int .i64 at_)]) ((hs.box (i := 1) rfl).part 1 rfl) (fun _ hJ => (Run_load1 (v := (.int .i64 at_)) Tryd.underlying3 rfl (O rfl) (fun _ => hJ))) rfl rfl rfl rfl <| ?_
  obtain ⟨e13, he14, hm⟩ := bind_some' hm
  refine WD_pure (fun _ => (Run_idxAddr (p := (elA (sl v2) at_ 4)) Tryd.underlying82 ti88 (O rfl) (O rfl) (fun hg => (Own.atA (A := (RP (RI .i64) (RP RS (RP (RI .i64) (RI .i64))))) (v := (sl v2)) (hs.own (i := 2) rfl) he14).1))) rfl rfl rfl rfl <| WD_pure (fun _ => (Run_fieldAddr fo88_3 (O rfl))) rfl rfl rfl rfl <| WD_op (fun w => true = true → CellsAt w ((elA (sl v2) at_ 4).add 3) [(.int .i64 e13.2.2.2)]) (fun hg => ((Own.cellsF (A := (RP (RI .i64) (RP RS (RP (RI .i64) (RI .i64))))) (v := (sl v2)) (hs.own (i := 2) rfl) he14 (fun _ h => openT88 h)).sub (us := [(.int .i64 e13.2.2.2)]) 3 rfl).sub 0 rfl) (fun _ hJ => (Run_load1 (v := (.int .i64 e13.2.2.2)) Tryd.underlying3 rfl (O rfl) hJ)) rfl rfl rfl rfl <| WD_pure (fun _ => (Run_nilP (O rfl))) rfl rfl rfl rfl <| WD_pure (fun _ => (Run_fieldAddr fo123_4 (O rfl))) rfl rfl rfl rfl <| ?_
  refine WD_loud (pend' := []) rfl (by kernel_rfl) ?_
  refine WS_store (us := [(.int .i64 e13.2.2.2)]) (vs' := [(sl v2), (.int .i64 at_), (sl v4), (.int .i64 bad), (.int .i64 e13.2.2.2)]) hs 1 rfl ti3 (O rfl) (O rfl) rfl rfl rfl rfl rfl ?_
  intro w15 hs
  replace hs := Sat.n4 (Γ := Φ) hs rfl
  refine WL_nil ?_
  refine At_QK allJ_nil ?_
  refine WD_nil ?_
  refine At_then <| WC_seq <| WC_region ?_
  refine Wo (Run_build (parts := []) (v := (.agg #[(.int .i64 0), (.int .i64 0), (.int .i64 0), (sl (none, 0, 0))])) .nil (fun _ => by kernel_rfl)) rfl <| ?_
  refine WS_store (us := [(.int .i64 0), (.int .i64 0), (.int .i64 0), (sl (none, 0, 0))]) (vs' := [(.int .i64 0), (.int .i64 0), (.int .i64 0), (sl (none, 0, 0))]) hs 0 rfl ti57 (O rfl) (O rfl) rfl rfl rfl rfl rfl ?_
  intro w16 hs
  replace hs := Sat.n4 (Γ := Φ) hs rfl
  refine WL_nil <| At_then ?_
  refine WC_ret ?_
  refine At_r1 rfl (ResIs.cA (vs := [(.int .i64 0), (.int .i64 0), (.int .i64 0), (sl (none, 0, 0))]) rfl Tryd.underlying57 rfl ti57 ((hs.box (i := 0) rfl).part 0 rfl) rfl) ?_
  replace hs := hs.addNil RExpr 57
  cases hm
  exact ⟨(none, 0, 0), [], rfl, (hs.re 5 [0, 2, 3, 4] rfl)⟩
 ·
  replace hm := bif_f hc9 hm
  refine WC_skip ?_
  refine At_then <| WC_seq <| WC_region ?_
  refine Wo (Run_build (parts := []) (v := (.agg #[(.int .i64 0), (.int .i64 0), (.int .i64 0), (sl (none, 0, 0))])) .nil (fun _ => by kernel_rfl)) rfl <| ?_
  refine WS_store (us := [(.int .i64 0), (.int .i64 0), (.int .i64 0), (sl (none, 0, 0))]) (vs' := [(.int .i64 0), (.int .i64 0), (.int .i64 0), (sl (none, 0, 0))]) hs 0 rfl ti57 (O rfl) (O rfl) rfl rfl rfl rfl rfl ?_
  intro w17 hs
  replace hs := Sat.n4 (Γ := Φ) hs rfl
  refine WL_nil <| At_then ?_
  refine WC_ret ?_
  refine At_r1 rfl (ResIs.cA (vs := [(.int .i64 0), (.int .i64 0), (.int .i64 0), (sl (none, 0, 0))]) rfl Tryd.underlying57 rfl ti57 ((hs.box (i := 0) rfl).part 0 rfl) rfl) ?_
  replace hs := hs.addNil RExpr 57
  cases hm
  exact ⟨(none, 0, 0), [], rfl, (hs.re 5 [0, 2, 3, 4] rfl)⟩
set_option maxRecDepth 100000 in
set_option maxHeartbeats 4000000 in
theorem scrutinyref13_look_one_s3_ok {k_scrutinyref13_look_line_s3 : (Int × Int × (List (Int × Str × Int × Int)) × Int × (List Str) × Int × Int) → Option (Ex × Int × Int × Int)} (ih_scrutinyref13_look_line_s3 : ∀ {Φ : Ctx} {w : World} {strength : Int} {deep : Int} {l : (List (Int × Str × Int × Int))} {at_ : Int} {names : (List Str)} {bad : Int} {place : Int} {b : Nat} {v2 : SLV} {R : List Nat} {v4 : SLV} {R5 : List Nat} {r : (Ex × Int × Int × Int)}, Sat (box b 123 [(sl v2), (.int .i64 at_), (sl v4), (.int .i64 bad), (.int .i64 place)] :: osl (RP (RI .i64) (RP RS (RP (RI .i64) (RI .i64)))) 88 (sl v2) l R :: osl RS 9 (sl v4) names R5 :: Φ) w → k_scrutinyref13_look_line_s3 (strength, deep, l, at_, names, bad, place) = some r → CallsR Tryd.prog 62 [(.pointer (some ⟨b, 0, none⟩)), (.int .i64 strength), (.int .i64 deep)] w (fun v w' => ∃ v3 : SLV, ∃ R4 : List Nat, v = (.agg #[(.int .i64 r.1.op), (.int .i64 r.1.n), (.int .i64 r.1.at_), (sl v3)]) ∧ Sat (osl RExpr 57 (sl v3) r.1.l R4 :: box b 123 [(sl v2), (.int .i64 r.2.1), (sl v4), (.int .i64 r.2.2.1), (.int .i64 r.2.2.2)] :: osl (RP (RI .i64) (RP RS (RP (RI .i64) (RI .i64)))) 88 (sl v2) l R :: osl RS 9 (sl v4) names R5 :: Φ) w')) {Φ : Ctx} {w : World} {deep : Int} {l : (List (Int × Str × Int × Int))} {at_ : Int} {names : (List Str)} {bad : Int} {place : Int} {b : Nat} {v2 : SLV} {R : List Nat} {v4 : SLV} {R5 : List Nat} {r : (Ex × Int × Int × Int)} (hs : Sat (box b 123 [(sl v2), (.int .i64 at_), (sl v4), (.int .i64 bad), (.int .i64 place)] :: osl (RP (RI .i64) (RP RS (RP (RI .i64) (RI .i64)))) 88 (sl v2) l R :: osl RS 9 (sl v4) names R5 :: Φ) w) (hm : scrutinyref13_look_one_s3 k_scrutinyref13_look_line_s3 deep l at_ names bad place = some r) :
  CallsR Tryd.prog 67 [(.pointer (some ⟨b, 0, none⟩)), (.int .i64 deep)] w (fun v w' => ∃ v3 : SLV, ∃ R4 : List Nat, v = (.agg #[(.int .i64 r.1.op), (.int .i64 r.1.n), (.int .i64 r.1.at_), (sl v3)]) ∧ Sat (osl RExpr 57 (sl v3) r.1.l R4 :: box b 123 [(sl v2), (.int .i64 r.2.1), (sl v4), (.int .i64 r.2.2.1), (.int .i64 r.2.2.2)] :: osl (RP (RI .i64) (RP RS (RP (RI .i64) (RI .i64)))) 88 (sl v2) l R :: osl RS 9 (sl v4) names R5 :: Φ) w') := by
 refine CallsX_enter Tryd.func67 rfl Tryd.ntmps67 rfl ?_
 unfold scrutinyref13_look_one_s3 at hm
 refine WC_seq <| WC_region ?_
 refine WS_alloc (zs := [(.int .i64 0), (.int .i64 0), (.int .i64 0), (sl (none, 0, 0))]) hs ti57 rfl rfl ?_
 intro b8 w9 hs
 replace hs := Sat.n4 (Γ := Φ) hs rfl
 refine WL_nil <| At_then <| WC_seq ?_
 refine WC_region_mixed [0, 1, 2, 4, 0, 16, 32, 64, 136, 256, 0, 2047] (.q 0 0 (.q 1 1 (.q 2 3 (.q 3 7 (.q 4 15 (.q 5 31 (.q 6 63 (.q 7 127 (.q 8 255 (.q 9 511 (.l 10 1023 (.l 11 2047 .nil)))))))))))) (by kernel_rfl) (by kernel_rfl) ?_
 intro w10 hx11
 replace hs := hs.ext hx11
 refine WD_pure (fun _ => (Run_move (O rfl))) rfl rfl rfl rfl <| WD_pure (fun _ => (Run_nilP (O rfl))) rfl rfl rfl rfl <| WD_pure (fun _ => (Run_fieldAddr fo123_0 (O rfl))) rfl rfl rfl rfl <| WD_op (fun w => CellsAt w ⟨b, 0, none⟩ [(sl v2)]) ((hs.box (i := 1) rfl).part 0 rfl) (fun _ hJ => (Run_load1 (v := (sl v2)) Tryd.underlying82 rfl (O rfl) (fun _ => hJ))) rfl rfl rfl rfl <| WD_pure (fun _ => (Run_move (O rfl))) rfl rfl rfl rfl <| WD_pure (fun _ => (Run_nilP (O rfl))) rfl rfl rfl rfl <| WD_pure (fun _ => (Run_fieldAddr fo123_1 (O rfl))) rfl rfl rfl rfl <| WD_op (fun w => CellsAt w ⟨b, 1, none⟩ [(.int .i64 at_)]) ((hs.box (i := 1) rfl).part 1 rfl) (fun _ hJ => (Run_load1 (v := (.int .i64 at_)) Tryd.underlying3 rfl (O rfl) (fun _ => hJ))) rfl rfl rfl rfl <| ?_
 obtain ⟨e12, he13, hm⟩ := bind_some' hm
 refine WD_pure (fun _ => (Run_idxAddr (p := (elA (sl v2) at_ 4)) Tryd.underlying82 ti88 (O rfl) (O rfl) (fun hg => (Own.atA (A := (RP (RI .i64) (RP RS (RP (RI .i64) (RI .i64))))) (v := (sl v2)) (hs.own (i := 2) rfl) he13).1))) rfl rfl rfl rfl <| WD_op (fun w => true = true → CellsAt w (elA (sl v2) at_ 4) [(.int .i64 e12.1), (S e12.2.1), (.int .i64 e12.2.2.1), (.int .i64 e12.2.2.2)]) (fun hg => (Own.cellsF (A := (RP (RI .i64) (RP RS (RP (RI .i64) (RI .i64))))) (v := (sl v2)) (hs.own (i := 2) rfl) he13 (fun _ h => openT88 h)).sub 0 rfl) (fun _ hJ => (Run_loadA (vs := [(.int .i64 e12.1), (S e12.2.1), (.int .i64 e12.2.2.1), (.int .i64 e12.2.2.2)]) Tryd.underlying88 rfl ti88 (O rfl) hJ rfl)) rfl rfl rfl rfl <| ?_
 refine WD_loud (pend' := [(9, fun w => true = true → CellsAt w (elA (sl v2) at_ 4) [(.int .i64 e12.1), (S e12.2.1), (.int .i64 e12.2.2.1), (.int .i64 e12.2.2.2)]), (7, fun w => CellsAt w ⟨b, 1, none⟩ [(.int .i64 at_)]), (3, fun w => CellsAt w ⟨b, 0, none⟩ [(sl v2)])]) rfl (by kernel_rfl) ?_
 refine WS_alloc (zs := [(.int .i64 0), (S []), (.int .i64 0), (.int .i64 0)]) hs ti88 rfl rfl ?_
 intro b14 w15 hs
 replace hs := Sat.n5 (Γ := Φ) hs rfl
 refine WL_nil ?_
 refine At_QK (allJ_cons (fun hg => (Own.cellsF (A := (RP (RI .i64) (RP RS (RP (RI .i64) (RI .i64))))) (v := (sl v2)) (hs.own (i := 3) rfl) he13 (fun _ h => openT88 h)).sub 0 rfl) (allJ_cons ((hs.box (i := 2) rfl).part 1 rfl) (allJ_cons ((hs.box (i := 2) rfl).part 0 rfl) allJ_nil))) ?_
 refine WD_loud (pend' := []) rfl (by kernel_rfl) ?_
 refine WS_store (us := [(.int .i64 e12.1), (S e12.2.1), (.int .i64 e12.2.2.1), (.int .i64 e12.2.2.2)]) (vs' := [(.int .i64 e12.1), (S e12.2.1), (.int .i64 e12.2.2.1), (.int .i64 e12.2.2.2)]) hs 0 rfl ti88 (O rfl) (O rfl) rfl rfl rfl rfl rfl ?_
 intro w16 hs
 replace hs := Sat.n5 (Γ := Φ) hs rfl
 refine WL_nil ?_
 refine At_QK allJ_nil ?_
 refine WD_nil ?_
 refine At_then <| WC_seq <| WC_seq <| WC_region ?_
 refine Wo (Run_fieldAddr fo88_0 (O rfl)) rfl <| Wo (Run_load1 (v := (.int .i64 e12.1)) Tryd.underlying3 rfl (O rfl) (fun _ => (hs.box (i := 0) rfl).part 0 rfl)) rfl <| Wo (Run_eqI (O rfl) Opd.c) rfl <| ?_
 refine WL_nil <| At_then ?_
 refine WC_cond (O rfl) (fun hc17 => ?_) (fun hc17 => ?_)
 ·
  replace hm := bif_t hc17 hm
  refine WC_seq <| WC_region ?_
  refine Wo (Run_move (O rfl)) rfl <| Wo (Run_move (O rfl)) rfl <| Wo (Run_nilP (O rfl)) rfl <| Wo (Run_fieldAddr fo123_1 (O rfl)) rfl <| Wo (Run_load1 (v := (.int .i64 at_)) Tryd.underlying3 rfl (O rfl) (fun _ => (hs.box (i := 2) rfl).part 1 rfl)) rfl <| Wo (Run_add (O rfl) Opd.c) rfl <| Wo (Run_nilP (O rfl)) rfl <| Wo (Run_fieldAddr fo123_1 (O rfl)) rfl <| ?_
  refine WS_store (us := [(.int .i64 (IntKind.i64.wrap (at_ + 1)))]) (vs' := [(sl v2), (.int .i64 (IntKind.i64.wrap (at_ + 1))), (sl v4), (.int .i64 bad), (.int .i64 place)]) hs 2 rfl ti3 (O rfl) (O rfl) rfl rfl rfl rfl rfl ?_
  intro w18 hs
  replace hs := Sat.n5 (Γ := Φ) hs rfl
  refine WL_nil <| At_then <| WC_seq <| WC_region ?_
  refine Wo (Run_fieldAddr fo88_2 (O rfl)) rfl <| Wo (Run_load1 (v := (.int .i64 e12.2.2.1)) Tryd.underlying3 rfl (O rfl) (fun _ => (hs.box (i := 0) rfl).part 2 rfl)) rfl <| Wo (Run_fieldAddr fo88_3 (O rfl)) rfl <| Wo (Run_load1 (v := (.int .i64 e12.2.2.2)) Tryd.underlying3 rfl (O rfl) (fun _ => (hs.box (i := 0) rfl).part 3 rfl)) rfl <| Wo (Run_build (parts := [(0, (.const (.int .i64 1))), (1, (.tmp 31)), (2, (.tmp 33))]) (v := (.agg #[(.int .i64 1), (.int .i64 e12.2.2.1), (.int .i64 e12.2.2.2), (sl (none, 0, 0))])) (.cons Opd.c (.cons (O rfl) (.cons (O rfl) .nil))) (fun _ => by kernel_rfl)) rfl <| ?_
  refine WS_store (us := [(.int .i64 1), (.int .i64 e12.2.2.1), (.int .i64 e12.2.2.2), (sl (none, 0, 0))]) (vs' := [(.int .i64 1), (.int .i64 e12.2.2.1), (.int .i64 e12.2.2.2), (sl (none, 0, 0))]) hs 1 rfl ti57 (O rfl) (O rfl) rfl rfl rfl rfl rfl ?_
  intro w19 hs
  replace hs := Sat.n5 (Γ := Φ) hs rfl
  refine WL_nil <| At_then ?_
  refine WC_ret ?_
  refine At_then_ret <| ?_
  refine At_r1 rfl (ResIs.cA (vs := [(.int .i64 1), (.int .i64 e12.2.2.1), (.int .i64 e12.2.2.2), (sl (none, 0, 0))]) rfl Tryd.underlying57 rfl ti57 ((hs.box (i := 1) rfl).part 0 rfl) rfl) ?_
  replace hs := hs.addNil RExpr 57
  cases hm
  exact ⟨(none, 0, 0), [], rfl, (hs.re 6 [0, 3, 4, 5] rfl)⟩
 ·
  replace hm := bif_f hc17 hm
  refine WC_skip ?_
  refine At_then <| WC_seq <| WC_seq <| WC_region ?_
  refine Wo (Run_fieldAddr fo88_0 (O rfl)) rfl <| Wo (Run_load1 (v := (.int .i64 e12.1)) Tryd.underlying3 rfl (O rfl) (fun _ => (hs.box (i := 0) rfl).part 0 rfl)) rfl <| ?_
  obtain ⟨b20, e21, hm⟩ := letv_some hm
  refine Wo (Run.eqB (Run_eqI (O rfl) Opd.c) e21) rfl <| Wo (Run_move (O rfl)) rfl <| WL_opG rfl rfl rfl rfl guard_pos (Run_fieldAddr fo88_1 (O rfl)) rfl rfl rfl <| WL_opG rfl rfl rfl rfl guard_pos (Run_load1 (v := (S e12.2.1)) Tryd.underlying9 rfl (Opd.g rfl id) (fun _ => (hs.box (i := 0) rfl).part 1 rfl)) rfl rfl rfl <| ?_
  obtain ⟨b22, e23, hm⟩ := letv_some hm
  refine WL_opG rfl rfl rfl rfl guard_pos (Run.eqB (Run_eqS (Opd.g rfl id) Opd.c) e23) rfl rfl rfl <| ?_
  obtain ⟨b24, e25, hm⟩ := letv_some hm
  refine Wo (Run.eqB (Run_and (O rfl) (Opd.g rfl id)) e25) rfl <| ?_
  refine WL_nil <| At_then ?_
  refine WC_cond (O rfl) (fun hc26 => ?_) (fun hc26 => ?_)
  ·
   replace hm := bif_t hc26 hm
   refine WC_seq <| WC_region ?_
   refine Wo (Run_move (O rfl)) rfl <| Wo (Run_move (O rfl)) rfl <| Wo (Run_nilP (O rfl)) rfl <| Wo (Run_fieldAddr fo123_1 (O rfl)) rfl <| Wo (Run_load1 (v := (.int .i64 at_)) Tryd.underlying3 rfl (O rfl) (fun _ => (hs.box (i := 2) rfl).part 1 rfl)) rfl <| Wo (Run_add (O rfl) Opd.c) rfl <| Wo (Run_nilP (O rfl)) rfl <| Wo (Run_fieldAddr fo123_1 (O rfl)) rfl <| ?_
   refine WS_store (us := [(.int .i64 (IntKind.i64.wrap (at_ + 1)))]) (vs' := [(sl v2), (.int .i64 (IntKind.i64.wrap (at_ + 1))), (sl v4), (.int .i64 bad), (.int .i64 place)]) hs 2 rfl ti3 (O rfl) (O rfl) rfl rfl rfl rfl rfl ?_
   intro w27 hs
   replace hs := Sat.n5 (Γ := Φ) hs rfl
   refine WL_nil <| At_then <| WC_seq <| WC_region ?_
   refine Wo (Run_fieldAddr fo88_3 (O rfl)) rfl <| Wo (Run_load1 (v := (.int .i64 e12.2.2.2)) Tryd.underlying3 rfl (O rfl) (fun _ => (hs.box (i := 0) rfl).part 3 rfl)) rfl <| Wo (Run_build (parts := [(0, (.const (.int .i64 13))), (2, (.tmp 52))]) (v := (.agg #[(.int .i64 13), (.int .i64 0), (.int .i64 e12.2.2.2), (sl (none, 0, 0))])) (.cons Opd.c (.cons (O rfl) .nil)) (fun _ => by kernel_rfl)) rfl <| ?_
   refine WS_store (us := [(.int .i64 13), (.int .i64 0), (.int .i64 e12.2.2.2), (sl (none, 0, 0))]) (vs' := [(.int .i64 13), (.int .i64 0), (.int .i64 e12.2.2.2), (sl (none, 0, 0))]) hs 1 rfl ti57 (O rfl) (O rfl) rfl rfl rfl rfl rfl ?_
   intro w28 hs
   replace hs := Sat.n5 (Γ := Φ) hs rfl
   refine WL_nil <| At_then ?_
   refine WC_ret ?_
   refine At_then_ret <| ?_
   refine At_r1 rfl (ResIs.cA (vs := [(.int .i64 13), (.int .i64 0), (.int .i64 e12.2.2.2), (sl (none, 0, 0))]) rfl Tryd.underlying57 rfl ti57 ((hs.box (i := 1) rfl).part 0 rfl) rfl) ?_
   replace hs := hs.addNil RExpr 57
   cases hm
   exact ⟨(none, 0, 0), [], rfl, (hs.re 6 [0, 3, 4, 5] rfl)⟩
  ·
   replace hm := bif_f hc26 hm
   refine WC_skip ?_
   refine At_then <| WC_seq <| WC_seq <| WC_region ?_
   refine Wo (Run_fieldAddr fo88_0 (O rfl)) rfl <| Wo (Run_load1 (v := (.int .i64 e12.1)) Tryd.underlying3 rfl (O rfl) (fun _ => (hs.box (i := 0) rfl).part 0 rfl)) rfl <| ?_
   obtain ⟨b29, e30, hm⟩ := letv_some hm
   refine Wo (Run.eqB (Run_eqI (O rfl) Opd.c) e30) rfl <| Wo (Run_move (O rfl)) rfl <| WL_opG rfl rfl rfl rfl guard_pos (Run_fieldAddr fo88_1 (O rfl)) rfl rfl rfl <| WL_opG rfl rfl rfl rfl guard_pos (Run_load1 (v := (S e12.2.1)) Tryd.underlying9 rfl (Opd.g rfl id) (fun _ => (hs.box (i := 0) rfl).part 1 rfl)) rfl rfl rfl <| ?_
   obtain ⟨b31, e32, hm⟩ := letv_some hm
   refine WL_opG rfl rfl rfl rfl guard_pos (Run.eqB (Run_eqS (Opd.g rfl id) Opd.c) e32) rfl rfl rfl <| ?_
   obtain ⟨b33, e34, hm⟩ := letv_some hm
   refine Wo (Run.eqB (Run_and (O rfl) (Opd.g rfl id)) e34) rfl <| ?_
   refine WL_nil <| At_then ?_
   refine WC_cond (O rfl) (fun hc35 => ?_) (fun hc35 => ?_)
   ·
    replace hm := bif_t hc35 hm
    refine WC_seq <| WC_region ?_
    refine Wo (Run_move (O rfl)) rfl <| Wo (Run_move (O rfl)) rfl <| Wo (Run_nilP (O rfl)) rfl <| Wo (Run_fieldAddr fo123_1 (O rfl)) rfl <| Wo (Run_load1 (v := (.int .i64 at_)) Tryd.underlying3 rfl (O rfl) (fun _ => (hs.box (i := 2) rfl).part 1 rfl)) rfl <| Wo (Run_add (O rfl) Opd.c) rfl <| Wo (Run_nilP (O rfl)) rfl <| Wo (Run_fieldAddr fo123_1 (O rfl)) rfl <| ?_
    refine WS_store (us := [(.int .i64 (IntKind.i64.wrap (at_ + 1)))]) (vs' := [(sl v2), (.int .i64 (IntKind.i64.wrap (at_ + 1))), (sl v4), (.int .i64 bad), (.int .i64 place)]) hs 2 rfl ti3 (O rfl) (O rfl) rfl rfl rfl rfl rfl ?_
    intro w36 hs
    replace hs := Sat.n5 (Γ := Φ) hs rfl
    refine WL_nil <| At_then <| WC_seq <| WC_region ?_
    refine Wo (Run_fieldAddr fo88_3 (O rfl)) rfl <| Wo (Run_load1 (v := (.int .i64 e12.2.2.2)) Tryd.underlying3 rfl (O rfl) (fun _ => (hs.box (i := 0) rfl).part 3 rfl)) rfl <| Wo (Run_build (parts := [(0, (.const (.int .i64 14))), (2, (.tmp 71))]) (v := (.agg #[(.int .i64 14), (.int .i64 0), (.int .i64 e12.2.2.2), (sl (none, 0, 0))])) (.cons Opd.c (.cons (O rfl) .nil)) (fun _ => by kernel_rfl)) rfl <| ?_
    refine WS_store (us := [(.int .i64 14), (.int .i64 0), (.int .i64 e12.2.2.2), (sl (none, 0, 0))]) (vs' := [(.int .i64 14), (.int .i64 0), (.int .i64 e12.2.2.2), (sl (none, 0, 0))]) hs 1 rfl ti57 (O rfl) (O rfl) rfl rfl rfl rfl rfl ?_
    intro w37 hs
    replace hs := Sat.n5 (Γ := Φ) hs rfl
    refine WL_nil <| At_then ?_
    refine WC_ret ?_
    refine At_then_ret <| ?_
    refine At_r1 rfl (ResIs.cA (vs := [(.int .i64 14), (.int .i64 0), (.int .i64 e12.2.2.2), (sl (none, 0, 0))]) rfl Tryd.underlying57 rfl ti57 ((hs.box (i := 1) rfl).part 0 rfl) rfl) ?_
    replace hs := hs.addNil RExpr 57
    cases hm
    exact ⟨(none, 0, 0), [], rfl, (hs.re 6 [0, 3, 4, 5] rfl)⟩
   ·
    replace hm := bif_f hc35 hm
    refine WC_skip ?_
    refine At_then <| WC_seq <| WC_region ?_
    refine Wo (Run_fieldAddr fo88_1 (O rfl)) rfl <| Wo (Run_load1 (v := (S e12.2.1)) Tryd.underlying9 rfl (O rfl) (fun _ => (hs.box (i := 0) rfl).part 1 rfl)) rfl <| ?_
    obtain ⟨r38, hr39, hm⟩ := bind_some' hm
    refine WL_call (f := 51) (first := []) (cap := []) (xs := [(.tmp 74)]) (vs := [(S e12.2.1)]) (args := [(S e12.2.1)]) Tryd.call51 Opd.f (.cons (O rfl) .nil) rfl rfl (scrutinyref13_Key_ok (hs.re 5 [0, 1, 2, 3, 4] rfl) hr39) ?_
    rintro _ w40 ⟨rfl, hs⟩
    replace hs := Sat.n5 (Γ := Φ) hs rfl
    refine Wo (Run_assign (O rfl)) rfl <| ?_
    refine WL_nil <| At_then <| WC_seq <| WC_seq <| WC_region ?_
    refine Wo (Run_fieldAddr fo88_0 (O rfl)) rfl <| Wo (Run_load1 (v := (.int .i64 e12.1)) Tryd.underlying3 rfl (O rfl) (fun _ => (hs.box (i := 0) rfl).part 0 rfl)) rfl <| ?_
    obtain ⟨b41, e42, hm⟩ := letv_some hm
    refine Wo (Run.eqB (Run_eqI (O rfl) Opd.c) e42) rfl <| Wo (Run_move (O rfl)) rfl <| WL_opG rfl rfl rfl rfl guard_pos (Run_move (O rfl)) rfl rfl rfl <| ?_
    obtain ⟨b43, e44, hm⟩ := letv_some hm
    refine WL_opG rfl rfl rfl rfl guard_pos (Run.eqB (Run_notB (Opd.g rfl id)) e44) rfl rfl rfl <| ?_
    obtain ⟨b45, e46, hm⟩ := letv_some hm
    refine Wo (Run.eqB (Run_and (O rfl) (Opd.g rfl id)) e46) rfl <| ?_
    refine WL_nil <| At_then ?_
    refine WC_cond (O rfl) (fun hc47 => ?_) (fun hc47 => ?_)
    ·
     replace hm := bif_t hc47 hm
     refine WC_seq <| WC_seq <| WC_region ?_
     refine Wo (Run_assign Opd.c) rfl <| ?_
     refine WL_nil <| At_then ?_
     refine WC_block ?_
     refine WC_loop (σ := Int) (γ := Unit) (F := (scrutinyref13_look_one_s3_L1 l at_ names bad place e12)) (N := FUEL) (s0 := 0) (r := r) (fun i49 (_ : Unit) w48 => Sat (box b 123 [(sl v2), (.int .i64 at_), (sl v4), (.int .i64 bad), (.int .i64 place)] :: osl (RP (RI .i64) (RP RS (RP (RI .i64) (RI .i64)))) 88 (sl v2) l R :: osl RS 9 (sl v4) names R5 :: box b8 57 [(.int .i64 0), (.int .i64 0), (.int .i64 0), (sl (none, 0, 0))] :: box b14 88 [(.int .i64 e12.1), (S e12.2.1), (.int .i64 e12.2.2.1), (.int .i64 e12.2.2.2)] :: Φ) w48) (fun i49 (_ : Unit) => [(0, true, (.pointer (some ⟨b, 0, none⟩))), (4, true, (.pointer (some ⟨b8, 0, none⟩))), (5, true, (.pointer (some ⟨b14, 0, none⟩))), (7, true, (.int .i64 i49))]) hm () (hs.re 5 [2, 3, 4, 1, 0] rfl) rfl ?_
     rintro again50 i49 _ w48 hm hs
     unfold scrutinyref13_look_one_s3_L1 at hm
     refine WC_seq <| WC_seq <| WC_region ?_
     refine Wo (Run_move (O rfl)) rfl <| Wo (Run_move (O rfl)) rfl <| Wo (Run_nilP (O rfl)) rfl <| Wo (Run_fieldAddr fo123_2 (O rfl)) rfl <| Wo (Run_load1 (v := (sl v4)) Tryd.underlying24 rfl (O rfl) (fun _ => (hs.box (i := 0) rfl).part 2 rfl)) rfl <| Wo (Run_lenSlG Tryd.underlying24 (O rfl) (fun _ => (hs.own (i := 2) rfl).len)) rfl <| Wo (Run_ltI (O rfl) (O rfl)) rfl <| ?_
     refine WL_nil <| At_then ?_
     refine WC_cond (O rfl) (fun hc51 => ?_) (fun hc51 => ?_)
     ·
      replace hm := bif_t hc51 hm
      refine WC_skip ?_
      refine At_then <| WC_seq ?_
      refine WC_block ?_
      refine WC_seq ?_
      refine WC_region_mixed [0, 1, 2, 4, 0, 24, 32, 0, 128, 320] (.q 0 0 (.q 1 1 (.q 2 3 (.q 3 7 (.q 4 15 (.q 5 31 (.q 6 63 (.q 7 127 (.q 8 255 (.q 9 511 .nil)))))))))) (by kernel_rfl) (by kernel_rfl) ?_
      intro w52 hx53
      replace hs := hs.ext hx53
      refine WD_pure (fun _ => (Run_move (O rfl))) rfl rfl rfl rfl <| WD_pure (fun _ => (Run_nilP (O rfl))) rfl rfl rfl rfl <| WD_pure (fun _ => (Run_fieldAddr fo123_2 (O rfl))) rfl rfl rfl rfl <| WD_op (fun w => CellsAt w ⟨b, 2, none⟩ [(sl v4)]) ((hs.box (i := 0) rfl).part 2 rfl) (fun _ hJ => (Run_load1 (v := (sl v4)) Tryd.underlying24 rfl (O rfl) (fun _ => hJ))) rfl rfl rfl rfl <| WD_pure (fun _ => (Run_move (O rfl))) rfl rfl rfl rfl <| ?_
      obtain ⟨e54, he55, hm⟩ := bind_some' hm
      refine WD_pure (fun _ => (Run_idxAddr (p := (elA (sl v4) i49 1)) Tryd.underlying24 ti9 (O rfl) (O rfl) (fun hg => (Own.atA (A := RS) (v := (sl v4)) (hs.own (i := 2) rfl) he55).1))) rfl rfl rfl rfl <| WD_op (fun w => true = true → CellsAt w (elA (sl v4) i49 1) [(S e54)]) (fun hg => (Own.cellsF (A := RS) (v := (sl v4)) (hs.own (i := 2) rfl) he55 (fun _ h => openT9 h)).sub 0 rfl) (fun _ hJ => (Run_load1 (v := (S e54)) Tryd.underlying9 rfl (O rfl) hJ)) rfl rfl rfl rfl <| WD_pure (fun _ => (Run_fieldAddr fo88_1 (O rfl))) rfl rfl rfl rfl <| WD_op (fun w => CellsAt w ⟨b14, 1, none⟩ [(S e12.2.1)]) ((hs.box (i := 4) rfl).part 1 rfl) (fun _ hJ => (Run_load1 (v := (S e12.2.1)) Tryd.underlying9 rfl (O rfl) (fun _ => hJ))) rfl rfl rfl rfl <| WD_pure (fun _ => (Run_eqS (O rfl) (O rfl))) rfl rfl rfl rfl <| ?_
      refine WD_nil ?_
      refine At_then ?_
      refine WC_cond (O rfl) (fun hc56 => ?_) (fun hc56 => ?_)
      ·
       replace hm := bif_t hc56 hm
       refine WC_seq <| WC_region ?_
       refine Wo (Run_move (O rfl)) rfl <| Wo (Run_move (O rfl)) rfl <| Wo (Run_nilP (O rfl)) rfl <| Wo (Run_fieldAddr fo123_1 (O rfl)) rfl <| Wo (Run_load1 (v := (.int .i64 at_)) Tryd.underlying3 rfl (O rfl) (fun _ => (hs.box (i := 0) rfl).part 1 rfl)) rfl <| Wo (Run_add (O rfl) Opd.c) rfl <| Wo (Run_nilP (O rfl)) rfl <| Wo (Run_fieldAddr fo123_1 (O rfl)) rfl <| ?_
       refine WS_store (us := [(.int .i64 (IntKind.i64.wrap (at_ + 1)))]) (vs' := [(sl v2), (.int .i64 (IntKind.i64.wrap (at_ + 1))), (sl v4), (.int .i64 bad), (.int .i64 place)]) hs 0 rfl ti3 (O rfl) (O rfl) rfl rfl rfl rfl rfl ?_
       intro w57 hs
       replace hs := Sat.n5 (Γ := Φ) hs rfl
       refine WL_nil <| At_then <| WC_seq <| WC_region ?_
       refine Wo (Run_move (O rfl)) rfl <| Wo (Run_fieldAddr fo88_3 (O rfl)) rfl <| Wo (Run_load1 (v := (.int .i64 e12.2.2.2)) Tryd.underlying3 rfl (O rfl) (fun _ => (hs.box (i := 4) rfl).part 3 rfl)) rfl <| Wo (Run_build (parts := [(0, (.const (.int .i64 2))), (1, (.tmp 110)), (2, (.tmp 112))]) (v := (.agg #[(.int .i64 2), (.int .i64 i49), (.int .i64 e12.2.2.2), (sl (none, 0, 0))])) (.cons Opd.c (.cons (O rfl) (.cons (O rfl) .nil))) (fun _ => by kernel_rfl)) rfl <| ?_
       refine WS_store (us := [(.int .i64 2), (.int .i64 i49), (.int .i64 e12.2.2.2), (sl (none, 0, 0))]) (vs' := [(.int .i64 2), (.int .i64 i49), (.int .i64 e12.2.2.2), (sl (none, 0, 0))]) hs 3 rfl ti57 (O rfl) (O rfl) rfl rfl rfl rfl rfl ?_
       intro w58 hs
       replace hs := Sat.n5 (Γ := Φ) hs rfl
       refine WL_nil <| At_then ?_
       refine WC_ret ?_
       refine At_blk_ret <| At_then_ret <| At_then_ret <| At_blk_ret <| At_then_ret <| At_then_ret <| ?_
       refine At_r1 rfl (ResIs.cA (vs := [(.int .i64 2), (.int .i64 i49), (.int .i64 e12.2.2.2), (sl (none, 0, 0))]) rfl Tryd.underlying57 rfl ti57 ((hs.box (i := 3) rfl).part 0 rfl) rfl) ?_
       replace hs := hs.addNil RExpr 57
       cases hm
       exact ⟨(none, 0, 0), [], rfl, (hs.re 6 [0, 1, 2, 3] rfl)⟩
      ·
       replace hm := bif_f hc56 hm
       refine WC_skip ?_
       refine At_blk_normal ?_
       refine At_then <| WC_region ?_
       refine Wo (Run_move (O rfl)) rfl <| Wo (Run_add (O rfl) Opd.c) rfl <| Wo (Run_assign (O rfl)) rfl <| ?_
       refine WL_nil ?_
       exact At_again (IntKind.i64.wrap (i49 + 1)) () hm (hs.re 5 [0, 1, 2, 3, 4] rfl) rfl
     ·
      replace hm := bif_f hc51 hm
      refine WC_exit ?_
      refine At_then_exit <| At_then_exit <| At_blk_here <| ?_
      refine At_then <| WC_seq <| WC_region ?_
      refine Wo (Run_move (O rfl)) rfl <| ?_
      obtain ⟨r59, hr60, hm⟩ := bind_some' hm
      refine WL_call (f := 66) (first := []) (cap := []) (xs := [(.tmp 114), (.const (.int .i64 3))]) (vs := [(.pointer (some ⟨b, 0, none⟩)), (.int .i64 3)]) (args := [(.pointer (some ⟨b, 0, none⟩)), (.int .i64 3)]) Tryd.call66 Opd.f (.cons (O rfl) (.cons Opd.c .nil)) rfl rfl (scrutinyref13_look_fail_s3_ok (hs.re 5 [0, 1, 2, 3, 4] rfl) hr60) ?_
      rintro _ w63 ⟨v61, R62, rfl, hs⟩
      replace hs := Sat.n6 (Γ := Φ) hs rfl
      refine WS_store (us := [(.int .i64 r59.1.op), (.int .i64 r59.1.n), (.int .i64 r59.1.at_), (sl v61)]) (vs' := [(.int .i64 r59.1.op), (.int .i64 r59.1.n), (.int .i64 r59.1.at_), (sl v61)]) hs 4 rfl ti57 (O rfl) (O rfl) rfl rfl rfl rfl rfl ?_
      intro w64 hs
      replace hs := Sat.n6 (Γ := Φ) hs rfl
      refine WL_nil <| At_then ?_
      refine WC_ret ?_
      refine At_then_ret <| ?_
      refine At_r1 rfl (ResIs.cA (vs := [(.int .i64 r59.1.op), (.int .i64 r59.1.n), (.int .i64 r59.1.at_), (sl v61)]) rfl Tryd.underlying57 rfl ti57 ((hs.box (i := 4) rfl).part 0 rfl) rfl) ?_
      cases hm
      exact ⟨v61, R62, rfl, (hs.re 6 [0, 1, 2, 3] rfl)⟩
    ·
     replace hm := bif_f hc47 hm
     refine WC_skip ?_
     refine At_then <| WC_seq <| WC_seq <| WC_region ?_
     refine Wo (Run_fieldAddr fo88_0 (O rfl)) rfl <| Wo (Run_load1 (v := (.int .i64 e12.1)) Tryd.underlying3 rfl (O rfl) (fun _ => (hs.box (i := 0) rfl).part 0 rfl)) rfl <| ?_
     obtain ⟨b65, e66, hm⟩ := letv_some hm
     refine Wo (Run.eqB (Run_neI (O rfl) Opd.c) e66) rfl <| Wo (Run_move (O rfl)) rfl <| Wg rfl guard_neg (Run_fieldAddr fo88_1 (O rfl)) rfl <| Wg rfl guard_neg (Run_load1 (v := (S e12.2.1)) Tryd.underlying9 rfl (Opd.g rfl id) (fun _ => (hs.box (i := 0) rfl).part 1 rfl)) rfl <| ?_
     obtain ⟨b67, e68, hm⟩ := letv_some hm
     refine Wg rfl guard_neg (Run.eqB (Run_neS (Opd.g rfl id) Opd.c) e68) rfl <| ?_
     obtain ⟨b69, e70, hm⟩ := letv_some hm
     refine Wo (Run.eqB (Run_or (O rfl) (Opd.g rfl id)) e70) rfl <| ?_
     refine WL_nil <| At_then ?_
     refine WC_cond (O rfl) (fun hc71 => ?_) (fun hc71 => ?_)
     ·
      replace hm := bif_t hc71 hm
      refine WC_seq <| WC_region ?_
      refine Wo (Run_move (O rfl)) rfl <| ?_
      obtain ⟨r72, hr73, hm⟩ := bind_some' hm
      refine WL_call (f := 66) (first := []) (cap := []) (xs := [(.tmp 124), (.const (.int .i64 2))]) (vs := [(.pointer (some ⟨b, 0, none⟩)), (.int .i64 2)]) (args := [(.pointer (some ⟨b, 0, none⟩)), (.int .i64 2)]) Tryd.call66 Opd.f (.cons (O rfl) (.cons Opd.c .nil)) rfl rfl (scrutinyref13_look_fail_s3_ok (hs.re 5 [2, 3, 4, 0, 1] rfl) hr73) ?_
      rintro _ w76 ⟨v74, R75, rfl, hs⟩
      replace hs := Sat.n6 (Γ := Φ) hs rfl
      refine WS_store (us := [(.int .i64 r72.1.op), (.int .i64 r72.1.n), (.int .i64 r72.1.at_), (sl v74)]) (vs' := [(.int .i64 r72.1.op), (.int .i64 r72.1.n), (.int .i64 r72.1.at_), (sl v74)]) hs 5 rfl ti57 (O rfl) (O rfl) rfl rfl rfl rfl rfl ?_
      intro w77 hs
      replace hs := Sat.n6 (Γ := Φ) hs rfl
      refine WL_nil <| At_then ?_
      refine WC_ret ?_
      refine At_then_ret <| ?_
      refine At_r1 rfl (ResIs.cA (vs := [(.int .i64 r72.1.op), (.int .i64 r72.1.n), (.int .i64 r72.1.at_), (sl v74)]) rfl Tryd.underlying57 rfl ti57 ((hs.box (i := 5) rfl).part 0 rfl) rfl) ?_
      cases hm
      exact ⟨v74, R75, rfl, (hs.re 6 [0, 1, 2, 3] rfl)⟩
     ·
      replace hm := bif_f hc71 hm
      refine WC_skip ?_
      refine At_then <| WC_seq <| WC_region ?_
      refine Wo (Run_move (O rfl)) rfl <| Wo (Run_move (O rfl)) rfl <| Wo (Run_nilP (O rfl)) rfl <| Wo (Run_fieldAddr fo123_1 (O rfl)) rfl <| Wo (Run_load1 (v := (.int .i64 at_)) Tryd.underlying3 rfl (O rfl) (fun _ => (hs.box (i := 2) rfl).part 1 rfl)) rfl <| Wo (Run_add (O rfl) Opd.c) rfl <| Wo (Run_nilP (O rfl)) rfl <| Wo (Run_fieldAddr fo123_1 (O rfl)) rfl <| ?_
      refine WS_store (us := [(.int .i64 (IntKind.i64.wrap (at_ + 1)))]) (vs' := [(sl v2), (.int .i64 (IntKind.i64.wrap (at_ + 1))), (sl v4), (.int .i64 bad), (.int .i64 place)]) hs 2 rfl ti3 (O rfl) (O rfl) rfl rfl rfl rfl rfl ?_
      intro w78 hs
      replace hs := Sat.n5 (Γ := Φ) hs rfl
      refine WL_nil <| At_then <| WC_seq <| WC_region ?_
      refine Wo (Run_move (O rfl)) rfl <| Wo (Run_move (O rfl)) rfl <| ?_
      obtain ⟨r79, hr80, hm⟩ := bind_some' hm
      refine WL_call (f := 62) (first := []) (cap := []) (xs := [(.tmp 134), (.const (.int .i64 1)), (.tmp 135)]) (vs := [(.pointer (some ⟨b, 0, none⟩)), (.int .i64 1), (.int .i64 deep)]) (args := [(.pointer (some ⟨b, 0, none⟩)), (.int .i64 1), (.int .i64 deep)]) Tryd.call62 Opd.f (.cons (O rfl) (.cons Opd.c (.cons (O rfl) .nil))) rfl rfl (ih_scrutinyref13_look_line_s3 (hs.re 5 [2, 3, 4, 0, 1] rfl) hr80) ?_
      rintro _ w83 ⟨v81, R82, rfl, hs⟩
      replace hs := Sat.n6 (Γ := Φ) hs rfl
      refine WS_alloc (zs := [(.int .i64 0), (.int .i64 0), (.int .i64 0), (sl (none, 0, 0))]) hs ti57 rfl rfl ?_
      intro b84 w85 hs
      replace hs := Sat.n7 (Γ := Φ) hs rfl
      refine WS_store (us := [(.int .i64 r79.1.op), (.int .i64 r79.1.n), (.int .i64 r79.1.at_), (sl v81)]) (vs' := [(.int .i64 r79.1.op), (.int .i64 r79.1.n), (.int .i64 r79.1.at_), (sl v81)]) hs 0 rfl ti57 (O rfl) (O rfl) rfl rfl rfl rfl rfl ?_
      intro w86 hs
      replace hs := Sat.n7 (Γ := Φ) hs rfl
      refine WL_nil <| At_then <| WC_seq <| WC_seq <| WC_region ?_
      refine Wo (Run_move (O rfl)) rfl <| Wo (Run_nilP (O rfl)) rfl <| Wo (Run_fieldAddr fo123_3 (O rfl)) rfl <| Wo (Run_load1 (v := (.int .i64 r79.2.2.1)) Tryd.underlying3 rfl (O rfl) (fun _ => (hs.box (i := 2) rfl).part 3 rfl)) rfl <| Wo (Run_neI (O rfl) Opd.c) rfl <| ?_
      refine WL_nil <| At_then ?_
      refine WC_cond (O rfl) (fun hc87 => ?_) (fun hc87 => ?_)
      ·
       replace hm := bif_t hc87 hm
       refine WC_seq <| WC_region ?_
       refine Wo (Run_build (parts := []) (v := (.agg #[(.int .i64 0), (.int .i64 0), (.int .i64 0), (sl (none, 0, 0))])) .nil (fun _ => by kernel_rfl)) rfl <| ?_
       refine WS_store (us := [(.int .i64 0), (.int .i64 0), (.int .i64 0), (sl (none, 0, 0))]) (vs' := [(.int .i64 0), (.int .i64 0), (.int .i64 0), (sl (none, 0, 0))]) hs 6 rfl ti57 (O rfl) (O rfl) rfl rfl rfl rfl rfl ?_
       intro w88 hs
       replace hs := Sat.n7 (Γ := Φ) hs rfl
       refine WL_nil <| At_then ?_
       refine WC_ret ?_
       refine At_then_ret <| ?_
       refine At_r1 rfl (ResIs.cA (vs := [(.int .i64 0), (.int .i64 0), (.int .i64 0), (sl (none, 0, 0))]) rfl Tryd.underlying57 rfl ti57 ((hs.box (i := 6) rfl).part 0 rfl) rfl) ?_
       replace hs := hs.addNil RExpr 57
       cases hm
       exact ⟨(none, 0, 0), [], rfl, (hs.re 8 [0, 3, 4, 5] rfl)⟩
      ·
       replace hm := bif_f hc87 hm
       refine WC_skip ?_
       refine At_then <| WC_seq <| WC_seq ?_
       refine WC_region_mixed [0, 1, 2, 4, 0, 16, 32, 64, 136, 256, 512, 1024, 2048, 4096, 12288, 20480, 36864, 4096, 135168, 266240, 528384, 1118208, 2101248, 4198400, 8392704, 16781312] (.q 0 0 (.q 1 1 (.q 2 3 (.q 3 7 (.q 4 15 (.q 5 31 (.q 6 63 (.q 7 127 (.q 8 255 (.q 9 511 (.q 10 1023 (.q 11 2047 (.q 12 4095 (.q 13 8191 (.q 14 16383 (.q 15 32767 (.q 16 65535 (.q 17 131071 (.q 18 262143 (.q 19 524287 (.q 20 1048575 (.q 21 2097151 (.q 22 4194303 (.q 23 8388607 (.q 24 16777215 (.q 25 33554431 .nil)))))))))))))))))))))))))) (by kernel_rfl) (by kernel_rfl) ?_
       intro w89 hx90
       replace hs := hs.ext hx90
       refine WD_pure (fun _ => (Run_move (O rfl))) rfl rfl rfl rfl <| WD_pure (fun _ => (Run_nilP (O rfl))) rfl rfl rfl rfl <| WD_pure (fun _ => (Run_fieldAddr fo123_0 (O rfl))) rfl rfl rfl rfl <| WD_op (fun w => CellsAt w ⟨b, 0, none⟩ [(sl v2)]) ((hs.box (i := 2) rfl).part 0 rfl) (fun _ hJ => (Run_load1 (v := (sl v2)) Tryd.underlying82 rfl (O rfl) (fun _ => hJ))) rfl rfl rfl rfl <| WD_pure (fun _ => (Run_move (O rfl))) rfl rfl rfl rfl <| WD_pure (fun _ => (Run_nilP (O rfl))) rfl rfl rfl rfl <| WD_pure (fun _ => (Run_fieldAddr fo123_1 (O rfl))) rfl rfl rfl rfl <| WD_op (fun w => CellsAt w ⟨b, 1, none⟩ [(.int .i64 r79.2.1)]) ((hs.box (i := 2) rfl).part 1 rfl) (fun _ hJ => (Run_load1 (v := (.int .i64 r79.2.1)) Tryd.underlying3 rfl (O rfl) (fun _ => hJ))) rfl rfl rfl rfl <| ?_
       obtain ⟨e91, he92, hm⟩ := bind_some' hm
       refine WD_pure (fun _ => (Run_idxAddr (p := (elA (sl v2) r79.2.1 4)) Tryd.underlying82 ti88 (O rfl) (O rfl) (fun hg => (Own.atA (A := (RP (RI .i64) (RP RS (RP (RI .i64) (RI .i64))))) (v := (sl v2)) (hs.own (i := 3) rfl) he92).1))) rfl rfl rfl rfl <| WD_pure (fun _ => (Run_fieldAddr fo88_0 (O rfl))) rfl rfl rfl rfl <| WD_op (fun w => true = true → CellsAt w ((elA (sl v2) r79.2.1 4).add 0) [(.int .i64 e91.1)]) (fun hg => ((Own.cellsF (A := (RP (RI .i64) (RP RS (RP (RI .i64) (RI .i64))))) (v := (sl v2)) (hs.own (i := 3) rfl) he92 (fun _ h => openT88 h)).sub (us := [(.int .i64 e91.1)]) 0 rfl).sub 0 rfl) (fun _ hJ => (Run_load1 (v := (.int .i64 e91.1)) Tryd.underlying3 rfl (O rfl) hJ)) rfl rfl rfl rfl <| ?_
       obtain ⟨b93, e94, hm⟩ := letv_some hm
       refine WD_pure (fun _ => (Run.eqB (Run_neI (O rfl) Opd.c) e94)) rfl rfl rfl rfl <| WD_pure (fun _ => (Run_move (O rfl))) rfl rfl rfl rfl <| WD_pureG rfl rfl rfl rfl guard_neg (fun _ => (Run_move (O rfl))) rfl rfl rfl <| WD_pureG rfl rfl rfl rfl guard_neg (fun _ => (Run_nilP (Opd.g rfl id))) rfl rfl rfl <| WD_pureG rfl rfl rfl rfl guard_neg (fun _ => (Run_fieldAddr fo123_0 (Opd.g rfl id))) rfl rfl rfl <| WD_opG (fun w => CellsAt w ⟨b, 0, none⟩ [(sl v2)]) ((hs.box (i := 2) rfl).part 0 rfl) rfl rfl rfl rfl guard_neg (fun _ hJ => (Run_load1 (v := (sl v2)) Tryd.underlying82 rfl (Opd.g rfl id) (fun _ => hJ))) rfl rfl rfl <| WD_pureG rfl rfl rfl rfl guard_neg (fun _ => (Run_move (O rfl))) rfl rfl rfl <| WD_pureG rfl rfl rfl rfl guard_neg (fun _ => (Run_nilP (Opd.g rfl id))) rfl rfl rfl <| ?_
       refine WD_pureG rfl rfl rfl rfl guard_neg (fun _ => (Run_fieldAddr fo123_1 (Opd.g rfl id))) rfl rfl rfl <| WD_opG (fun w => CellsAt w ⟨b, 1, none⟩ [(.int .i64 r79.2.1)]) ((hs.box (i := 2) rfl).part 1 rfl) rfl rfl rfl rfl guard_neg (fun _ hJ => (Run_load1 (v := (.int .i64 r79.2.1)) Tryd.underlying3 rfl (Opd.g rfl id) (fun _ => hJ))) rfl rfl rfl <| ?_
       obtain ⟨e95, he96, -, hm⟩ := callG_some hm
       refine WD_pureG rfl rfl rfl rfl guard_neg (fun _ => (Run_idxAddr (p := (elA (sl v2) r79.2.1 4)) Tryd.underlying82 ti88 (Opd.g rfl id) (Opd.g rfl id) (fun hg => (Own.atA (A := (RP (RI .i64) (RP RS (RP (RI .i64) (RI .i64))))) (v := (sl v2)) (hs.own (i := 3) rfl) (he96 hg)).1))) rfl rfl rfl <| WD_pureG rfl rfl rfl rfl guard_neg (fun _ => (Run_fieldAddr fo88_1 (Opd.g rfl id))) rfl rfl rfl <| WD_opG (fun w => (!b93) = true → CellsAt w ((elA (sl v2) r79.2.1 4).add 1) [(S e95.2.1)]) (fun hg => ((Own.cellsF (A := (RP (RI .i64) (RP RS (RP (RI .i64) (RI .i64))))) (v := (sl v2)) (hs.own (i := 3) rfl) (he96 hg) (fun _ h => openT88 h)).sub (us := [(S e95.2.1)]) 1 rfl).sub 0 rfl) rfl rfl rfl rfl guard_neg (fun _ hJ => (Run_load1 (v := (S e95.2.1)) Tryd.underlying9 rfl (Opd.g rfl id) hJ)) rfl rfl rfl <| ?_
       obtain ⟨b97, e98, hm⟩ := letv_some hm
       refine WD_pureG rfl rfl rfl rfl guard_neg (fun _ => (Run.eqB (Run_neS (Opd.g rfl id) Opd.c) e98)) rfl rfl rfl <| ?_
       obtain ⟨b99, e100, hm⟩ := letv_some hm
       refine WD_pure (fun _ => (Run.eqB (Run_or (O rfl) (Opd.g rfl id)) e100)) rfl rfl rfl rfl <| ?_
       refine WD_nil ?_
       refine At_then ?_
       refine WC_cond (O rfl) (fun hc101 => ?_) (fun hc101 => ?_)
       ·
        replace hm := bif_t hc101 hm
        refine WC_seq <| WC_region ?_
        refine Wo (Run_move (O rfl)) rfl <| ?_
        obtain ⟨r102, hr103, hm⟩ := bind_some' hm
        refine WL_call (f := 66) (first := []) (cap := []) (xs := [(.tmp 169), (.const (.int .i64 2))]) (vs := [(.pointer (some ⟨b, 0, none⟩)), (.int .i64 2)]) (args := [(.pointer (some ⟨b, 0, none⟩)), (.int .i64 2)]) Tryd.call66 Opd.f (.cons (O rfl) (.cons Opd.c .nil)) rfl rfl (scrutinyref13_look_fail_s3_ok (hs.re 7 [2, 3, 4, 0, 1, 5, 6] rfl) hr103) ?_
        rintro _ w106 ⟨v104, R105, rfl, hs⟩
        replace hs := Sat.n8 (Γ := Φ) hs rfl
        refine WS_store (us := [(.int .i64 r102.1.op), (.int .i64 r102.1.n), (.int .i64 r102.1.at_), (sl v104)]) (vs' := [(.int .i64 r102.1.op), (.int .i64 r102.1.n), (.int .i64 r102.1.at_), (sl v104)]) hs 7 rfl ti57 (O rfl) (O rfl) rfl rfl rfl rfl rfl ?_
        intro w107 hs
        replace hs := Sat.n8 (Γ := Φ) hs rfl
        refine WL_nil <| At_then ?_
        refine WC_ret ?_
        refine At_then_ret <| ?_
        refine At_r1 rfl (ResIs.cA (vs := [(.int .i64 r102.1.op), (.int .i64 r102.1.n), (.int .i64 r102.1.at_), (sl v104)]) rfl Tryd.underlying57 rfl ti57 ((hs.box (i := 7) rfl).part 0 rfl) rfl) ?_
        cases hm
        exact ⟨v104, R105, rfl, (hs.re 8 [0, 1, 2, 3] rfl)⟩
       ·
        replace hm := bif_f hc101 hm
        refine WC_skip ?_
        refine At_then <| WC_seq <| WC_region ?_
        refine Wo (Run_move (O rfl)) rfl <| Wo (Run_move (O rfl)) rfl <| Wo (Run_nilP (O rfl)) rfl <| Wo (Run_fieldAddr fo123_1 (O rfl)) rfl <| Wo (Run_load1 (v := (.int .i64 r79.2.1)) Tryd.underlying3 rfl (O rfl) (fun _ => (hs.box (i := 2) rfl).part 1 rfl)) rfl <| Wo (Run_add (O rfl) Opd.c) rfl <| Wo (Run_nilP (O rfl)) rfl <| Wo (Run_fieldAddr fo123_1 (O rfl)) rfl <| ?_
        refine WS_store (us := [(.int .i64 (IntKind.i64.wrap (r79.2.1 + 1)))]) (vs' := [(sl v2), (.int .i64 (IntKind.i64.wrap (r79.2.1 + 1))), (sl v4), (.int .i64 r79.2.2.1), (.int .i64 r79.2.2.2)]) hs 2 rfl ti3 (O rfl) (O rfl) rfl rfl rfl rfl rfl ?_
        intro w108 hs
        replace hs := Sat.n7 (Γ := Φ) hs rfl
        refine WL_nil <| At_then <| WC_seq <| WC_region ?_
        refine Wo (Run_loadA (vs := [(.int .i64 r79.1.op), (.int .i64 r79.1.n), (.int .i64 r79.1.at_), (sl v81)]) Tryd.underlying57 rfl ti57 (O rfl) (fun _ => (hs.box (i := 0) rfl).part 0 rfl) rfl) rfl <| ?_
        refine WS_store (us := [(.int .i64 r79.1.op), (.int .i64 r79.1.n), (.int .i64 r79.1.at_), (sl v81)]) (vs' := [(.int .i64 r79.1.op), (.int .i64 r79.1.n), (.int .i64 r79.1.at_), (sl v81)]) hs 6 rfl ti57 (O rfl) (O rfl) rfl rfl rfl rfl rfl ?_
        intro w109 hs
        replace hs := Sat.n7 (Γ := Φ) hs rfl
        refine WL_nil <| At_then ?_
        refine WC_ret ?_
        refine At_r1 rfl (ResIs.cA (vs := [(.int .i64 r79.1.op), (.int .i64 r79.1.n), (.int .i64 r79.1.at_), (sl v81)]) rfl Tryd.underlying57 rfl ti57 ((hs.box (i := 6) rfl).part 0 rfl) rfl) ?_
        cases hm
        exact ⟨v81, R82, rfl, (hs.re 7 [1, 2, 3, 4] rfl)⟩
end Go.Proofs.YtjdabjpjafkogaaDoor
namespace Go.Proofs.YtjdabjpjafkogaaDoor
open Go.Proofs
set_option maxRecDepth 100000 in
set_option maxHeartbeats 4000000 in
theorem scrutinyref13_op_ok {Φ : Ctx} {w : World} {t : (Int × Str × Int × Int)} {strength : Int} {r : Int} (hs : Sat (Φ) w) (hm : scrutinyref13_op t strength = some r) :
  CallsR Tryd.prog 68 [(.agg #[(.int .i64 t.1), (S t.2.1), (.int .i64 t.2.2.1), (.int .i64 t.2.2.2)]), (.int .i64 strength)] w (fun v w' => v = (.int .i64 r) ∧ Sat (Φ) w') := by
 refine CallsX_enter Tryd.func68 rfl Tryd.ntmps68 rfl ?_
 unfold scrutinyref13_op at hm
 refine WC_seq <| WC_region ?_
 refine WS_box (zs := [(.int .i64 t.1), (S t.2.1), (.int .i64 t.2.2.1), (.int .i64 t.2.2.2)]) hs (O rfl) rfl rfl ?_
 intro b3 w4 hs
 replace hs := Sat.n1 (Γ := Φ) hs rfl
 refine Wo (Run_assign Opd.c) rfl <| ?_
 refine WL_nil <| At_then <| WC_seq <| WC_seq <| WC_region ?_
 refine Wo (Run_fieldAddr fo88_0 (O rfl)) rfl <| Wo (Run_load1 (v := (.int .i64 t.1)) Tryd.underlying3 rfl (O rfl) (fun _ => (hs.box (i := 0) rfl).part 0 rfl)) rfl <| ?_
 obtain ⟨b5, e6, hm⟩ := letv_some hm
 refine Wo (Run.eqB (Run_neI (O rfl) Opd.c) e6) rfl <| Wo (Run_move (O rfl)) rfl <| WL_opG rfl rfl rfl rfl guard_pos (Run_fieldAddr fo88_0 (O rfl)) rfl rfl rfl <| WL_opG rfl rfl rfl rfl guard_pos (Run_load1 (v := (.int .i64 t.1)) Tryd.underlying3 rfl (Opd.g rfl id) (fun _ => (hs.box (i := 0) rfl).part 0 rfl)) rfl rfl rfl <| ?_
 obtain ⟨b7, e8, hm⟩ := letv_some hm
 refine WL_opG rfl rfl rfl rfl guard_pos (Run.eqB (Run_neI (Opd.g rfl id) Opd.c) e8) rfl rfl rfl <| ?_
 obtain ⟨b9, e10, hm⟩ := letv_some hm
 refine Wo (Run.eqB (Run_and (O rfl) (Opd.g rfl id)) e10) rfl <| ?_
 refine WL_nil <| At_then ?_
 refine WC_cond (O rfl) (fun hc11 => ?_) (fun hc11 => ?_)
 ·
  replace hm := bif_t hc11 hm
  refine WC_seq <| WC_region ?_
  refine Wo (Run_fieldAddr fo88_1 (O rfl)) rfl <| Wo (Run_load1 (v := (S t.2.1)) Tryd.underlying9 rfl (O rfl) (fun _ => (hs.box (i := 0) rfl).part 1 rfl)) rfl <| Wo (Run_assign (O rfl)) rfl <| ?_
  refine WL_nil <| At_then <| WC_seq <| WC_region ?_
  refine Wo (Run_move (O rfl)) rfl <| ?_
  refine WL_nil <| At_then ?_
  refine WC_block ?_
  refine WC_seq <| WC_region ?_
  refine Wo (Run_eqI (O rfl) Opd.c) rfl <| Wo (Run_assign (O rfl)) rfl <| ?_
  refine WL_nil <| At_then ?_
  refine WC_cond (O rfl) (fun hc12 => ?_) (fun hc12 => ?_)
  ·
   replace hm := bif_t hc12 hm
   refine WC_seq <| WC_region ?_
   refine Wo (Run_move (O rfl)) rfl <| Wo (Run_eqS (O rfl) Opd.c) rfl <| ?_
   refine WL_nil <| At_then ?_
   refine WC_cond (O rfl) (fun hc13 => ?_) (fun hc13 => ?_)
   ·
    replace hm := bif_t hc13 hm
    refine WC_seq <| WC_region ?_
    refine Wo (Run_assign Opd.c) rfl <| ?_
    refine WL_nil <| At_then ?_
    refine WC_ret ?_
    refine At_blk_ret <| At_then_ret <| ?_
    refine At_r1 rfl (ResIs.t rfl) ?_
    cases hm
    exact ⟨rfl, (hs.re 1 [] rfl)⟩
   ·
    replace hm := bif_f hc13 hm
    refine WC_skip ?_
    refine At_blk_normal ?_
    refine At_then <| WC_seq <| WC_region ?_
    refine Wo (Run_assign Opd.c) rfl <| ?_
    refine WL_nil <| At_then ?_
    refine WC_ret ?_
    refine At_r1 rfl (ResIs.t rfl) ?_
    cases hm
    exact ⟨rfl, (hs.re 1 [] rfl)⟩
  ·
   replace hm := bif_f hc12 hm
   refine WC_seq <| WC_region ?_
   refine Wo (Run_eqI (O rfl) Opd.c) rfl <| Wo (Run_assign (O rfl)) rfl <| ?_
   refine WL_nil <| At_then ?_
   refine WC_cond (O rfl) (fun hc14 => ?_) (fun hc14 => ?_)
   ·
    replace hm := bif_t hc14 hm
    refine WC_seq <| WC_region ?_
    refine Wo (Run_move (O rfl)) rfl <| Wo (Run_eqS (O rfl) Opd.c) rfl <| ?_
    refine WL_nil <| At_then ?_
    refine WC_cond (O rfl) (fun hc15 => ?_) (fun hc15 => ?_)
    ·
     replace hm := bif_t hc15 hm
     refine WC_seq <| WC_region ?_
     refine Wo (Run_assign Opd.c) rfl <| ?_
     refine WL_nil <| At_then ?_
     refine WC_ret ?_
     refine At_blk_ret <| At_then_ret <| ?_
     refine At_r1 rfl (ResIs.t rfl) ?_
     cases hm
     exact ⟨rfl, (hs.re 1 [] rfl)⟩
    ·
     replace hm := bif_f hc15 hm
     refine WC_skip ?_
     refine At_blk_normal ?_
     refine At_then <| WC_seq <| WC_region ?_
     refine Wo (Run_assign Opd.c) rfl <| ?_
     refine WL_nil <| At_then ?_
     refine WC_ret ?_
     refine At_r1 rfl (ResIs.t rfl) ?_
     cases hm
     exact ⟨rfl, (hs.re 1 [] rfl)⟩
   ·
    replace hm := bif_f hc14 hm
    refine WC_seq <| WC_region ?_
    refine Wo (Run_eqI (O rfl) Opd.c) rfl <| Wo (Run_assign (O rfl)) rfl <| ?_
    refine WL_nil <| At_then ?_
    refine WC_cond (O rfl) (fun hc16 => ?_) (fun hc16 => ?_)
    ·
     replace hm := bif_t hc16 hm
     refine WC_seq <| WC_region ?_
     refine Wo (Run_move (O rfl)) rfl <| Wo (Run_eqS (O rfl) Opd.c) rfl <| ?_
     refine WL_nil <| At_then ?_
     refine WC_cond (O rfl) (fun hc17 => ?_) (fun hc17 => ?_)
     ·
      replace hm := bif_t hc17 hm
      refine WC_seq <| WC_region ?_
      refine Wo (Run_assign Opd.c) rfl <| ?_
      refine WL_nil <| At_then ?_
      refine WC_ret ?_
      refine At_blk_ret <| At_then_ret <| ?_
      refine At_r1 rfl (ResIs.t rfl) ?_
      cases hm
      exact ⟨rfl, (hs.re 1 [] rfl)⟩
     ·
      replace hm := bif_f hc17 hm
      refine WC_skip ?_
      refine At_blk_normal ?_
      refine At_then <| WC_seq <| WC_region ?_
      refine Wo (Run_assign Opd.c) rfl <| ?_
      refine WL_nil <| At_then ?_
      refine WC_ret ?_
      refine At_r1 rfl (ResIs.t rfl) ?_
      cases hm
      exact ⟨rfl, (hs.re 1 [] rfl)⟩
    ·
     replace hm := bif_f hc16 hm
     refine WC_seq <| WC_region ?_
     refine Wo (Run_eqI (O rfl) Opd.c) rfl <| Wo (Run_assign (O rfl)) rfl <| ?_
     refine WL_nil <| At_then ?_
     refine WC_cond (O rfl) (fun hc18 => ?_) (fun hc18 => ?_)
     ·
      replace hm := bif_t hc18 hm
      refine WC_seq <| WC_region ?_
      refine Wo (Run_move (O rfl)) rfl <| Wo (Run_eqS (O rfl) Opd.c) rfl <| ?_
      refine WL_nil <| At_then ?_
      refine WC_cond (O rfl) (fun hc19 => ?_) (fun hc19 => ?_)
      ·
       replace hm := bif_t hc19 hm
       refine WC_seq <| WC_region ?_
       refine Wo (Run_assign Opd.c) rfl <| ?_
       refine WL_nil <| At_then ?_
       refine WC_ret ?_
       refine At_blk_ret <| At_then_ret <| ?_
       refine At_r1 rfl (ResIs.t rfl) ?_
       cases hm
       exact ⟨rfl, (hs.re 1 [] rfl)⟩
      ·
       replace hm := bif_f hc19 hm
       refine WC_skip ?_
       refine At_blk_normal ?_
       refine At_then <| WC_seq <| WC_region ?_
       refine Wo (Run_assign Opd.c) rfl <| ?_
       refine WL_nil <| At_then ?_
       refine WC_ret ?_
       refine At_r1 rfl (ResIs.t rfl) ?_
       cases hm
       exact ⟨rfl, (hs.re 1 [] rfl)⟩
     ·
      replace hm := bif_f hc18 hm
      refine WC_seq <| WC_region ?_
      refine Wo (Run_eqI (O rfl) Opd.c) rfl <| Wo (Run_assign (O rfl)) rfl <| ?_
      refine WL_nil <| At_then ?_
      refine WC_cond (O rfl) (fun hc20 => ?_) (fun hc20 => ?_)
      ·
       replace hm := bif_t hc20 hm
       refine WC_seq <| WC_seq <| WC_region ?_
       refine Wo (Run_move (O rfl)) rfl <| Wo (Run_eqS (O rfl) Opd.c) rfl <| ?_
       refine WL_nil <| At_then ?_
       refine WC_cond (O rfl) (fun hc21 => ?_) (fun hc21 => ?_)
       ·
        replace hm := bif_t hc21 hm
        refine WC_seq <| WC_region ?_
        refine Wo (Run_assign Opd.c) rfl <| ?_
        refine WL_nil <| At_then ?_
        refine WC_ret ?_
        refine At_then_ret <| At_blk_ret <| At_then_ret <| ?_
        refine At_r1 rfl (ResIs.t rfl) ?_
        cases hm
        exact ⟨rfl, (hs.re 1 [] rfl)⟩
       ·
        replace hm := bif_f hc21 hm
        refine WC_skip ?_
        refine At_then <| WC_seq <| WC_region ?_
        refine Wo (Run_move (O rfl)) rfl <| Wo (Run_eqS (O rfl) Opd.c) rfl <| ?_
        refine WL_nil <| At_then ?_
        refine WC_cond (O rfl) (fun hc22 => ?_) (fun hc22 => ?_)
        ·
         replace hm := bif_t hc22 hm
         refine WC_seq <| WC_region ?_
         refine Wo (Run_assign Opd.c) rfl <| ?_
         refine WL_nil <| At_then ?_
         refine WC_ret ?_
         refine At_blk_ret <| At_then_ret <| ?_
         refine At_r1 rfl (ResIs.t rfl) ?_
         cases hm
         exact ⟨rfl, (hs.re 1 [] rfl)⟩
        ·
         replace hm := bif_f hc22 hm
         refine WC_skip ?_
         refine At_blk_normal ?_
         refine At_then <| WC_seq <| WC_region ?_
         refine Wo (Run_assign Opd.c) rfl <| ?_
         refine WL_nil <| At_then ?_
         refine WC_ret ?_
         refine At_r1 rfl (ResIs.t rfl) ?_
         cases hm
         exact ⟨rfl, (hs.re 1 [] rfl)⟩
      ·
       replace hm := bif_f hc20 hm
       refine WC_seq <| WC_region ?_
       refine Wo (Run_eqI (O rfl) Opd.c) rfl <| Wo (Run_assign (O rfl)) rfl <| ?_
       refine WL_nil <| At_then ?_
       refine WC_cond (O rfl) (fun hc23 => ?_) (fun hc23 => ?_)
       ·
        replace hm := bif_t hc23 hm
        refine WC_seq <| WC_region ?_
        refine WS_lit (A := RS) (xs := [[61, 61], [33, 61], [60], [60, 61], [62], [62, 61]]) (zs := [(S [])]) (cells := [(S [61, 61]), (S [33, 61]), (S [60]), (S [60, 61]), (S [62]), (S [62, 61])]) (parts := [(0, (.const (.string ⟨#[61, 61]⟩))), (1, (.const (.string ⟨#[33, 61]⟩))), (2, (.const (.string ⟨#[60]⟩))), (3, (.const (.string ⟨#[60, 61]⟩))), (4, (.const (.string ⟨#[62]⟩))), (5, (.const (.string ⟨#[62, 61]⟩)))]) hs Tryd.underlying24 ti9 rfl rfl rfl (.cons Opd.c (.cons Opd.c (.cons Opd.c (.cons Opd.c (.cons Opd.c (.cons Opd.c .nil)))))) (by kernel_rfl) rfl (ARd.cons (A := RS) (c := [(S [61, 61])]) (x := [61, 61]) rfl (ARd.cons (A := RS) (c := [(S [33, 61])]) (x := [33, 61]) rfl (ARd.cons (A := RS) (c := [(S [60])]) (x := [60]) rfl (ARd.cons (A := RS) (c := [(S [60, 61])]) (x := [60, 61]) rfl (ARd.cons (A := RS) (c := [(S [62])]) (x := [62]) rfl (ARd.cons (A := RS) (c := [(S [62, 61])]) (x := [62, 61]) rfl ARd.nil)))))) rfl ?_
        intro b24 w25 hs
        replace hs := Sat.n2 (Γ := Φ) hs rfl
        refine Wo (Run_assign (O rfl)) rfl <| ?_
        refine WL_nil <| At_then <| WC_seq <| WC_region ?_
        refine Wo (Run_assign Opd.c) rfl <| ?_
        refine WL_nil <| At_then ?_
        refine WC_block ?_
        refine WC_loop (σ := Int) (γ := Unit) (F := (scrutinyref13_op_L1 t)) (N := FUEL) (s0 := 0) (r := r) (fun i27 (_ : Unit) w26 => Sat (osl RS 9 (sl (some ⟨b24, 0, none⟩, 6, 6)) ([[61, 61], [33, 61], [60], [60, 61], [62], [62, 61]] : List Str) [b24] :: Φ) w26) (fun i27 (_ : Unit) => [(5, true, (S t.2.1)), (6, true, (sl (some ⟨b24, 0, none⟩, 6, 6))), (7, true, (.int .i64 i27))]) hm () (hs.re 2 [0] rfl) rfl ?_
        rintro again28 i27 _ w26 hm hs
        unfold scrutinyref13_op_L1 at hm
        refine WC_seq <| WC_seq <| WC_region ?_
        refine Wo (Run_move (O rfl)) rfl <| Wo (Run_ltI (O rfl) Opd.c) rfl <| ?_
        refine WL_nil <| At_then ?_
        refine WC_cond (O rfl) (fun hc29 => ?_) (fun hc29 => ?_)
        ·
         replace hm := bif_t hc29 hm
         refine WC_skip ?_
         refine At_then <| WC_seq ?_
         refine WC_block ?_
         refine WC_seq <| WC_region ?_
         refine Wo (Run_move (O rfl)) rfl <| Wo (Run_move (O rfl)) rfl <| Wo (Run_move (O rfl)) rfl <| ?_
         obtain ⟨e30, he31, hm⟩ := bind_some' hm
         refine Wo (Run_idxAddr (p := (elA (sl (some ⟨b24, 0, none⟩, 6, 6)) i27 1)) Tryd.underlying24 ti9 (O rfl) (O rfl) (fun hg => (Own.atA (A := RS) (v := (sl (some ⟨b24, 0, none⟩, 6, 6))) (hs.own (i := 0) rfl) he31).1)) rfl <| Wo (Run_load1 (v := (S e30)) Tryd.underlying9 rfl (O rfl) (fun hg => (Own.cellsF (A := RS) (v := (sl (some ⟨b24, 0, none⟩, 6, 6))) (hs.own (i := 0) rfl) he31 (fun _ h => openT9 h)).sub 0 rfl)) rfl <| Wo (Run_eqS (O rfl) (O rfl)) rfl <| ?_
         refine WL_nil <| At_then ?_
         refine WC_cond (O rfl) (fun hc32 => ?_) (fun hc32 => ?_)
         ·
          replace hm := bif_t hc32 hm
          refine WC_seq <| WC_region ?_
          refine Wo (Run_move (O rfl)) rfl <| Wo (Run_add Opd.c (O rfl)) rfl <| Wo (Run_assign (O rfl)) rfl <| ?_
          refine WL_nil <| At_then ?_
          refine WC_ret ?_
          refine At_blk_ret <| At_then_ret <| At_then_ret <| At_blk_ret <| At_blk_ret <| At_then_ret <| ?_
          refine At_r1 rfl (ResIs.t rfl) ?_
          cases hm
          exact ⟨rfl, (hs.re 1 [] rfl)⟩
         ·
          replace hm := bif_f hc32 hm
          refine WC_skip ?_
          refine At_blk_normal ?_
          refine At_then <| WC_region ?_
          refine Wo (Run_move (O rfl)) rfl <| Wo (Run_add (O rfl) Opd.c) rfl <| Wo (Run_assign (O rfl)) rfl <| ?_
          refine WL_nil ?_
          exact At_again (IntKind.i64.wrap (i27 + 1)) () hm (hs.re 1 [0] rfl) rfl
        ·
         replace hm := bif_f hc29 hm
         refine WC_exit ?_
         refine At_then_exit <| At_then_exit <| At_blk_here <| ?_
         refine At_blk_normal ?_
         refine At_then <| WC_seq <| WC_region ?_
         refine Wo (Run_assign Opd.c) rfl <| ?_
         refine WL_nil <| At_then ?_
         refine WC_ret ?_
         refine At_r1 rfl (ResIs.t rfl) ?_
         cases hm
         exact ⟨rfl, (hs.re 1 [] rfl)⟩
       ·
        replace hm := bif_f hc23 hm
        refine WC_seq <| WC_region ?_
        refine Wo (Run_eqI (O rfl) Opd.c) rfl <| Wo (Run_assign (O rfl)) rfl <| ?_
        refine WL_nil <| At_then ?_
        refine WC_cond (O rfl) (fun hc33 => ?_) (fun hc33 => ?_)
        ·
         replace hm := bif_t hc33 hm
         refine WC_seq <| WC_seq <| WC_region ?_
         refine Wo (Run_move (O rfl)) rfl <| Wo (Run_eqS (O rfl) Opd.c) rfl <| ?_
         refine WL_nil <| At_then ?_
         refine WC_cond (O rfl) (fun hc34 => ?_) (fun hc34 => ?_)
         ·
          replace hm := bif_t hc34 hm
          refine WC_seq <| WC_region ?_
          refine Wo (Run_assign Opd.c) rfl <| ?_
          refine WL_nil <| At_then ?_
          refine WC_ret ?_
          refine At_then_ret <| At_blk_ret <| At_then_ret <| ?_
          refine At_r1 rfl (ResIs.t rfl) ?_
          cases hm
          exact ⟨rfl, (hs.re 1 [] rfl)⟩
         ·
          replace hm := bif_f hc34 hm
          refine WC_skip ?_
          refine At_then <| WC_seq <| WC_region ?_
          refine Wo (Run_move (O rfl)) rfl <| Wo (Run_eqS (O rfl) Opd.c) rfl <| ?_
          refine WL_nil <| At_then ?_
          refine WC_cond (O rfl) (fun hc35 => ?_) (fun hc35 => ?_)
          ·
           replace hm := bif_t hc35 hm
           refine WC_seq <| WC_region ?_
           refine Wo (Run_assign Opd.c) rfl <| ?_
           refine WL_nil <| At_then ?_
           refine WC_ret ?_
           refine At_blk_ret <| At_then_ret <| ?_
           refine At_r1 rfl (ResIs.t rfl) ?_
           cases hm
           exact ⟨rfl, (hs.re 1 [] rfl)⟩
          ·
           replace hm := bif_f hc35 hm
           refine WC_skip ?_
           refine At_blk_normal ?_
           refine At_then <| WC_seq <| WC_region ?_
           refine Wo (Run_assign Opd.c) rfl <| ?_
           refine WL_nil <| At_then ?_
           refine WC_ret ?_
           refine At_r1 rfl (ResIs.t rfl) ?_
           cases hm
           exact ⟨rfl, (hs.re 1 [] rfl)⟩
        ·
         replace hm := bif_f hc33 hm
         refine WC_seq <| WC_region ?_
         refine Wo (Run_eqI (O rfl) Opd.c) rfl <| Wo (Run_assign (O rfl)) rfl <| ?_
         refine WL_nil <| At_then ?_
         refine WC_cond (O rfl) (fun hc36 => ?_) (fun hc36 => ?_)
         ·
          replace hm := bif_t hc36 hm
          refine WC_seq <| WC_region ?_
          refine Wo (Run_move (O rfl)) rfl <| Wo (Run_eqS (O rfl) Opd.c) rfl <| ?_
          refine WL_nil <| At_then ?_
          refine WC_cond (O rfl) (fun hc37 => ?_) (fun hc37 => ?_)
          ·
           replace hm := bif_t hc37 hm
           refine WC_seq <| WC_region ?_
           refine Wo (Run_assign Opd.c) rfl <| ?_
           refine WL_nil <| At_then ?_
           refine WC_ret ?_
           refine At_blk_ret <| At_then_ret <| ?_
           refine At_r1 rfl (ResIs.t rfl) ?_
           cases hm
           exact ⟨rfl, (hs.re 1 [] rfl)⟩
          ·
           replace hm := bif_f hc37 hm
           refine WC_skip ?_
           refine At_blk_normal ?_
           refine At_then <| WC_seq <| WC_region ?_
           refine Wo (Run_assign Opd.c) rfl <| ?_
           refine WL_nil <| At_then ?_
           refine WC_ret ?_
           refine At_r1 rfl (ResIs.t rfl) ?_
           cases hm
           exact ⟨rfl, (hs.re 1 [] rfl)⟩
         ·
          replace hm := bif_f hc36 hm
          refine WC_skip ?_
          refine At_blk_normal ?_
          refine At_then <| WC_seq <| WC_region ?_
          refine Wo (Run_assign Opd.c) rfl <| ?_
          refine WL_nil <| At_then ?_
          refine WC_ret ?_
          refine At_r1 rfl (ResIs.t rfl) ?_
          cases hm
          exact ⟨rfl, (hs.re 1 [] rfl)⟩
 ·
  replace hm := bif_f hc11 hm
  refine WC_skip ?_
  refine At_then <| WC_seq <| WC_region ?_
  refine Wo (Run_assign Opd.c) rfl <| ?_
  refine WL_nil <| At_then ?_
  refine WC_ret ?_
  refine At_r1 rfl (ResIs.t rfl) ?_
  cases hm
  exact ⟨rfl, (hs.re 1 [] rfl)⟩
end Go.Proofs.YtjdabjpjafkogaaDoor
namespace Go.Proofs.YtjdabjpjafkogaaDoor
open Go.Proofs
set_option maxRecDepth 100000 in
set_option maxHeartbeats 4000000 in
theorem scrutinyref13_look_line_s3_F_ok {k_scrutinyref13_look_line_s3 : (Int × Int × (List (Int × Str × Int × Int)) × Int × (List Str) × Int × Int) → Option (Ex × Int × Int × Int)} (ih_scrutinyref13_look_line_s3 : ∀ {Φ : Ctx} {w : World} {strength : Int} {deep : Int} {l : (List (Int × Str × Int × Int))} {at_ : Int} {names : (List Str)} {bad : Int} {place : Int} {b : Nat} {v2 : SLV} {R : List Nat} {v4 : SLV} {R5 : List Nat} {r : (Ex × Int × Int × Int)}, Sat (box b 123 [(sl v2), (.int .i64 at_), (sl v4), (.int .i64 bad), (.int .i64 place)] :: osl (RP (RI .i64) (RP RS (RP (RI .i64) (RI .i64)))) 88 (sl v2) l R :: osl RS 9 (sl v4) names R5 :: Φ) w → k_scrutinyref13_look_line_s3 (strength, deep, l, at_, names, bad, place) = some r → CallsR Tryd.prog 62 [(.pointer (some ⟨b, 0, none⟩)), (.int .i64 strength), (.int .i64 deep)] w (fun v w' => ∃ v3 : SLV, ∃ R4 : List Nat, v = (.agg #[(.int .i64 r.1.op), (.int .i64 r.1.n), (.int .i64 r.1.at_), (sl v3)]) ∧ Sat (osl RExpr 57 (sl v3) r.1.l R4 :: box b 123 [(sl v2), (.int .i64 r.2.1), (sl v4), (.int .i64 r.2.2.1), (.int .i64 r.2.2.2)] :: osl (RP (RI .i64) (RP RS (RP (RI .i64) (RI .i64)))) 88 (sl v2) l R :: osl RS 9 (sl v4) names R5 :: Φ) w')) {Φ : Ctx} {w : World} {strength : Int} {deep : Int} {l : (List (Int × Str × Int × Int))} {at_ : Int} {names : (List Str)} {bad : Int} {place : Int} {b : Nat} {v2 : SLV} {R : List Nat} {v4 : SLV} {R5 : List Nat} {r : (Ex × Int × Int × Int)} (hs : Sat (box b 123 [(sl v2), (.int .i64 at_), (sl v4), (.int .i64 bad), (.int .i64 place)] :: osl (RP (RI .i64) (RP RS (RP (RI .i64) (RI .i64)))) 88 (sl v2) l R :: osl RS 9 (sl v4) names R5 :: Φ) w) (hm : scrutinyref13_look_line_s3_F k_scrutinyref13_look_line_s3 strength deep l at_ names bad place = some r) :
  CallsR Tryd.prog 62 [(.pointer (some ⟨b, 0, none⟩)), (.int .i64 strength), (.int .i64 deep)] w (fun v w' => ∃ v3 : SLV, ∃ R4 : List Nat, v = (.agg #[(.int .i64 r.1.op), (.int .i64 r.1.n), (.int .i64 r.1.at_), (sl v3)]) ∧ Sat (osl RExpr 57 (sl v3) r.1.l R4 :: box b 123 [(sl v2), (.int .i64 r.2.1), (sl v4), (.int .i64 r.2.2.1), (.int .i64 r.2.2.2)] :: osl (RP (RI .i64) (RP RS (RP (RI .i64) (RI .i64)))) 88 (sl v2) l R :: osl RS 9 (sl v4) names R5 :: Φ) w') := by
 refine CallsX_enter Tryd.func62 rfl Tryd.ntmps62 rfl ?_
 unfold scrutinyref13_look_line_s3_F at hm
 refine WC_seq <| WC_region ?_
 refine WS_alloc (zs := [(.int .i64 0), (.int .i64 0), (.int .i64 0), (sl (none, 0, 0))]) hs ti57 rfl rfl ?_
 intro b8 w9 hs
 replace hs := Sat.n4 (Γ := Φ) hs rfl
 refine WL_nil <| At_then <| WC_seq <| WC_seq <| WC_region ?_
 refine Wo (Run_move (O rfl)) rfl <| Wo (Run_nilP (O rfl)) rfl <| Wo (Run_fieldAddr fo123_3 (O rfl)) rfl <| Wo (Run_load1 (v := (.int .i64 bad)) Tryd.underlying3 rfl (O rfl) (fun _ => (hs.box (i := 1) rfl).part 3 rfl)) rfl <| Wo (Run_neI (O rfl) Opd.c) rfl <| ?_
 refine WL_nil <| At_then ?_
 refine WC_cond (O rfl) (fun hc10 => ?_) (fun hc10 => ?_)
 ·
  replace hm := bif_t hc10 hm
  refine WC_seq <| WC_region ?_
  refine Wo (Run_build (parts := []) (v := (.agg #[(.int .i64 0), (.int .i64 0), (.int .i64 0), (sl (none, 0, 0))])) .nil (fun _ => by kernel_rfl)) rfl <| ?_
  refine WS_store (us := [(.int .i64 0), (.int .i64 0), (.int .i64 0), (sl (none, 0, 0))]) (vs' := [(.int .i64 0), (.int .i64 0), (.int .i64 0), (sl (none, 0, 0))]) hs 0 rfl ti57 (O rfl) (O rfl) rfl rfl rfl rfl rfl ?_
  intro w11 hs
  replace hs := Sat.n4 (Γ := Φ) hs rfl
  refine WL_nil <| At_then ?_
  refine WC_ret ?_
  refine At_then_ret <| ?_
  refine At_r1 rfl (ResIs.cA (vs := [(.int .i64 0), (.int .i64 0), (.int .i64 0), (sl (none, 0, 0))]) rfl Tryd.underlying57 rfl ti57 ((hs.box (i := 0) rfl).part 0 rfl) rfl) ?_
  replace hs := hs.addNil RExpr 57
  cases hm
  exact ⟨(none, 0, 0), [], rfl, (hs.re 5 [0, 2, 3, 4] rfl)⟩
 ·
  replace hm := bif_f hc10 hm
  refine WC_skip ?_
  refine At_then <| WC_seq <| WC_region ?_
  refine Wo (Run_move (O rfl)) rfl <| ?_
  obtain ⟨r12, hr13, hm⟩ := bind_some' hm
  refine WL_call (f := 65) (first := []) (cap := []) (xs := [(.tmp 23)]) (vs := [(.int .i64 strength)]) (args := [(.int .i64 strength)]) Tryd.call65 Opd.f (.cons (O rfl) .nil) rfl rfl (scrutinyref13_counts_ok (hs.re 4 [0, 1, 2, 3] rfl) hr13) ?_
  rintro _ w14 ⟨rfl, hs⟩
  replace hs := Sat.n4 (Γ := Φ) hs rfl
  refine Wo (Run_assign (O rfl)) rfl <| ?_
  refine WL_nil <| At_then ?_
  refine WC_seq_cut (γ := Int) (fun deep16 w15 => scrutinyref13_look_line_s3_K1 k_scrutinyref13_look_line_s3 strength l at_ names bad place r12 deep16 = some r ∧ Sat (box b 123 [(sl v2), (.int .i64 at_), (sl v4), (.int .i64 bad), (.int .i64 place)] :: osl (RP (RI .i64) (RP RS (RP (RI .i64) (RI .i64)))) 88 (sl v2) l R :: osl RS 9 (sl v4) names R5 :: box b8 57 [(.int .i64 0), (.int .i64 0), (.int .i64 0), (sl (none, 0, 0))] :: Φ) w15) (fun deep16 => [(0, true, (.pointer (some ⟨b, 0, none⟩))), (1, true, (.int .i64 strength)), (2, true, (.int .i64 deep16)), (6, true, (.pointer (some ⟨b8, 0, none⟩))), (7, true, (.bool r12))]) ?_ ?_
  ·
   rintro deep16 w15 ⟨hm, hs⟩
   unfold scrutinyref13_look_line_s3_K1 at hm
   refine WC_seq <| WC_seq <| WC_region ?_
   refine Wo (Run_move (O rfl)) rfl <| Wo (Run_move (O rfl)) rfl <| WL_opG rfl rfl rfl rfl guard_pos (Run_move (O rfl)) rfl rfl rfl <| ?_
   obtain ⟨b17, e18, hm⟩ := letv_some hm
   refine WL_opG rfl rfl rfl rfl guard_pos (Run.eqB (Run_gtI (Opd.g rfl id) Opd.c) e18) rfl rfl rfl <| ?_
   obtain ⟨b19, e20, hm⟩ := letv_some hm
   refine Wo (Run.eqB (Run_and (O rfl) (Opd.g rfl id)) e20) rfl <| ?_
   refine WL_nil <| At_then ?_
   refine WC_cond (O rfl) (fun hc21 => ?_) (fun hc21 => ?_)
   ·
    replace hm := bif_t hc21 hm
    refine WC_seq <| WC_region ?_
    refine Wo (Run_move (O rfl)) rfl <| ?_
    obtain ⟨r22, hr23, hm⟩ := bind_some' hm
    refine WL_call (f := 66) (first := []) (cap := []) (xs := [(.tmp 33), (.const (.int .i64 9))]) (vs := [(.pointer (some ⟨b, 0, none⟩)), (.int .i64 9)]) (args := [(.pointer (some ⟨b, 0, none⟩)), (.int .i64 9)]) Tryd.call66 Opd.f (.cons (O rfl) (.cons Opd.c .nil)) rfl rfl (scrutinyref13_look_fail_s3_ok (hs.re 4 [0, 1, 2, 3] rfl) hr23) ?_
    rintro _ w26 ⟨v24, R25, rfl, hs⟩
    replace hs := Sat.n5 (Γ := Φ) hs rfl
    refine WS_store (us := [(.int .i64 r22.1.op), (.int .i64 r22.1.n), (.int .i64 r22.1.at_), (sl v24)]) (vs' := [(.int .i64 r22.1.op), (.int .i64 r22.1.n), (.int .i64 r22.1.at_), (sl v24)]) hs 4 rfl ti57 (O rfl) (O rfl) rfl rfl rfl rfl rfl ?_
    intro w27 hs
    replace hs := Sat.n5 (Γ := Φ) hs rfl
    refine WL_nil <| At_then ?_
    refine WC_ret ?_
    refine At_then_ret <| ?_
    refine At_r1 rfl (ResIs.cA (vs := [(.int .i64 r22.1.op), (.int .i64 r22.1.n), (.int .i64 r22.1.at_), (sl v24)]) rfl Tryd.underlying57 rfl ti57 ((hs.box (i := 4) rfl).part 0 rfl) rfl) ?_
    cases hm
    exact ⟨v24, R25, rfl, (hs.re 5 [0, 1, 2, 3] rfl)⟩
   ·
    replace hm := bif_f hc21 hm
    refine WC_skip ?_
    refine At_then <| WC_seq ?_
    refine WC_region_mixed [0, 1, 2, 4, 0, 16, 32, 64, 136, 256, 0, 2047] (.q 0 0 (.q 1 1 (.q 2 3 (.q 3 7 (.q 4 15 (.q 5 31 (.q 6 63 (.q 7 127 (.q 8 255 (.q 9 511 (.l 10 1023 (.l 11 2047 .nil)))))))))))) (by kernel_rfl) (by kernel_rfl) ?_
    intro w28 hx29
    replace hs := hs.ext hx29
    refine WD_pure (fun _ => (Run_move (O rfl))) rfl rfl rfl rfl <| WD_pure (fun _ => (Run_nilP (O rfl))) rfl rfl rfl rfl <| WD_pure (fun _ => (Run_fieldAddr fo123_0 (O rfl))) rfl rfl rfl rfl <| WD_op (fun w => CellsAt w ⟨b, 0, none⟩ [(sl v2)]) ((hs.box (i := 0) rfl).part 0 rfl) (fun _ hJ => (Run_load1 (v := (sl v2)) Tryd.underlying82 rfl (O rfl) (fun _ => hJ))) rfl rfl rfl rfl <| WD_pure (fun _ => (Run_move (O rfl))) rfl rfl rfl rfl <| WD_pure (fun _ => (Run_nilP (O rfl))) rfl rfl rfl rfl <| WD_pure (fun _ => (Run_fieldAddr fo123_1 (O rfl))) rfl rfl rfl rfl <| WD_op (fun w => CellsAt w ⟨b, 1, none⟩ [(.int .i64 at_)]) ((hs.box (i := 0) rfl).part 1 rfl) (fun _ hJ => (Run_load1 (v := (.int .i64 at_)) Tryd.underlying3 rfl (O rfl) (fun _ => hJ))) rfl rfl rfl rfl <| ?_
    obtain ⟨e30, he31, hm⟩ := bind_some' hm
    refine WD_pure (fun _ => (Run_idxAddr (p := (elA (sl v2) at_ 4)) Tryd.underlying82 ti88 (O rfl) (O rfl) (fun hg => (Own.atA (A := (RP (RI .i64) (RP RS (RP (RI .i64) (RI .i64))))) (v := (sl v2)) (hs.own (i := 1) rfl) he31).1))) rfl rfl rfl rfl <| WD_op (fun w => true = true → CellsAt w (elA (sl v2) at_ 4) [(.int .i64 e30.1), (S e30.2.1), (.int .i64 e30.2.2.1), (.int .i64 e30.2.2.2)]) (fun hg => (Own.cellsF (A := (RP (RI .i64) (RP RS (RP (RI .i64) (RI .i64))))) (v := (sl v2)) (hs.own (i := 1) rfl) he31 (fun _ h => openT88 h)).sub 0 rfl) (fun _ hJ => (Run_loadA (vs := [(.int .i64 e30.1), (S e30.2.1), (.int .i64 e30.2.2.1), (.int .i64 e30.2.2.2)]) Tryd.underlying88 rfl ti88 (O rfl) hJ rfl)) rfl rfl rfl rfl <| ?_
    refine WD_loud (pend' := [(9, fun w => true = true → CellsAt w (elA (sl v2) at_ 4) [(.int .i64 e30.1), (S e30.2.1), (.int .i64 e30.2.2.1), (.int .i64 e30.2.2.2)]), (7, fun w => CellsAt w ⟨b, 1, none⟩ [(.int .i64 at_)]), (3, fun w => CellsAt w ⟨b, 0, none⟩ [(sl v2)])]) rfl (by kernel_rfl) ?_
    refine WS_alloc (zs := [(.int .i64 0), (S []), (.int .i64 0), (.int .i64 0)]) hs ti88 rfl rfl ?_
    intro b32 w33 hs
    replace hs := Sat.n5 (Γ := Φ) hs rfl
    refine WL_nil ?_
    refine At_QK (allJ_cons (fun hg => (Own.cellsF (A := (RP (RI .i64) (RP RS (RP (RI .i64) (RI .i64))))) (v := (sl v2)) (hs.own (i := 2) rfl) he31 (fun _ h => openT88 h)).sub 0 rfl) (allJ_cons ((hs.box (i := 1) rfl).part 1 rfl) (allJ_cons ((hs.box (i := 1) rfl).part 0 rfl) allJ_nil))) ?_
    refine WD_loud (pend' := []) rfl (by kernel_rfl) ?_
    refine WS_store (us := [(.int .i64 e30.1), (S e30.2.1), (.int .i64 e30.2.2.1), (.int .i64 e30.2.2.2)]) (vs' := [(.int .i64 e30.1), (S e30.2.1), (.int .i64 e30.2.2.1), (.int .i64 e30.2.2.2)]) hs 0 rfl ti88 (O rfl) (O rfl) rfl rfl rfl rfl rfl ?_
    intro w34 hs
    replace hs := Sat.n5 (Γ := Φ) hs rfl
    refine WL_nil ?_
    refine At_QK allJ_nil ?_
    refine WD_nil ?_
    refine At_then <| WC_seq <| WC_seq <| WC_region ?_
    refine Wo (Run_move (O rfl)) rfl <| Wo (Run_eqI (O rfl) Opd.c) rfl <| ?_
    refine WL_nil <| At_then ?_
    refine WC_cond (O rfl) (fun hc35 => ?_) (fun hc35 => ?_)
    ·
     replace hm := bif_t hc35 hm
     refine WC_seq <| WC_region ?_
     refine Wo (Run_assign Opd.c) rfl <| ?_
     refine WL_nil <| At_then ?_
     refine WC_seq_cut (γ := Int) (fun k37 w36 => scrutinyref13_look_line_s3_K2 k_scrutinyref13_look_line_s3 l at_ names bad place deep16 e30 k37 = some r ∧ Sat (box b 123 [(sl v2), (.int .i64 at_), (sl v4), (.int .i64 bad), (.int .i64 place)] :: osl (RP (RI .i64) (RP RS (RP (RI .i64) (RI .i64)))) 88 (sl v2) l R :: osl RS 9 (sl v4) names R5 :: box b8 57 [(.int .i64 0), (.int .i64 0), (.int .i64 0), (sl (none, 0, 0))] :: box b32 88 [(.int .i64 e30.1), (S e30.2.1), (.int .i64 e30.2.2.1), (.int .i64 e30.2.2.2)] :: Φ) w36) (fun k37 => [(0, true, (.pointer (some ⟨b, 0, none⟩))), (2, true, (.int .i64 deep16)), (6, true, (.pointer (some ⟨b8, 0, none⟩))), (8, true, (.pointer (some ⟨b32, 0, none⟩))), (9, true, (.int .i64 k37))]) ?_ ?_
     ·
      rintro k37 w36 ⟨hm, hs⟩
      unfold scrutinyref13_look_line_s3_K2 at hm
      refine WC_seq_cut (γ := Int) (fun k39 w38 => scrutinyref13_look_line_s3_K3 k_scrutinyref13_look_line_s3 l at_ names bad place deep16 e30 k39 = some r ∧ Sat (box b 123 [(sl v2), (.int .i64 at_), (sl v4), (.int .i64 bad), (.int .i64 place)] :: osl (RP (RI .i64) (RP RS (RP (RI .i64) (RI .i64)))) 88 (sl v2) l R :: osl RS 9 (sl v4) names R5 :: box b8 57 [(.int .i64 0), (.int .i64 0), (.int .i64 0), (sl (none, 0, 0))] :: box b32 88 [(.int .i64 e30.1), (S e30.2.1), (.int .i64 e30.2.2.1), (.int .i64 e30.2.2.2)] :: Φ) w38) (fun k39 => [(0, true, (.pointer (some ⟨b, 0, none⟩))), (2, true, (.int .i64 deep16)), (6, true, (.pointer (some ⟨b8, 0, none⟩))), (8, true, (.pointer (some ⟨b32, 0, none⟩))), (9, true, (.int .i64 k39))]) ?_ ?_
      ·
       rintro k39 w38 ⟨hm, hs⟩
       unfold scrutinyref13_look_line_s3_K3 at hm
       refine WC_seq_cut (γ := Int) (fun k41 w40 => scrutinyref13_look_line_s3_K4 k_scrutinyref13_look_line_s3 l at_ names bad place deep16 e30 k41 = some r ∧ Sat (box b 123 [(sl v2), (.int .i64 at_), (sl v4), (.int .i64 bad), (.int .i64 place)] :: osl (RP (RI .i64) (RP RS (RP (RI .i64) (RI .i64)))) 88 (sl v2) l R :: osl RS 9 (sl v4) names R5 :: box b8 57 [(.int .i64 0), (.int .i64 0), (.int .i64 0), (sl (none, 0, 0))] :: box b32 88 [(.int .i64 e30.1), (S e30.2.1), (.int .i64 e30.2.2.1), (.int .i64 e30.2.2.2)] :: Φ) w40) (fun k41 => [(0, true, (.pointer (some ⟨b, 0, none⟩))), (2, true, (.int .i64 deep16)), (6, true, (.pointer (some ⟨b8, 0, none⟩))), (8, true, (.pointer (some ⟨b32, 0, none⟩))), (9, true, (.int .i64 k41))]) ?_ ?_
       ·
        rintro k41 w40 ⟨hm, hs⟩
        unfold scrutinyref13_look_line_s3_K4 at hm
        refine WC_seq_cut (γ := Int) (fun k43 w42 => scrutinyref13_look_line_s3_K5 k_scrutinyref13_look_line_s3 l at_ names bad place deep16 e30 k43 = some r ∧ Sat (box b 123 [(sl v2), (.int .i64 at_), (sl v4), (.int .i64 bad), (.int .i64 place)] :: osl (RP (RI .i64) (RP RS (RP (RI .i64) (RI .i64)))) 88 (sl v2) l R :: osl RS 9 (sl v4) names R5 :: box b8 57 [(.int .i64 0), (.int .i64 0), (.int .i64 0), (sl (none, 0, 0))] :: box b32 88 [(.int .i64 e30.1), (S e30.2.1), (.int .i64 e30.2.2.1), (.int .i64 e30.2.2.2)] :: Φ) w42) (fun k43 => [(0, true, (.pointer (some ⟨b, 0, none⟩))), (2, true, (.int .i64 deep16)), (6, true, (.pointer (some ⟨b8, 0, none⟩))), (8, true, (.pointer (some ⟨b32, 0, none⟩))), (9, true, (.int .i64 k43))]) ?_ ?_
        ·
         rintro k43 w42 ⟨hm, hs⟩
         unfold scrutinyref13_look_line_s3_K5 at hm
         refine WC_seq <| WC_seq <| WC_region ?_
         refine Wo (Run_move (O rfl)) rfl <| Wo (Run_eqI (O rfl) Opd.c) rfl <| ?_
         refine WL_nil <| At_then ?_
         refine WC_cond (O rfl) (fun hc44 => ?_) (fun hc44 => ?_)
         ·
          replace hm := bif_t hc44 hm
          refine WC_seq <| WC_region ?_
          refine Wo (Run_move (O rfl)) rfl <| Wo (Run_move (O rfl)) rfl <| ?_
          obtain ⟨r45, hr46, hm⟩ := bind_some' hm
          refine WL_call (f := 62) (first := []) (cap := []) (xs := [(.tmp 81), (.const (.int .i64 7)), (.tmp 82)]) (vs := [(.pointer (some ⟨b, 0, none⟩)), (.int .i64 7), (.int .i64 deep16)]) (args := [(.pointer (some ⟨b, 0, none⟩)), (.int .i64 7), (.int .i64 deep16)]) Tryd.call62 Opd.f (.cons (O rfl) (.cons Opd.c (.cons (O rfl) .nil))) rfl rfl (ih_scrutinyref13_look_line_s3 (hs.re 5 [0, 1, 2, 3, 4] rfl) hr46) ?_
          rintro _ w49 ⟨v47, R48, rfl, hs⟩
          replace hs := Sat.n6 (Γ := Φ) hs rfl
          refine WS_store (us := [(.int .i64 r45.1.op), (.int .i64 r45.1.n), (.int .i64 r45.1.at_), (sl v47)]) (vs' := [(.int .i64 r45.1.op), (.int .i64 r45.1.n), (.int .i64 r45.1.at_), (sl v47)]) hs 4 rfl ti57 (O rfl) (O rfl) rfl rfl rfl rfl rfl ?_
          intro w50 hs
          replace hs := Sat.n6 (Γ := Φ) hs rfl
          refine WL_nil <| At_then ?_
          refine WC_ret ?_
          refine At_then_ret <| At_then_ret <| ?_
          refine At_r1 rfl (ResIs.cA (vs := [(.int .i64 r45.1.op), (.int .i64 r45.1.n), (.int .i64 r45.1.at_), (sl v47)]) rfl Tryd.underlying57 rfl ti57 ((hs.box (i := 4) rfl).part 0 rfl) rfl) ?_
          cases hm
          exact ⟨v47, R48, rfl, (hs.re 6 [0, 1, 2, 3] rfl)⟩
         ·
          replace hm := bif_f hc44 hm
          refine WC_skip ?_
          refine At_then <| WC_seq <| WC_region ?_
          refine Wo (Run_move (O rfl)) rfl <| Wo (Run_move (O rfl)) rfl <| Wo (Run_nilP (O rfl)) rfl <| Wo (Run_fieldAddr fo123_1 (O rfl)) rfl <| Wo (Run_load1 (v := (.int .i64 at_)) Tryd.underlying3 rfl (O rfl) (fun _ => (hs.box (i := 0) rfl).part 1 rfl)) rfl <| Wo (Run_add (O rfl) Opd.c) rfl <| Wo (Run_nilP (O rfl)) rfl <| Wo (Run_fieldAddr fo123_1 (O rfl)) rfl <| ?_
          refine WS_store (us := [(.int .i64 (IntKind.i64.wrap (at_ + 1)))]) (vs' := [(sl v2), (.int .i64 (IntKind.i64.wrap (at_ + 1))), (sl v4), (.int .i64 bad), (.int .i64 place)]) hs 0 rfl ti3 (O rfl) (O rfl) rfl rfl rfl rfl rfl ?_
          intro w51 hs
          replace hs := Sat.n5 (Γ := Φ) hs rfl
          refine WL_nil <| At_then <| WC_seq <| WC_region ?_
          refine Wo (Run_move (O rfl)) rfl <| Wo (Run_move (O rfl)) rfl <| ?_
          obtain ⟨r52, hr53, hm⟩ := bind_some' hm
          refine WL_call (f := 62) (first := []) (cap := []) (xs := [(.tmp 92), (.const (.int .i64 6)), (.tmp 93)]) (vs := [(.pointer (some ⟨b, 0, none⟩)), (.int .i64 6), (.int .i64 deep16)]) (args := [(.pointer (some ⟨b, 0, none⟩)), (.int .i64 6), (.int .i64 deep16)]) Tryd.call62 Opd.f (.cons (O rfl) (.cons Opd.c (.cons (O rfl) .nil))) rfl rfl (ih_scrutinyref13_look_line_s3 (hs.re 5 [0, 1, 2, 3, 4] rfl) hr53) ?_
          rintro _ w56 ⟨v54, R55, rfl, hs⟩
          replace hs := Sat.n6 (Γ := Φ) hs rfl
          refine WS_alloc (zs := [(.int .i64 0), (.int .i64 0), (.int .i64 0), (sl (none, 0, 0))]) hs ti57 rfl rfl ?_
          intro b57 w58 hs
          replace hs := Sat.n7 (Γ := Φ) hs rfl
          refine WS_store (us := [(.int .i64 r52.1.op), (.int .i64 r52.1.n), (.int .i64 r52.1.at_), (sl v54)]) (vs' := [(.int .i64 r52.1.op), (.int .i64 r52.1.n), (.int .i64 r52.1.at_), (sl v54)]) hs 0 rfl ti57 (O rfl) (O rfl) rfl rfl rfl rfl rfl ?_
          intro w59 hs
          replace hs := Sat.n7 (Γ := Φ) hs rfl
          refine WL_nil <| At_then <| WC_seq <| WC_region ?_
          refine Wo (Run_move (O rfl)) rfl <| Wo (Run_fieldAddr fo88_3 (O rfl)) rfl <| Wo (Run_load1 (v := (.int .i64 e30.2.2.2)) Tryd.underlying3 rfl (O rfl) (fun _ => (hs.box (i := 6) rfl).part 3 rfl)) rfl <| Wo (Run_loadA (vs := [(.int .i64 r52.1.op), (.int .i64 r52.1.n), (.int .i64 r52.1.at_), (sl v54)]) Tryd.underlying57 rfl ti57 (O rfl) (fun _ => (hs.box (i := 0) rfl).part 0 rfl) rfl) rfl <| ?_
          replace hs := hs.freeze (i := 1) rfl
          refine WS_lit (A := RExpr) (xs := [r52.1]) (zs := [(.int .i64 0), (.int .i64 0), (.int .i64 0), (sl (none, 0, 0))]) (cells := [(.int .i64 r52.1.op), (.int .i64 r52.1.n), (.int .i64 r52.1.at_), (sl v54)]) (parts := [(0, (.tmp 98))]) hs Tryd.underlying55 ti57 rfl rfl rfl (.cons (O rfl) .nil) (by kernel_rfl) rfl (ARd.cons (A := RExpr) (c := [(.int .i64 r52.1.op), (.int .i64 r52.1.n), (.int .i64 r52.1.at_), (sl v54)]) (x := r52.1) (RExpr_closeE (⟨_, rfl, (hs.sl (i := 1) rfl)⟩)) ARd.nil) rfl ?_
          intro b60 w61 hs
          replace hs := Sat.n8 (Γ := Φ) hs rfl
          refine Wo (Run_build (parts := [(0, (.tmp 95)), (2, (.tmp 97)), (3, (.tmp 99))]) (v := (.agg #[(.int .i64 k43), (.int .i64 0), (.int .i64 e30.2.2.2), (sl (some ⟨b60, 0, none⟩, 1, 1))])) (.cons (O rfl) (.cons (O rfl) (.cons (O rfl) .nil))) (fun _ => by kernel_rfl)) rfl <| ?_
          refine WS_store (us := [(.int .i64 k43), (.int .i64 0), (.int .i64 e30.2.2.2), (sl (some ⟨b60, 0, none⟩, 1, 1))]) (vs' := [(.int .i64 k43), (.int .i64 0), (.int .i64 e30.2.2.2), (sl (some ⟨b60, 0, none⟩, 1, 1))]) hs 6 rfl ti57 (O rfl) (O rfl) rfl rfl rfl rfl rfl ?_
          intro w62 hs
          replace hs := Sat.n8 (Γ := Φ) hs rfl
          refine WL_nil <| At_then ?_
          refine WC_ret ?_
          refine At_then_ret <| ?_
          refine At_r1 rfl (ResIs.cA (vs := [(.int .i64 k43), (.int .i64 0), (.int .i64 e30.2.2.2), (sl (some ⟨b60, 0, none⟩, 1, 1))]) rfl Tryd.underlying57 rfl ti57 ((hs.box (i := 6) rfl).part 0 rfl) rfl) ?_
          cases hm
          exact ⟨(some ⟨b60, 0, none⟩, 1, 1), [b60], rfl, (hs.re 8 [0, 3, 4, 5] rfl)⟩
        ·
         refine WC_seq <| WC_region ?_
         refine Wo (Run_fieldAddr fo88_0 (O rfl)) rfl <| Wo (Run_load1 (v := (.int .i64 e30.1)) Tryd.underlying3 rfl (O rfl) (fun _ => (hs.box (i := 4) rfl).part 0 rfl)) rfl <| ?_
         obtain ⟨b63, e64, hm⟩ := letv_some hm
         refine Wo (Run.eqB (Run_eqI (O rfl) Opd.c) e64) rfl <| Wo (Run_move (O rfl)) rfl <| WL_opG rfl rfl rfl rfl guard_pos (Run_fieldAddr fo88_1 (O rfl)) rfl rfl rfl <| WL_opG rfl rfl rfl rfl guard_pos (Run_load1 (v := (S e30.2.1)) Tryd.underlying9 rfl (Opd.g rfl id) (fun _ => (hs.box (i := 4) rfl).part 1 rfl)) rfl rfl rfl <| ?_
         obtain ⟨b65, e66, hm⟩ := letv_some hm
         refine WL_opG rfl rfl rfl rfl guard_pos (Run.eqB (Run_eqS (Opd.g rfl id) Opd.c) e66) rfl rfl rfl <| ?_
         obtain ⟨b67, e68, hm⟩ := letv_some hm
         refine Wo (Run.eqB (Run_and (O rfl) (Opd.g rfl id)) e68) rfl <| ?_
         refine WL_nil <| At_then ?_
         refine WC_cond (O rfl) (fun hc69 => ?_) (fun hc69 => ?_)
         ·
          replace hm := bif_t hc69 hm
          refine WC_region ?_
          refine Wo (Run_assign Opd.c) rfl <| ?_
          refine WL_nil ?_
          exact At_join 22 ⟨hm, (hs.re 5 [0, 1, 2, 3, 4] rfl)⟩ rfl
         ·
          replace hm := bif_f hc69 hm
          refine WC_skip ?_
          exact At_join k41 ⟨hm, (hs.re 5 [0, 1, 2, 3, 4] rfl)⟩ rfl
       ·
        refine WC_seq <| WC_region ?_
        refine Wo (Run_fieldAddr fo88_0 (O rfl)) rfl <| Wo (Run_load1 (v := (.int .i64 e30.1)) Tryd.underlying3 rfl (O rfl) (fun _ => (hs.box (i := 4) rfl).part 0 rfl)) rfl <| ?_
        obtain ⟨b70, e71, hm⟩ := letv_some hm
        refine Wo (Run.eqB (Run_eqI (O rfl) Opd.c) e71) rfl <| Wo (Run_move (O rfl)) rfl <| WL_opG rfl rfl rfl rfl guard_pos (Run_fieldAddr fo88_1 (O rfl)) rfl rfl rfl <| WL_opG rfl rfl rfl rfl guard_pos (Run_load1 (v := (S e30.2.1)) Tryd.underlying9 rfl (Opd.g rfl id) (fun _ => (hs.box (i := 4) rfl).part 1 rfl)) rfl rfl rfl <| ?_
        obtain ⟨b72, e73, hm⟩ := letv_some hm
        refine WL_opG rfl rfl rfl rfl guard_pos (Run.eqB (Run_eqS (Opd.g rfl id) Opd.c) e73) rfl rfl rfl <| ?_
        obtain ⟨b74, e75, hm⟩ := letv_some hm
        refine Wo (Run.eqB (Run_and (O rfl) (Opd.g rfl id)) e75) rfl <| ?_
        refine WL_nil <| At_then ?_
        refine WC_cond (O rfl) (fun hc76 => ?_) (fun hc76 => ?_)
        ·
         replace hm := bif_t hc76 hm
         refine WC_region ?_
         refine Wo (Run_assign Opd.c) rfl <| ?_
         refine WL_nil ?_
         exact At_join 21 ⟨hm, (hs.re 5 [0, 1, 2, 3, 4] rfl)⟩ rfl
        ·
         replace hm := bif_f hc76 hm
         refine WC_skip ?_
         exact At_join k39 ⟨hm, (hs.re 5 [0, 1, 2, 3, 4] rfl)⟩ rfl
      ·
       refine WC_seq <| WC_region ?_
       refine Wo (Run_fieldAddr fo88_0 (O rfl)) rfl <| Wo (Run_load1 (v := (.int .i64 e30.1)) Tryd.underlying3 rfl (O rfl) (fun _ => (hs.box (i := 4) rfl).part 0 rfl)) rfl <| ?_
       obtain ⟨b77, e78, hm⟩ := letv_some hm
       refine Wo (Run.eqB (Run_eqI (O rfl) Opd.c) e78) rfl <| Wo (Run_move (O rfl)) rfl <| WL_opG rfl rfl rfl rfl guard_pos (Run_fieldAddr fo88_1 (O rfl)) rfl rfl rfl <| WL_opG rfl rfl rfl rfl guard_pos (Run_load1 (v := (S e30.2.1)) Tryd.underlying9 rfl (Opd.g rfl id) (fun _ => (hs.box (i := 4) rfl).part 1 rfl)) rfl rfl rfl <| ?_
       obtain ⟨b79, e80, hm⟩ := letv_some hm
       refine WL_opG rfl rfl rfl rfl guard_pos (Run.eqB (Run_eqS (Opd.g rfl id) Opd.c) e80) rfl rfl rfl <| ?_
       obtain ⟨b81, e82, hm⟩ := letv_some hm
       refine Wo (Run.eqB (Run_and (O rfl) (Opd.g rfl id)) e82) rfl <| ?_
       refine WL_nil <| At_then ?_
       refine WC_cond (O rfl) (fun hc83 => ?_) (fun hc83 => ?_)
       ·
        replace hm := bif_t hc83 hm
        refine WC_region ?_
        refine Wo (Run_assign Opd.c) rfl <| ?_
        refine WL_nil ?_
        exact At_join 20 ⟨hm, (hs.re 5 [0, 1, 2, 3, 4] rfl)⟩ rfl
       ·
        replace hm := bif_f hc83 hm
        refine WC_skip ?_
        exact At_join k37 ⟨hm, (hs.re 5 [0, 1, 2, 3, 4] rfl)⟩ rfl
     ·
      refine WC_seq <| WC_region ?_
      refine Wo (Run_fieldAddr fo88_0 (O rfl)) rfl <| Wo (Run_load1 (v := (.int .i64 e30.1)) Tryd.underlying3 rfl (O rfl) (fun _ => (hs.box (i := 0) rfl).part 0 rfl)) rfl <| ?_
      obtain ⟨b84, e85, hm⟩ := letv_some hm
      refine Wo (Run.eqB (Run_eqI (O rfl) Opd.c) e85) rfl <| Wo (Run_move (O rfl)) rfl <| WL_opG rfl rfl rfl rfl guard_pos (Run_fieldAddr fo88_1 (O rfl)) rfl rfl rfl <| WL_opG rfl rfl rfl rfl guard_pos (Run_load1 (v := (S e30.2.1)) Tryd.underlying9 rfl (Opd.g rfl id) (fun _ => (hs.box (i := 0) rfl).part 1 rfl)) rfl rfl rfl <| ?_
      obtain ⟨b86, e87, hm⟩ := letv_some hm
      refine WL_opG rfl rfl rfl rfl guard_pos (Run.eqB (Run_eqS (Opd.g rfl id) Opd.c) e87) rfl rfl rfl <| ?_
      obtain ⟨b88, e89, hm⟩ := letv_some hm
      refine Wo (Run.eqB (Run_and (O rfl) (Opd.g rfl id)) e89) rfl <| ?_
      refine WL_nil <| At_then ?_
      refine WC_cond (O rfl) (fun hc90 => ?_) (fun hc90 => ?_)
      ·
       replace hm := bif_t hc90 hm
       refine WC_region ?_
       refine Wo (Run_assign Opd.c) rfl <| ?_
       refine WL_nil ?_
       exact At_join 15 ⟨hm, (hs.re 5 [1, 2, 3, 4, 0] rfl)⟩ rfl
      ·
       replace hm := bif_f hc90 hm
       refine WC_skip ?_
       exact At_join 0 ⟨hm, (hs.re 5 [1, 2, 3, 4, 0] rfl)⟩ rfl
    ·
     replace hm := bif_f hc35 hm
     refine WC_skip ?_
     refine At_then <| WC_seq <| WC_seq <| WC_region ?_
     refine Wo (Run_move (O rfl)) rfl <| Wo (Run_eqI (O rfl) Opd.c) rfl <| ?_
     refine WL_nil <| At_then ?_
     refine WC_cond (O rfl) (fun hc91 => ?_) (fun hc91 => ?_)
     ·
      replace hm := bif_t hc91 hm
      refine WC_seq <| WC_seq <| WC_region ?_
      refine Wo (Run_fieldAddr fo88_0 (O rfl)) rfl <| Wo (Run_load1 (v := (.int .i64 e30.1)) Tryd.underlying3 rfl (O rfl) (fun _ => (hs.box (i := 0) rfl).part 0 rfl)) rfl <| ?_
      obtain ⟨b92, e93, hm⟩ := letv_some hm
      refine Wo (Run.eqB (Run_neI (O rfl) Opd.c) e93) rfl <| Wo (Run_move (O rfl)) rfl <| Wg rfl guard_neg (Run_fieldAddr fo88_1 (O rfl)) rfl <| Wg rfl guard_neg (Run_load1 (v := (S e30.2.1)) Tryd.underlying9 rfl (Opd.g rfl id) (fun _ => (hs.box (i := 0) rfl).part 1 rfl)) rfl <| ?_
      obtain ⟨b94, e95, hm⟩ := letv_some hm
      refine Wg rfl guard_neg (Run.eqB (Run_neS (Opd.g rfl id) Opd.c) e95) rfl <| ?_
      obtain ⟨b96, e97, hm⟩ := letv_some hm
      refine Wo (Run.eqB (Run_or (O rfl) (Opd.g rfl id)) e97) rfl <| ?_
      refine WL_nil <| At_then ?_
      refine WC_cond (O rfl) (fun hc98 => ?_) (fun hc98 => ?_)
      ·
       replace hm := bif_t hc98 hm
       refine WC_seq <| WC_region ?_
       refine Wo (Run_move (O rfl)) rfl <| Wo (Run_move (O rfl)) rfl <| ?_
       obtain ⟨r99, hr100, hm⟩ := bind_some' hm
       refine WL_call (f := 67) (first := []) (cap := []) (xs := [(.tmp 111), (.tmp 112)]) (vs := [(.pointer (some ⟨b, 0, none⟩)), (.int .i64 deep16)]) (args := [(.pointer (some ⟨b, 0, none⟩)), (.int .i64 deep16)]) Tryd.call67 Opd.f (.cons (O rfl) (.cons (O rfl) .nil)) rfl rfl (scrutinyref13_look_one_s3_ok (@ih_scrutinyref13_look_line_s3) (hs.re 5 [1, 2, 3, 0, 4] rfl) hr100) ?_
       rintro _ w103 ⟨v101, R102, rfl, hs⟩
       replace hs := Sat.n6 (Γ := Φ) hs rfl
       refine WS_store (us := [(.int .i64 r99.1.op), (.int .i64 r99.1.n), (.int .i64 r99.1.at_), (sl v101)]) (vs' := [(.int .i64 r99.1.op), (.int .i64 r99.1.n), (.int .i64 r99.1.at_), (sl v101)]) hs 5 rfl ti57 (O rfl) (O rfl) rfl rfl rfl rfl rfl ?_
       intro w104 hs
       replace hs := Sat.n6 (Γ := Φ) hs rfl
       refine WL_nil <| At_then ?_
       refine WC_ret ?_
       refine At_then_ret <| At_then_ret <| ?_
       refine At_r1 rfl (ResIs.cA (vs := [(.int .i64 r99.1.op), (.int .i64 r99.1.n), (.int .i64 r99.1.at_), (sl v101)]) rfl Tryd.underlying57 rfl ti57 ((hs.box (i := 5) rfl).part 0 rfl) rfl) ?_
       cases hm
       exact ⟨v101, R102, rfl, (hs.re 6 [0, 1, 2, 3] rfl)⟩
      ·
       replace hm := bif_f hc98 hm
       refine WC_skip ?_
       refine At_then <| WC_seq <| WC_region ?_
       refine Wo (Run_move (O rfl)) rfl <| Wo (Run_move (O rfl)) rfl <| Wo (Run_nilP (O rfl)) rfl <| Wo (Run_fieldAddr fo123_1 (O rfl)) rfl <| Wo (Run_load1 (v := (.int .i64 at_)) Tryd.underlying3 rfl (O rfl) (fun _ => (hs.box (i := 1) rfl).part 1 rfl)) rfl <| Wo (Run_add (O rfl) Opd.c) rfl <| Wo (Run_nilP (O rfl)) rfl <| Wo (Run_fieldAddr fo123_1 (O rfl)) rfl <| ?_
       refine WS_store (us := [(.int .i64 (IntKind.i64.wrap (at_ + 1)))]) (vs' := [(sl v2), (.int .i64 (IntKind.i64.wrap (at_ + 1))), (sl v4), (.int .i64 bad), (.int .i64 place)]) hs 1 rfl ti3 (O rfl) (O rfl) rfl rfl rfl rfl rfl ?_
       intro w105 hs
       replace hs := Sat.n5 (Γ := Φ) hs rfl
       refine WL_nil <| At_then <| WC_seq <| WC_region ?_
       refine Wo (Run_move (O rfl)) rfl <| Wo (Run_move (O rfl)) rfl <| ?_
       obtain ⟨r106, hr107, hm⟩ := bind_some' hm
       refine WL_call (f := 62) (first := []) (cap := []) (xs := [(.tmp 122), (.const (.int .i64 10)), (.tmp 123)]) (vs := [(.pointer (some ⟨b, 0, none⟩)), (.int .i64 10), (.int .i64 deep16)]) (args := [(.pointer (some ⟨b, 0, none⟩)), (.int .i64 10), (.int .i64 deep16)]) Tryd.call62 Opd.f (.cons (O rfl) (.cons Opd.c (.cons (O rfl) .nil))) rfl rfl (ih_scrutinyref13_look_line_s3 (hs.re 5 [1, 2, 3, 0, 4] rfl) hr107) ?_
       rintro _ w110 ⟨v108, R109, rfl, hs⟩
       replace hs := Sat.n6 (Γ := Φ) hs rfl
       refine WS_alloc (zs := [(.int .i64 0), (.int .i64 0), (.int .i64 0), (sl (none, 0, 0))]) hs ti57 rfl rfl ?_
       intro b111 w112 hs
       replace hs := Sat.n7 (Γ := Φ) hs rfl
       refine WS_store (us := [(.int .i64 r106.1.op), (.int .i64 r106.1.n), (.int .i64 r106.1.at_), (sl v108)]) (vs' := [(.int .i64 r106.1.op), (.int .i64 r106.1.n), (.int .i64 r106.1.at_), (sl v108)]) hs 0 rfl ti57 (O rfl) (O rfl) rfl rfl rfl rfl rfl ?_
       intro w113 hs
       replace hs := Sat.n7 (Γ := Φ) hs rfl
       refine WL_nil <| At_then <| WC_seq <| WC_region ?_
       refine Wo (Run_fieldAddr fo88_3 (O rfl)) rfl <| Wo (Run_load1 (v := (.int .i64 e30.2.2.2)) Tryd.underlying3 rfl (O rfl) (fun _ => (hs.box (i := 5) rfl).part 3 rfl)) rfl <| Wo (Run_loadA (vs := [(.int .i64 r106.1.op), (.int .i64 r106.1.n), (.int .i64 r106.1.at_), (sl v108)]) Tryd.underlying57 rfl ti57 (O rfl) (fun _ => (hs.box (i := 0) rfl).part 0 rfl) rfl) rfl <| ?_
       replace hs := hs.freeze (i := 1) rfl
       refine WS_lit (A := RExpr) (xs := [r106.1]) (zs := [(.int .i64 0), (.int .i64 0), (.int .i64 0), (sl (none, 0, 0))]) (cells := [(.int .i64 r106.1.op), (.int .i64 r106.1.n), (.int .i64 r106.1.at_), (sl v108)]) (parts := [(0, (.tmp 127))]) hs Tryd.underlying55 ti57 rfl rfl rfl (.cons (O rfl) .nil) (by kernel_rfl) rfl (ARd.cons (A := RExpr) (c := [(.int .i64 r106.1.op), (.int .i64 r106.1.n), (.int .i64 r106.1.at_), (sl v108)]) (x := r106.1) (RExpr_closeE (⟨_, rfl, (hs.sl (i := 1) rfl)⟩)) ARd.nil) rfl ?_
       intro b114 w115 hs
       replace hs := Sat.n8 (Γ := Φ) hs rfl
       refine Wo (Run_build (parts := [(0, (.const (.int .i64 6))), (2, (.tmp 126)), (3, (.tmp 128))]) (v := (.agg #[(.int .i64 6), (.int .i64 0), (.int .i64 e30.2.2.2), (sl (some ⟨b114, 0, none⟩, 1, 1))])) (.cons Opd.c (.cons (O rfl) (.cons (O rfl) .nil))) (fun _ => by kernel_rfl)) rfl <| ?_
       refine WS_store (us := [(.int .i64 6), (.int .i64 0), (.int .i64 e30.2.2.2), (sl (some ⟨b114, 0, none⟩, 1, 1))]) (vs' := [(.int .i64 6), (.int .i64 0), (.int .i64 e30.2.2.2), (sl (some ⟨b114, 0, none⟩, 1, 1))]) hs 7 rfl ti57 (O rfl) (O rfl) rfl rfl rfl rfl rfl ?_
       intro w116 hs
       replace hs := Sat.n8 (Γ := Φ) hs rfl
       refine WL_nil <| At_then ?_
       refine WC_ret ?_
       refine At_then_ret <| ?_
       refine At_r1 rfl (ResIs.cA (vs := [(.int .i64 6), (.int .i64 0), (.int .i64 e30.2.2.2), (sl (some ⟨b114, 0, none⟩, 1, 1))]) rfl Tryd.underlying57 rfl ti57 ((hs.box (i := 7) rfl).part 0 rfl) rfl) ?_
       cases hm
       exact ⟨(some ⟨b114, 0, none⟩, 1, 1), [b114], rfl, (hs.re 8 [0, 3, 4, 5] rfl)⟩
     ·
      replace hm := bif_f hc91 hm
      refine WC_skip ?_
      refine At_then <| WC_seq <| WC_region ?_
      refine Wo (Run_move (O rfl)) rfl <| Wo (Run_move (O rfl)) rfl <| Wo (Run_add (O rfl) Opd.c) rfl <| Wo (Run_move (O rfl)) rfl <| ?_
      obtain ⟨r117, hr118, hm⟩ := bind_some' hm
      refine WL_call (f := 62) (first := []) (cap := []) (xs := [(.tmp 130), (.tmp 132), (.tmp 133)]) (vs := [(.pointer (some ⟨b, 0, none⟩)), (.int .i64 (IntKind.i64.wrap (strength + 1))), (.int .i64 deep16)]) (args := [(.pointer (some ⟨b, 0, none⟩)), (.int .i64 (IntKind.i64.wrap (strength + 1))), (.int .i64 deep16)]) Tryd.call62 Opd.f (.cons (O rfl) (.cons (O rfl) (.cons (O rfl) .nil))) rfl rfl (ih_scrutinyref13_look_line_s3 (hs.re 5 [1, 2, 3, 0, 4] rfl) hr118) ?_
      rintro _ w121 ⟨v119, R120, rfl, hs⟩
      replace hs := Sat.n6 (Γ := Φ) hs rfl
      refine WS_alloc (zs := [(.int .i64 0), (.int .i64 0), (.int .i64 0), (sl (none, 0, 0))]) hs ti57 rfl rfl ?_
      intro b122 w123 hs
      replace hs := Sat.n7 (Γ := Φ) hs rfl
      refine WS_store (us := [(.int .i64 r117.1.op), (.int .i64 r117.1.n), (.int .i64 r117.1.at_), (sl v119)]) (vs' := [(.int .i64 r117.1.op), (.int .i64 r117.1.n), (.int .i64 r117.1.at_), (sl v119)]) hs 0 rfl ti57 (O rfl) (O rfl) rfl rfl rfl rfl rfl ?_
      intro w124 hs
      replace hs := Sat.n7 (Γ := Φ) hs rfl
      refine WL_nil <| At_then <| WC_seq ?_
      refine WC_block ?_
      refine WC_loop (σ := Int × Int × Int × Int × Int × Int × (List Ex)) (γ := SLV × List Nat) (F := (scrutinyref13_look_line_s3_L6 k_scrutinyref13_look_line_s3 strength l names deep16)) (N := FUEL) (s0 := (r117.2.1, r117.2.2.1, r117.2.2.2, r117.1.op, r117.1.n, r117.1.at_, r117.1.l)) (r := r) (fun ⟨c126, c127, c128, c129, c130, c131, c132⟩ ⟨v133, R134⟩ w125 => Sat (box b 123 [(sl v2), (.int .i64 c126), (sl v4), (.int .i64 c127), (.int .i64 c128)] :: osl (RP (RI .i64) (RP RS (RP (RI .i64) (RI .i64)))) 88 (sl v2) l R :: osl RS 9 (sl v4) names R5 :: box b8 57 [(.int .i64 0), (.int .i64 0), (.int .i64 0), (sl (none, 0, 0))] :: box b122 57 [(.int .i64 c129), (.int .i64 c130), (.int .i64 c131), (sl v133)] :: osl RExpr 57 (sl v133) c132 R134 :: Φ) w125) (fun ⟨c126, c127, c128, c129, c130, c131, c132⟩ ⟨v133, R134⟩ => [(0, true, (.pointer (some ⟨b, 0, none⟩))), (1, true, (.int .i64 strength)), (2, true, (.int .i64 deep16)), (6, true, (.pointer (some ⟨b8, 0, none⟩))), (12, true, (.pointer (some ⟨b122, 0, none⟩)))]) hm (v119, R120) (hs.re 7 [2, 3, 4, 6, 0, 1] rfl) rfl ?_
      rintro again135 ⟨c126, c127, c128, c129, c130, c131, c132⟩ ⟨v133, R134⟩ w125 hm hs
      unfold scrutinyref13_look_line_s3_L6 at hm
      dsimp only at hm
      refine WC_seq <| WC_seq <| WC_region ?_
      refine Wo (Run_move (O rfl)) rfl <| Wo (Run_nilP (O rfl)) rfl <| Wo (Run_fieldAddr fo123_3 (O rfl)) rfl <| Wo (Run_load1 (v := (.int .i64 c127)) Tryd.underlying3 rfl (O rfl) (fun _ => (hs.box (i := 0) rfl).part 3 rfl)) rfl <| Wo (Run_eqI (O rfl) Opd.c) rfl <| ?_
      refine WL_nil <| At_then ?_
      refine WC_cond (O rfl) (fun hc136 => ?_) (fun hc136 => ?_)
      ·
       replace hm := bif_t hc136 hm
       refine WC_skip ?_
       refine At_then ?_
       refine WC_block ?_
       refine WC_seq ?_
       refine WC_region_mixed [0, 1, 2, 4, 0, 16, 32, 64, 136, 256, 0, 2047] (.q 0 0 (.q 1 1 (.q 2 3 (.q 3 7 (.q 4 15 (.q 5 31 (.q 6 63 (.q 7 127 (.q 8 255 (.q 9 511 (.l 10 1023 (.l 11 2047 .nil)))))))))))) (by kernel_rfl) (by kernel_rfl) ?_
       intro w137 hx138
       replace hs := hs.ext hx138
       refine WD_pure (fun _ => (Run_move (O rfl))) rfl rfl rfl rfl <| WD_pure (fun _ => (Run_nilP (O rfl))) rfl rfl rfl rfl <| WD_pure (fun _ => (Run_fieldAddr fo123_0 (O rfl))) rfl rfl rfl rfl <| WD_op (fun w => CellsAt w ⟨b, 0, none⟩ [(sl v2)]) ((hs.box (i := 0) rfl).part 0 rfl) (fun _ hJ => (Run_load1 (v := (sl v2)) Tryd.underlying82 rfl (O rfl) (fun _ => hJ))) rfl rfl rfl rfl <| WD_pure (fun _ => (Run_move (O rfl))) rfl rfl rfl rfl <| WD_pure (fun _ => (Run_nilP (O rfl))) rfl rfl rfl rfl <| WD_pure (fun _ => (Run_fieldAddr fo123_1 (O rfl))) rfl rfl rfl rfl <| WD_op (fun w => CellsAt w ⟨b, 1, none⟩ [(.int .i64 c126)]) ((hs.box (i := 0) rfl).part 1 rfl) (fun _ hJ => (Run_load1 (v := (.int .i64 c126)) Tryd.underlying3 rfl (O rfl) (fun _ => hJ))) rfl rfl rfl rfl <| ?_
       obtain ⟨e139, he140, hm⟩ := bind_some' hm
       refine WD_pure (fun _ => (Run_idxAddr (p := (elA (sl v2) c126 4)) Tryd.underlying82 ti88 (O rfl) (O rfl) (fun hg => (Own.atA (A := (RP (RI .i64) (RP RS (RP (RI .i64) (RI .i64))))) (v := (sl v2)) (hs.own (i := 1) rfl) he140).1))) rfl rfl rfl rfl <| WD_op (fun w => true = true → CellsAt w (elA (sl v2) c126 4) [(.int .i64 e139.1), (S e139.2.1), (.int .i64 e139.2.2.1), (.int .i64 e139.2.2.2)]) (fun hg => (Own.cellsF (A := (RP (RI .i64) (RP RS (RP (RI .i64) (RI .i64))))) (v := (sl v2)) (hs.own (i := 1) rfl) he140 (fun _ h => openT88 h)).sub 0 rfl) (fun _ hJ => (Run_loadA (vs := [(.int .i64 e139.1), (S e139.2.1), (.int .i64 e139.2.2.1), (.int .i64 e139.2.2.2)]) Tryd.underlying88 rfl ti88 (O rfl) hJ rfl)) rfl rfl rfl rfl <| ?_
       refine WD_loud (pend' := [(9, fun w => true = true → CellsAt w (elA (sl v2) c126 4) [(.int .i64 e139.1), (S e139.2.1), (.int .i64 e139.2.2.1), (.int .i64 e139.2.2.2)]), (7, fun w => CellsAt w ⟨b, 1, none⟩ [(.int .i64 c126)]), (3, fun w => CellsAt w ⟨b, 0, none⟩ [(sl v2)])]) rfl (by kernel_rfl) ?_
       refine WS_alloc (zs := [(.int .i64 0), (S []), (.int .i64 0), (.int .i64 0)]) hs ti88 rfl rfl ?_
       intro b141 w142 hs
       replace hs := Sat.n7 (Γ := Φ) hs rfl
       refine WL_nil ?_
       refine At_QK (allJ_cons (fun hg => (Own.cellsF (A := (RP (RI .i64) (RP RS (RP (RI .i64) (RI .i64))))) (v := (sl v2)) (hs.own (i := 2) rfl) he140 (fun _ h => openT88 h)).sub 0 rfl) (allJ_cons ((hs.box (i := 1) rfl).part 1 rfl) (allJ_cons ((hs.box (i := 1) rfl).part 0 rfl) allJ_nil))) ?_
       refine WD_loud (pend' := []) rfl (by kernel_rfl) ?_
       refine WS_store (us := [(.int .i64 e139.1), (S e139.2.1), (.int .i64 e139.2.2.1), (.int .i64 e139.2.2.2)]) (vs' := [(.int .i64 e139.1), (S e139.2.1), (.int .i64 e139.2.2.1), (.int .i64 e139.2.2.2)]) hs 0 rfl ti88 (O rfl) (O rfl) rfl rfl rfl rfl rfl ?_
       intro w143 hs
       replace hs := Sat.n7 (Γ := Φ) hs rfl
       refine WL_nil ?_
       refine At_QK allJ_nil ?_
       refine WD_nil ?_
       refine At_then <| WC_seq <| WC_region ?_
       refine Wo (Run_loadA (vs := [(.int .i64 e139.1), (S e139.2.1), (.int .i64 e139.2.2.1), (.int .i64 e139.2.2.2)]) Tryd.underlying88 rfl ti88 (O rfl) (fun _ => (hs.box (i := 0) rfl).part 0 rfl) rfl) rfl <| Wo (Run_move (O rfl)) rfl <| ?_
       obtain ⟨r144, hr145, hm⟩ := bind_some' hm
       refine WL_call (f := 68) (first := []) (cap := []) (xs := [(.tmp 150), (.tmp 151)]) (vs := [(.agg #[(.int .i64 e139.1), (S e139.2.1), (.int .i64 e139.2.2.1), (.int .i64 e139.2.2.2)]), (.int .i64 strength)]) (args := [(.agg #[(.int .i64 e139.1), (S e139.2.1), (.int .i64 e139.2.2.1), (.int .i64 e139.2.2.2)]), (.int .i64 strength)]) Tryd.call68 Opd.f (.cons (O rfl) (.cons (O rfl) .nil)) rfl rfl (scrutinyref13_op_ok (hs.re 7 [0, 1, 2, 3, 4, 5, 6] rfl) hr145) ?_
       rintro _ w146 ⟨rfl, hs⟩
       replace hs := Sat.n7 (Γ := Φ) hs rfl
       refine Wo (Run_assign (O rfl)) rfl <| ?_
       refine WL_nil <| At_then <| WC_seq <| WC_seq <| WC_region ?_
       refine Wo (Run_move (O rfl)) rfl <| Wo (Run_eqI (O rfl) Opd.c) rfl <| ?_
       refine WL_nil <| At_then ?_
       refine WC_cond (O rfl) (fun hc147 => ?_) (fun hc147 => ?_)
       ·
        replace hm := bif_t hc147 hm
        refine WC_seq <| WC_region ?_
        refine Wo (Run_loadA (vs := [(.int .i64 c129), (.int .i64 c130), (.int .i64 c131), (sl v133)]) Tryd.underlying57 rfl ti57 (O rfl) (fun _ => (hs.box (i := 5) rfl).part 0 rfl) rfl) rfl <| ?_
        refine WS_store (us := [(.int .i64 c129), (.int .i64 c130), (.int .i64 c131), (sl v133)]) (vs' := [(.int .i64 c129), (.int .i64 c130), (.int .i64 c131), (sl v133)]) hs 4 rfl ti57 (O rfl) (O rfl) rfl rfl rfl rfl rfl ?_
        intro w148 hs
        replace hs := Sat.n7 (Γ := Φ) hs rfl
        refine WL_nil <| At_then ?_
        refine WC_ret ?_
        refine At_then_ret <| At_blk_ret <| At_then_ret <| At_blk_ret <| At_then_ret <| ?_
        refine At_r1 rfl (ResIs.cA (vs := [(.int .i64 c129), (.int .i64 c130), (.int .i64 c131), (sl v133)]) rfl Tryd.underlying57 rfl ti57 ((hs.box (i := 4) rfl).part 0 rfl) rfl) ?_
        cases hm
        exact ⟨v133, R134, rfl, (hs.re 7 [6, 1, 2, 3] rfl)⟩
       ·
        replace hm := bif_f hc147 hm
        refine WC_skip ?_
        refine At_then <| WC_seq <| WC_region ?_
        refine Wo (Run_move (O rfl)) rfl <| Wo (Run_move (O rfl)) rfl <| Wo (Run_nilP (O rfl)) rfl <| Wo (Run_fieldAddr fo123_1 (O rfl)) rfl <| Wo (Run_load1 (v := (.int .i64 c126)) Tryd.underlying3 rfl (O rfl) (fun _ => (hs.box (i := 1) rfl).part 1 rfl)) rfl <| Wo (Run_add (O rfl) Opd.c) rfl <| Wo (Run_nilP (O rfl)) rfl <| Wo (Run_fieldAddr fo123_1 (O rfl)) rfl <| ?_
        refine WS_store (us := [(.int .i64 (IntKind.i64.wrap (c126 + 1)))]) (vs' := [(sl v2), (.int .i64 (IntKind.i64.wrap (c126 + 1))), (sl v4), (.int .i64 c127), (.int .i64 c128)]) hs 1 rfl ti3 (O rfl) (O rfl) rfl rfl rfl rfl rfl ?_
        intro w149 hs
        replace hs := Sat.n7 (Γ := Φ) hs rfl
        refine WL_nil <| At_then <| WC_seq <| WC_seq <| WC_region ?_
        refine Wo (Run_move (O rfl)) rfl <| ?_
        obtain ⟨b150, e151, hm⟩ := letv_some hm
        refine Wo (Run.eqB (Run_eqI (O rfl) Opd.c) e151) rfl <| Wo (Run_move (O rfl)) rfl <| Wg rfl guard_neg (Run_move (O rfl)) rfl <| ?_
        obtain ⟨b152, e153, hm⟩ := letv_some hm
        refine Wg rfl guard_neg (Run.eqB (Run_eqI (Opd.g rfl id) Opd.c) e153) rfl <| ?_
        obtain ⟨b154, e155, hm⟩ := letv_some hm
        refine Wo (Run.eqB (Run_or (O rfl) (Opd.g rfl id)) e155) rfl <| Wo (Run_move (O rfl)) rfl <| Wg rfl guard_neg (Run_move (O rfl)) rfl <| ?_
        obtain ⟨b156, e157, hm⟩ := letv_some hm
        refine Wg rfl guard_neg (Run.eqB (Run_eqI (Opd.g rfl id) Opd.c) e157) rfl <| ?_
        obtain ⟨b158, e159, hm⟩ := letv_some hm
        refine Wo (Run.eqB (Run_or (O rfl) (Opd.g rfl id)) e159) rfl <| ?_
        refine WL_nil <| At_then ?_
        refine WC_cond (O rfl) (fun hc160 => ?_) (fun hc160 => ?_)
        ·
         replace hm := bif_t hc160 hm
         refine WC_seq <| WC_region ?_
         refine Wo (Run_move (O rfl)) rfl <| Wo (Run_move (O rfl)) rfl <| Wo (Run_move (O rfl)) rfl <| ?_
         obtain ⟨r161, hr162, hm⟩ := bind_some' hm
         refine WL_call (f := 62) (first := []) (cap := []) (xs := [(.tmp 174), (.tmp 175), (.tmp 176)]) (vs := [(.pointer (some ⟨b, 0, none⟩)), (.int .i64 strength), (.int .i64 deep16)]) (args := [(.pointer (some ⟨b, 0, none⟩)), (.int .i64 strength), (.int .i64 deep16)]) Tryd.call62 Opd.f (.cons (O rfl) (.cons (O rfl) (.cons (O rfl) .nil))) rfl rfl (ih_scrutinyref13_look_line_s3 (hs.re 7 [1, 2, 3, 0, 4, 5, 6] rfl) hr162) ?_
         rintro _ w165 ⟨v163, R164, rfl, hs⟩
         replace hs := Sat.n8 (Γ := Φ) hs rfl
         refine WS_alloc (zs := [(.int .i64 0), (.int .i64 0), (.int .i64 0), (sl (none, 0, 0))]) hs ti57 rfl rfl ?_
         intro b166 w167 hs
         replace hs := Sat.n9 (Γ := Φ) hs rfl
         refine WS_store (us := [(.int .i64 r161.1.op), (.int .i64 r161.1.n), (.int .i64 r161.1.at_), (sl v163)]) (vs' := [(.int .i64 r161.1.op), (.int .i64 r161.1.n), (.int .i64 r161.1.at_), (sl v163)]) hs 0 rfl ti57 (O rfl) (O rfl) rfl rfl rfl rfl rfl ?_
         intro w168 hs
         replace hs := Sat.n9 (Γ := Φ) hs rfl
         refine WL_nil <| At_then <| WC_seq <| WC_region ?_
         refine Wo (Run_move (O rfl)) rfl <| Wo (Run_fieldAddr fo88_3 (O rfl)) rfl <| Wo (Run_load1 (v := (.int .i64 e139.2.2.2)) Tryd.underlying3 rfl (O rfl) (fun _ => (hs.box (i := 5) rfl).part 3 rfl)) rfl <| Wo (Run_loadA (vs := [(.int .i64 c129), (.int .i64 c130), (.int .i64 c131), (sl v133)]) Tryd.underlying57 rfl ti57 (O rfl) (fun _ => (hs.box (i := 7) rfl).part 0 rfl) rfl) rfl <| Wo (Run_loadA (vs := [(.int .i64 r161.1.op), (.int .i64 r161.1.n), (.int .i64 r161.1.at_), (sl v163)]) Tryd.underlying57 rfl ti57 (O rfl) (fun _ => (hs.box (i := 0) rfl).part 0 rfl) rfl) rfl <| ?_
         replace hs := hs.freeze (i := 8) rfl
         replace hs := hs.freeze (i := 1) rfl
         refine WS_lit (A := RExpr) (xs := [(Ex.mk c129 c130 c131 c132), r161.1]) (zs := [(.int .i64 0), (.int .i64 0), (.int .i64 0), (sl (none, 0, 0))]) (cells := [(.int .i64 c129), (.int .i64 c130), (.int .i64 c131), (sl v133), (.int .i64 r161.1.op), (.int .i64 r161.1.n), (.int .i64 r161.1.at_), (sl v163)]) (parts := [(0, (.tmp 181)), (1, (.tmp 182))]) hs Tryd.underlying55 ti57 rfl rfl rfl (.cons (O rfl) (.cons (O rfl) .nil)) (by kernel_rfl) rfl (ARd.cons (A := RExpr) (c := [(.int .i64 c129), (.int .i64 c130), (.int .i64 c131), (sl v133)]) (x := (Ex.mk c129 c130 c131 c132)) (RExpr_close (⟨_, rfl, (hs.sl (i := 8) rfl)⟩)) (ARd.cons (A := RExpr) (c := [(.int .i64 r161.1.op), (.int .i64 r161.1.n), (.int .i64 r161.1.at_), (sl v163)]) (x := r161.1) (RExpr_closeE (⟨_, rfl, (hs.sl (i := 1) rfl)⟩)) ARd.nil)) rfl ?_
         intro b169 w170 hs
         replace hs := Sat.n10 (Γ := Φ) hs rfl
         refine Wo (Run_build (parts := [(0, (.tmp 178)), (2, (.tmp 180)), (3, (.tmp 183))]) (v := (.agg #[(.int .i64 r144), (.int .i64 0), (.int .i64 e139.2.2.2), (sl (some ⟨b169, 0, none⟩, 2, 2))])) (.cons (O rfl) (.cons (O rfl) (.cons (O rfl) .nil))) (fun _ => by kernel_rfl)) rfl <| ?_
         refine WS_store (us := [(.int .i64 r144), (.int .i64 0), (.int .i64 e139.2.2.2), (sl (some ⟨b169, 0, none⟩, 2, 2))]) (vs' := [(.int .i64 r144), (.int .i64 0), (.int .i64 e139.2.2.2), (sl (some ⟨b169, 0, none⟩, 2, 2))]) hs 7 rfl ti57 (O rfl) (O rfl) rfl rfl rfl rfl rfl ?_
         intro w171 hs
         replace hs := Sat.n10 (Γ := Φ) hs rfl
         refine WL_nil <| At_then ?_
         refine WC_ret ?_
         refine At_then_ret <| At_blk_ret <| At_then_ret <| At_blk_ret <| At_then_ret <| ?_
         refine At_r1 rfl (ResIs.cA (vs := [(.int .i64 r144), (.int .i64 0), (.int .i64 e139.2.2.2), (sl (some ⟨b169, 0, none⟩, 2, 2))]) rfl Tryd.underlying57 rfl ti57 ((hs.box (i := 7) rfl).part 0 rfl) rfl) ?_
         cases hm
         exact ⟨(some ⟨b169, 0, none⟩, 2, 2), [b169], rfl, (hs.re 10 [0, 3, 4, 5] rfl)⟩
        ·
         replace hm := bif_f hc160 hm
         refine WC_skip ?_
         refine At_then <| WC_seq <| WC_region ?_
         refine Wo (Run_move (O rfl)) rfl <| Wo (Run_move (O rfl)) rfl <| Wo (Run_add (O rfl) Opd.c) rfl <| Wo (Run_move (O rfl)) rfl <| ?_
         obtain ⟨r172, hr173, hm⟩ := bind_some' hm
         refine WL_call (f := 62) (first := []) (cap := []) (xs := [(.tmp 185), (.tmp 187), (.tmp 188)]) (vs := [(.pointer (some ⟨b, 0, none⟩)), (.int .i64 (IntKind.i64.wrap (strength + 1))), (.int .i64 deep16)]) (args := [(.pointer (some ⟨b, 0, none⟩)), (.int .i64 (IntKind.i64.wrap (strength + 1))), (.int .i64 deep16)]) Tryd.call62 Opd.f (.cons (O rfl) (.cons (O rfl) (.cons (O rfl) .nil))) rfl rfl (ih_scrutinyref13_look_line_s3 (hs.re 7 [1, 2, 3, 0, 4, 5, 6] rfl) hr173) ?_
         rintro _ w176 ⟨v174, R175, rfl, hs⟩
         replace hs := Sat.n8 (Γ := Φ) hs rfl
         refine WS_alloc (zs := [(.int .i64 0), (.int .i64 0), (.int .i64 0), (sl (none, 0, 0))]) hs ti57 rfl rfl ?_
         intro b177 w178 hs
         replace hs := Sat.n9 (Γ := Φ) hs rfl
         refine WS_store (us := [(.int .i64 r172.1.op), (.int .i64 r172.1.n), (.int .i64 r172.1.at_), (sl v174)]) (vs' := [(.int .i64 r172.1.op), (.int .i64 r172.1.n), (.int .i64 r172.1.at_), (sl v174)]) hs 0 rfl ti57 (O rfl) (O rfl) rfl rfl rfl rfl rfl ?_
         intro w179 hs
         replace hs := Sat.n9 (Γ := Φ) hs rfl
         refine WL_nil <| At_then <| WC_seq <| WC_region ?_
         refine Wo (Run_move (O rfl)) rfl <| Wo (Run_fieldAddr fo88_3 (O rfl)) rfl <| Wo (Run_load1 (v := (.int .i64 e139.2.2.2)) Tryd.underlying3 rfl (O rfl) (fun _ => (hs.box (i := 5) rfl).part 3 rfl)) rfl <| Wo (Run_loadA (vs := [(.int .i64 c129), (.int .i64 c130), (.int .i64 c131), (sl v133)]) Tryd.underlying57 rfl ti57 (O rfl) (fun _ => (hs.box (i := 7) rfl).part 0 rfl) rfl) rfl <| Wo (Run_loadA (vs := [(.int .i64 r172.1.op), (.int .i64 r172.1.n), (.int .i64 r172.1.at_), (sl v174)]) Tryd.underlying57 rfl ti57 (O rfl) (fun _ => (hs.box (i := 0) rfl).part 0 rfl) rfl) rfl <| ?_
         replace hs := hs.freeze (i := 8) rfl
         replace hs := hs.freeze (i := 1) rfl
         refine WS_lit (A := RExpr) (xs := [(Ex.mk c129 c130 c131 c132), r172.1]) (zs := [(.int .i64 0), (.int .i64 0), (.int .i64 0), (sl (none, 0, 0))]) (cells := [(.int .i64 c129), (.int .i64 c130), (.int .i64 c131), (sl v133), (.int .i64 r172.1.op), (.int .i64 r172.1.n), (.int .i64 r172.1.at_), (sl v174)]) (parts := [(0, (.tmp 193)), (1, (.tmp 194))]) hs Tryd.underlying55 ti57 rfl rfl rfl (.cons (O rfl) (.cons (O rfl) .nil)) (by kernel_rfl) rfl (ARd.cons (A := RExpr) (c := [(.int .i64 c129), (.int .i64 c130), (.int .i64 c131), (sl v133)]) (x := (Ex.mk c129 c130 c131 c132)) (RExpr_close (⟨_, rfl, (hs.sl (i := 8) rfl)⟩)) (ARd.cons (A := RExpr) (c := [(.int .i64 r172.1.op), (.int .i64 r172.1.n), (.int .i64 r172.1.at_), (sl v174)]) (x := r172.1) (RExpr_closeE (⟨_, rfl, (hs.sl (i := 1) rfl)⟩)) ARd.nil)) rfl ?_
         intro b180 w181 hs
         replace hs := Sat.n10 (Γ := Φ) hs rfl
         refine Wo (Run_build (parts := [(0, (.tmp 190)), (2, (.tmp 192)), (3, (.tmp 195))]) (v := (.agg #[(.int .i64 r144), (.int .i64 0), (.int .i64 e139.2.2.2), (sl (some ⟨b180, 0, none⟩, 2, 2))])) (.cons (O rfl) (.cons (O rfl) (.cons (O rfl) .nil))) (fun _ => by kernel_rfl)) rfl <| ?_
         refine WS_store (us := [(.int .i64 r144), (.int .i64 0), (.int .i64 e139.2.2.2), (sl (some ⟨b180, 0, none⟩, 2, 2))]) (vs' := [(.int .i64 r144), (.int .i64 0), (.int .i64 e139.2.2.2), (sl (some ⟨b180, 0, none⟩, 2, 2))]) hs 8 rfl ti57 (O rfl) (O rfl) rfl rfl rfl rfl rfl ?_
         intro w182 hs
         replace hs := Sat.n10 (Γ := Φ) hs rfl
         refine WL_nil <| At_then <| WC_seq <| WC_region ?_
         refine Wo (Run_move (O rfl)) rfl <| Wo (Run_eqI (O rfl) Opd.c) rfl <| ?_
         refine WL_nil <| At_then ?_
         refine WC_cond (O rfl) (fun hc183 => ?_) (fun hc183 => ?_)
         ·
          replace hm := bif_t hc183 hm
          refine WC_seq <| WC_region ?_
          refine Wo (Run_loadA (vs := [(.int .i64 r144), (.int .i64 0), (.int .i64 e139.2.2.2), (sl (some ⟨b180, 0, none⟩, 2, 2))]) Tryd.underlying57 rfl ti57 (O rfl) (fun _ => (hs.box (i := 8) rfl).part 0 rfl) rfl) rfl <| ?_
          refine WS_store (us := [(.int .i64 r144), (.int .i64 0), (.int .i64 e139.2.2.2), (sl (some ⟨b180, 0, none⟩, 2, 2))]) (vs' := [(.int .i64 r144), (.int .i64 0), (.int .i64 e139.2.2.2), (sl (some ⟨b180, 0, none⟩, 2, 2))]) hs 7 rfl ti57 (O rfl) (O rfl) rfl rfl rfl rfl rfl ?_
          intro w184 hs
          replace hs := Sat.n10 (Γ := Φ) hs rfl
          refine WL_nil <| At_then ?_
          refine WC_ret ?_
          refine At_blk_ret <| At_then_ret <| At_blk_ret <| At_then_ret <| ?_
          refine At_r1 rfl (ResIs.cA (vs := [(.int .i64 r144), (.int .i64 0), (.int .i64 e139.2.2.2), (sl (some ⟨b180, 0, none⟩, 2, 2))]) rfl Tryd.underlying57 rfl ti57 ((hs.box (i := 7) rfl).part 0 rfl) rfl) ?_
          cases hm
          exact ⟨(some ⟨b180, 0, none⟩, 2, 2), [b180], rfl, (hs.re 10 [0, 3, 4, 5] rfl)⟩
         ·
          replace hm := bif_f hc183 hm
          refine WC_skip ?_
          refine At_blk_normal ?_
          exact At_again (r172.2.1, r172.2.2.1, r172.2.2.2, r144, 0, e139.2.2.2, ([(Ex.mk c129 c130 c131 c132), r172.1] : List Ex)) ((some ⟨b180, 0, none⟩, 2, 2), [b180]) hm (hs.re 10 [3, 4, 5, 7, 8, 0] rfl) rfl
      ·
       replace hm := bif_f hc136 hm
       refine WC_exit ?_
       refine At_then_exit <| At_then_exit <| At_blk_here <| ?_
       refine At_then <| WC_seq <| WC_region ?_
       refine Wo (Run_loadA (vs := [(.int .i64 c129), (.int .i64 c130), (.int .i64 c131), (sl v133)]) Tryd.underlying57 rfl ti57 (O rfl) (fun _ => (hs.box (i := 4) rfl).part 0 rfl) rfl) rfl <| ?_
       refine WS_store (us := [(.int .i64 c129), (.int .i64 c130), (.int .i64 c131), (sl v133)]) (vs' := [(.int .i64 c129), (.int .i64 c130), (.int .i64 c131), (sl v133)]) hs 3 rfl ti57 (O rfl) (O rfl) rfl rfl rfl rfl rfl ?_
       intro w185 hs
       replace hs := Sat.n6 (Γ := Φ) hs rfl
       refine WL_nil <| At_then ?_
       refine WC_ret ?_
       refine At_r1 rfl (ResIs.cA (vs := [(.int .i64 c129), (.int .i64 c130), (.int .i64 c131), (sl v133)]) rfl Tryd.underlying57 rfl ti57 ((hs.box (i := 3) rfl).part 0 rfl) rfl) ?_
       cases hm
       exact ⟨v133, R134, rfl, (hs.re 6 [5, 0, 1, 2] rfl)⟩
  ·
   refine WC_seq <| WC_region ?_
   refine Wo (Run_move (O rfl)) rfl <| ?_
   refine WL_nil <| At_then ?_
   refine WC_cond (O rfl) (fun hc186 => ?_) (fun hc186 => ?_)
   ·
    replace hm := bif_t hc186 hm
    refine WC_region ?_
    refine Wo (Run_move (O rfl)) rfl <| Wo (Run_add (O rfl) Opd.c) rfl <| Wo (Run_assign (O rfl)) rfl <| ?_
    refine WL_nil ?_
    exact At_join (IntKind.i64.wrap (deep + 1)) ⟨hm, (hs.re 4 [1, 2, 3, 0] rfl)⟩ rfl
   ·
    replace hm := bif_f hc186 hm
    refine WC_skip ?_
    exact At_join deep ⟨hm, (hs.re 4 [1, 2, 3, 0] rfl)⟩ rfl
set_option maxRecDepth 100000 in
set_option maxHeartbeats 4000000 in
theorem scrutinyref13_look_line_s3_ok {Φ : Ctx} {w : World} {strength : Int} {deep : Int} {l : (List (Int × Str × Int × Int))} {at_ : Int} {names : (List Str)} {bad : Int} {place : Int} {b : Nat} {v2 : SLV} {R : List Nat} {v4 : SLV} {R5 : List Nat} {r : (Ex × Int × Int × Int)} (hs : Sat (box b 123 [(sl v2), (.int .i64 at_), (sl v4), (.int .i64 bad), (.int .i64 place)] :: osl (RP (RI .i64) (RP RS (RP (RI .i64) (RI .i64)))) 88 (sl v2) l R :: osl RS 9 (sl v4) names R5 :: Φ) w) (hm : scrutinyref13_look_line_s3 strength deep l at_ names bad place = some r) :
  CallsR Tryd.prog 62 [(.pointer (some ⟨b, 0, none⟩)), (.int .i64 strength), (.int .i64 deep)] w (fun v w' => ∃ v3 : SLV, ∃ R4 : List Nat, v = (.agg #[(.int .i64 r.1.op), (.int .i64 r.1.n), (.int .i64 r.1.at_), (sl v3)]) ∧ Sat (osl RExpr 57 (sl v3) r.1.l R4 :: box b 123 [(sl v2), (.int .i64 r.2.1), (sl v4), (.int .i64 r.2.2.1), (.int .i64 r.2.2.2)] :: osl (RP (RI .i64) (RP RS (RP (RI .i64) (RI .i64)))) 88 (sl v2) l R :: osl RS 9 (sl v4) names R5 :: Φ) w') := by
 have key : ∀ (N : Nat) {Φ : Ctx} {w : World} {strength : Int} {deep : Int} {l : (List (Int × Str × Int × Int))} {at_ : Int} {names : (List Str)} {bad : Int} {place : Int} {b : Nat} {v2 : SLV} {R : List Nat} {v4 : SLV} {R5 : List Nat} {r : (Ex × Int × Int × Int)}, Sat (box b 123 [(sl v2), (.int .i64 at_), (sl v4), (.int .i64 bad), (.int .i64 place)] :: osl (RP (RI .i64) (RP RS (RP (RI .i64) (RI .i64)))) 88 (sl v2) l R :: osl RS 9 (sl v4) names R5 :: Φ) w → fixN (fun k (s : (Int × Int × (List (Int × Str × Int × Int)) × Int × (List Str) × Int × Int)) => scrutinyref13_look_line_s3_F k s.1 s.2.1 s.2.2.1 s.2.2.2.1 s.2.2.2.2.1 s.2.2.2.2.2.1 s.2.2.2.2.2.2) N (strength, deep, l, at_, names, bad, place) = some r → CallsR Tryd.prog 62 [(.pointer (some ⟨b, 0, none⟩)), (.int .i64 strength), (.int .i64 deep)] w (fun v w' => ∃ v3 : SLV, ∃ R4 : List Nat, v = (.agg #[(.int .i64 r.1.op), (.int .i64 r.1.n), (.int .i64 r.1.at_), (sl v3)]) ∧ Sat (osl RExpr 57 (sl v3) r.1.l R4 :: box b 123 [(sl v2), (.int .i64 r.2.1), (sl v4), (.int .i64 r.2.2.1), (.int .i64 r.2.2.2)] :: osl (RP (RI .i64) (RP RS (RP (RI .i64) (RI .i64)))) 88 (sl v2) l R :: osl RS 9 (sl v4) names R5 :: Φ) w') := by
  intro N
  induction N with
  | zero => intros; rename_i h; cases h
  | succ N ih => intros; rename_i hs hm; rw [fixN_succ] at hm; exact scrutinyref13_look_line_s3_F_ok (@ih) hs hm
 unfold scrutinyref13_look_line_s3 at hm
 exact key FUEL hs hm
end Go.Proofs.YtjdabjpjafkogaaDoor
namespace Go.Proofs.YtjdabjpjafkogaaDoor
open Go.Proofs
set_option maxRecDepth 100000 in
set_option maxHeartbeats 4000000 in
theorem scrutinyref13_Parse_s3_ok {Φ : Ctx} {w : World} {l : (List (Int × Str × Int × Int))} {at_ : Int} {names : (List Str)} {v1 : SLV} {R : List Nat} {v3 : SLV} {R4 : List Nat} {r : (Ex × Int × Int × Int)} (hs : Sat (osl (RP (RI .i64) (RP RS (RP (RI .i64) (RI .i64)))) 88 (sl v1) l R :: osl RS 9 (sl v3) names R4 :: Φ) w) (hm : scrutinyref13_Parse_s3 l at_ names = some r) :
  CallsR Tryd.prog 58 [(sl v1), (.int .i64 at_), (sl v3)] w (fun v w' => ∃ v4 : SLV, ∃ R5 : List Nat, v = (.tuple #[(.agg #[(.int .i64 r.1.op), (.int .i64 r.1.n), (.int .i64 r.1.at_), (sl v4)]), (.int .i64 r.2.1), (.int .i64 r.2.2.1), (.int .i64 r.2.2.2)]) ∧ Sat (osl RExpr 57 (sl v4) r.1.l R5 :: osl (RP (RI .i64) (RP RS (RP (RI .i64) (RI .i64)))) 88 (sl v1) l R :: osl RS 9 (sl v3) names R4 :: Φ) w') := by
 refine CallsX_enter Tryd.func58 rfl Tryd.ntmps58 rfl ?_
 unfold scrutinyref13_Parse_s3 at hm
 refine WC_seq <| WC_region ?_
 refine WS_alloc (zs := [(.int .i64 0), (.int .i64 0), (.int .i64 0), (sl (none, 0, 0))]) hs ti57 rfl rfl ?_
 intro b9 w10 hs
 replace hs := Sat.n3 (Γ := Φ) hs rfl
 refine Wo (Run_assign Opd.c) rfl <| Wo (Run_assign Opd.c) rfl <| Wo (Run_assign Opd.c) rfl <| ?_
 refine WL_nil <| At_then <| WC_seq <| WC_region ?_
 refine Wo (Run_move (O rfl)) rfl <| Wo (Run_move (O rfl)) rfl <| Wo (Run_move (O rfl)) rfl <| Wo (Run_build (parts := [(0, (.tmp 12)), (1, (.tmp 13)), (2, (.tmp 14))]) (v := (.agg #[(sl v1), (.int .i64 at_), (sl v3), (.int .i64 0), (.int .i64 0)])) (.cons (O rfl) (.cons (O rfl) (.cons (O rfl) .nil))) (fun _ => by kernel_rfl)) rfl <| ?_
 refine WS_alloc (zs := [(sl (none, 0, 0)), (.int .i64 0), (sl (none, 0, 0)), (.int .i64 0), (.int .i64 0)]) hs ti123 rfl rfl ?_
 intro b11 w12 hs
 replace hs := Sat.n4 (Γ := Φ) hs rfl
 refine WS_store (us := [(sl v1), (.int .i64 at_), (sl v3), (.int .i64 0), (.int .i64 0)]) (vs' := [(sl v1), (.int .i64 at_), (sl v3), (.int .i64 0), (.int .i64 0)]) hs 0 rfl ti123 (O rfl) (O rfl) rfl rfl rfl rfl rfl ?_
 intro w13 hs
 replace hs := Sat.n4 (Γ := Φ) hs rfl
 refine WL_nil <| At_then <| WC_seq <| WC_region ?_
 obtain ⟨r14, hr15, hm⟩ := bind_some' hm
 refine WL_call (f := 62) (first := []) (cap := []) (xs := [(.tmp 10), (.const (.int .i64 1)), (.const (.int .i64 0))]) (vs := [(.pointer (some ⟨b11, 0, none⟩)), (.int .i64 1), (.int .i64 0)]) (args := [(.pointer (some ⟨b11, 0, none⟩)), (.int .i64 1), (.int .i64 0)]) Tryd.call62 Opd.f (.cons (O rfl) (.cons Opd.c (.cons Opd.c .nil))) rfl rfl (scrutinyref13_look_line_s3_ok (hs.re 4 [0, 2, 3, 1] rfl) hr15) ?_
 rintro _ w18 ⟨v16, R17, rfl, hs⟩
 replace hs := Sat.n5 (Γ := Φ) hs rfl
 refine WS_alloc (zs := [(.int .i64 0), (.int .i64 0), (.int .i64 0), (sl (none, 0, 0))]) hs ti57 rfl rfl ?_
 intro b19 w20 hs
 replace hs := Sat.n6 (Γ := Φ) hs rfl
 refine WS_store (us := [(.int .i64 r14.1.op), (.int .i64 r14.1.n), (.int .i64 r14.1.at_), (sl v16)]) (vs' := [(.int .i64 r14.1.op), (.int .i64 r14.1.n), (.int .i64 r14.1.at_), (sl v16)]) hs 0 rfl ti57 (O rfl) (O rfl) rfl rfl rfl rfl rfl ?_
 intro w21 hs
 replace hs := Sat.n6 (Γ := Φ) hs rfl
 refine WL_nil <| At_then <| WC_seq <| WC_seq <| WC_region ?_
 refine Wo (Run_fieldAddr fo123_3 (O rfl)) rfl <| Wo (Run_load1 (v := (.int .i64 r14.2.2.1)) Tryd.underlying3 rfl (O rfl) (fun _ => (hs.box (i := 2) rfl).part 3 rfl)) rfl <| Wo (Run_neI (O rfl) Opd.c) rfl <| ?_
 refine WL_nil <| At_then ?_
 refine WC_cond (O rfl) (fun hc22 => ?_) (fun hc22 => ?_)
 ·
  replace hm := bif_t hc22 hm
  refine WC_seq ?_
  refine WC_region_mixed [0, 0, 2, 0, 8, 1, 33, 103, 255] (.q 0 0 (.q 1 1 (.q 2 3 (.q 3 7 (.q 4 15 (.l 5 31 (.q 6 63 (.q 7 127 (.q 8 255 .nil))))))))) (by kernel_rfl) (by kernel_rfl) ?_
  intro w23 hx24
  replace hs := hs.ext hx24
  refine WD_pure (fun _ => (Run_build (parts := []) (v := (.agg #[(.int .i64 0), (.int .i64 0), (.int .i64 0), (sl (none, 0, 0))])) .nil (fun _ => by kernel_rfl))) rfl rfl rfl rfl <| WD_pure (fun _ => (Run_fieldAddr fo123_3 (O rfl))) rfl rfl rfl rfl <| WD_op (fun w => CellsAt w ⟨b11, 3, none⟩ [(.int .i64 r14.2.2.1)]) ((hs.box (i := 2) rfl).part 3 rfl) (fun _ hJ => (Run_load1 (v := (.int .i64 r14.2.2.1)) Tryd.underlying3 rfl (O rfl) (fun _ => hJ))) rfl rfl rfl rfl <| WD_pure (fun _ => (Run_fieldAddr fo123_4 (O rfl))) rfl rfl rfl rfl <| WD_op (fun w => CellsAt w ⟨b11, 4, none⟩ [(.int .i64 r14.2.2.2)]) ((hs.box (i := 2) rfl).part 4 rfl) (fun _ hJ => (Run_load1 (v := (.int .i64 r14.2.2.2)) Tryd.underlying3 rfl (O rfl) (fun _ => hJ))) rfl rfl rfl rfl <| ?_
  refine WD_loud (pend' := [(4, fun w => CellsAt w ⟨b11, 4, none⟩ [(.int .i64 r14.2.2.2)]), (2, fun w => CellsAt w ⟨b11, 3, none⟩ [(.int .i64 r14.2.2.1)])]) rfl (by kernel_rfl) ?_
  refine WS_store (us := [(.int .i64 0), (.int .i64 0), (.int .i64 0), (sl (none, 0, 0))]) (vs' := [(.int .i64 0), (.int .i64 0), (.int .i64 0), (sl (none, 0, 0))]) hs 5 rfl ti57 (O rfl) (O rfl) rfl rfl rfl rfl rfl ?_
  intro w25 hs
  replace hs := Sat.n6 (Γ := Φ) hs rfl
  refine WL_nil ?_
  refine At_QK (allJ_cons ((hs.box (i := 2) rfl).part 4 rfl) (allJ_cons ((hs.box (i := 2) rfl).part 3 rfl) allJ_nil)) ?_
  refine WD_pure (fun _ => (Run_assign Opd.c)) rfl rfl rfl rfl <| WD_pure (fun _ => (Run_assign (O rfl))) rfl rfl rfl rfl <| WD_pure (fun _ => (Run_assign (O rfl))) rfl rfl rfl rfl <| ?_
  refine WD_nil ?_
  refine At_then ?_
  refine WC_ret ?_
  refine At_then_ret <| ?_
  refine At_r4 rfl (ResIs.cA (vs := [(.int .i64 0), (.int .i64 0), (.int .i64 0), (sl (none, 0, 0))]) rfl Tryd.underlying57 rfl ti57 ((hs.box (i := 5) rfl).part 0 rfl) rfl) (ResIs.t rfl) (ResIs.t rfl) (ResIs.t rfl) ?_
  replace hs := hs.addNil RExpr 57
  cases hm
  exact ⟨(none, 0, 0), [], rfl, (hs.re 7 [0, 4, 5] rfl)⟩
 ·
  replace hm := bif_f hc22 hm
  refine WC_skip ?_
  refine At_then <| WC_seq ?_
  refine WC_region_mixed [0, 0, 2, 1, 15, 31, 63] (.q 0 0 (.q 1 1 (.q 2 3 (.l 3 7 (.q 4 15 (.q 5 31 (.q 6 63 .nil))))))) (by kernel_rfl) (by kernel_rfl) ?_
  intro w26 hx27
  replace hs := hs.ext hx27
  refine WD_op (fun w => CellsAt w ⟨b19, 0, none⟩ [(.int .i64 r14.1.op), (.int .i64 r14.1.n), (.int .i64 r14.1.at_), (sl v16)]) ((hs.box (i := 0) rfl).part 0 rfl) (fun _ hJ => (Run_loadA (vs := [(.int .i64 r14.1.op), (.int .i64 r14.1.n), (.int .i64 r14.1.at_), (sl v16)]) Tryd.underlying57 rfl ti57 (O rfl) (fun _ => hJ) rfl)) rfl rfl rfl rfl <| WD_pure (fun _ => (Run_fieldAddr fo123_1 (O rfl))) rfl rfl rfl rfl <| WD_op (fun w => CellsAt w ⟨b11, 1, none⟩ [(.int .i64 r14.2.1)]) ((hs.box (i := 2) rfl).part 1 rfl) (fun _ hJ => (Run_load1 (v := (.int .i64 r14.2.1)) Tryd.underlying3 rfl (O rfl) (fun _ => hJ))) rfl rfl rfl rfl <| ?_
  refine WD_loud (pend' := [(2, fun w => CellsAt w ⟨b11, 1, none⟩ [(.int .i64 r14.2.1)])]) rfl (by kernel_rfl) ?_
  refine WS_store (us := [(.int .i64 r14.1.op), (.int .i64 r14.1.n), (.int .i64 r14.1.at_), (sl v16)]) (vs' := [(.int .i64 r14.1.op), (.int .i64 r14.1.n), (.int .i64 r14.1.at_), (sl v16)]) hs 5 rfl ti57 (O rfl) (O rfl) rfl rfl rfl rfl rfl ?_
  intro w28 hs
  replace hs := Sat.n6 (Γ := Φ) hs rfl
  refine WL_nil ?_
  refine At_QK (allJ_cons ((hs.box (i := 2) rfl).part 1 rfl) allJ_nil) ?_
  refine WD_pure (fun _ => (Run_assign (O rfl))) rfl rfl rfl rfl <| WD_pure (fun _ => (Run_assign Opd.c)) rfl rfl rfl rfl <| WD_pure (fun _ => (Run_assign Opd.c)) rfl rfl rfl rfl <| ?_
  refine WD_nil ?_
  refine At_then ?_
  refine WC_ret ?_
  refine At_r4 rfl (ResIs.cA (vs := [(.int .i64 r14.1.op), (.int .i64 r14.1.n), (.int .i64 r14.1.at_), (sl v16)]) rfl Tryd.underlying57 rfl ti57 ((hs.box (i := 5) rfl).part 0 rfl) rfl) (ResIs.t rfl) (ResIs.t rfl) (ResIs.t rfl) ?_
  cases hm
  exact ⟨v16, R17, rfl, (hs.re 6 [1, 3, 4] rfl)⟩
set_option maxRecDepth 100000 in
set_option maxHeartbeats 4000000 in
theorem scrutinyref13_Type_F_ok {k_scrutinyref13_Type : Ex → Option (Int × Int × Int)} (ih_scrutinyref13_Type : ∀ {Φ : Ctx} {w : World} {e : Ex} {v1 : SLV} {r : (Int × Int × Int)}, Sat (imm (RSl RExpr) [sl v1] e.l :: Φ) w → k_scrutinyref13_Type e = some r → CallsR Tryd.prog 59 [(.agg #[(.int .i64 e.op), (.int .i64 e.n), (.int .i64 e.at_), (sl v1)])] w (fun v w' => v = (.tuple #[(.int .i64 r.1), (.int .i64 r.2.1), (.int .i64 r.2.2)]) ∧ Sat (Φ) w')) {Φ : Ctx} {w : World} {e : Ex} {v1 : SLV} {r : (Int × Int × Int)} (hs : Sat (imm (RSl RExpr) [sl v1] e.l :: Φ) w) (hm : scrutinyref13_Type_F k_scrutinyref13_Type e = some r) :
  CallsR Tryd.prog 59 [(.agg #[(.int .i64 e.op), (.int .i64 e.n), (.int .i64 e.at_), (sl v1)])] w (fun v w' => v = (.tuple #[(.int .i64 r.1), (.int .i64 r.2.1), (.int .i64 r.2.2)]) ∧ Sat (Φ) w') := by
 refine CallsX_enter Tryd.func59 rfl Tryd.ntmps59 rfl ?_
 unfold scrutinyref13_Type_F at hm
 refine WC_seq <| WC_region ?_
 refine WS_box (zs := [(.int .i64 e.op), (.int .i64 e.n), (.int .i64 e.at_), (sl v1)]) hs (O rfl) rfl rfl ?_
 intro b5 w6 hs
 replace hs := Sat.n2 (Γ := Φ) hs rfl
 refine Wo (Run_assign Opd.c) rfl <| Wo (Run_assign Opd.c) rfl <| Wo (Run_assign Opd.c) rfl <| ?_
 refine WL_nil <| At_then <| WC_seq <| WC_region ?_
 refine Wo (Run_assign Opd.c) rfl <| ?_
 refine WL_nil <| At_then <| WC_seq <| WC_region ?_
 refine Wo (Run_assign Opd.c) rfl <| ?_
 refine WL_nil <| At_then <| WC_seq <| WC_region ?_
 refine Wo (Run_assign Opd.c) rfl <| ?_
 refine WL_nil <| At_then <| WC_seq <| WC_seq <| WC_region ?_
 refine Wo (Run_assign Opd.c) rfl <| ?_
 refine WL_nil <| At_then ?_
 refine WC_block ?_
 refine WC_loop (σ := Int × Int × Int × Int) (γ := Unit) (F := (scrutinyref13_Type_L1 k_scrutinyref13_Type e)) (N := FUEL) (s0 := (0, 0, 0, 0)) (r := r) (fun ⟨ints8, bools9, times10, i11⟩ (_ : Unit) w7 => Sat (box b5 57 [(.int .i64 e.op), (.int .i64 e.n), (.int .i64 e.at_), (sl v1)] :: imm (RSl RExpr) [sl v1] e.l :: Φ) w7) (fun ⟨ints8, bools9, times10, i11⟩ (_ : Unit) => [(1, true, (.pointer (some ⟨b5, 0, none⟩))), (5, true, (.int .i64 ints8)), (6, true, (.int .i64 bools9)), (7, true, (.int .i64 times10)), (8, true, (.int .i64 i11))]) hm () (hs.re 2 [0, 1] rfl) rfl ?_
 rintro again12 ⟨ints8, bools9, times10, i11⟩ _ w7 hm hs
 unfold scrutinyref13_Type_L1 at hm
 dsimp only at hm
 refine WC_seq <| WC_seq <| WC_region ?_
 refine Wo (Run_move (O rfl)) rfl <| Wo (Run_fieldAddr fo57_3 (O rfl)) rfl <| Wo (Run_load1 (v := (sl v1)) Tryd.underlying55 rfl (O rfl) (fun _ => (hs.box (i := 0) rfl).part 3 rfl)) rfl <| Wo (Run_lenSlG Tryd.underlying55 (O rfl) (fun hg => (hs.sl (i := 1) rfl).len)) rfl <| Wo (Run_ltI (O rfl) (O rfl)) rfl <| ?_
 refine WL_nil <| At_then ?_
 refine WC_cond (O rfl) (fun hc13 => ?_) (fun hc13 => ?_)
 ·
  replace hm := bif_t hc13 hm
  refine WC_skip ?_
  refine At_then <| WC_seq ?_
  refine WC_block ?_
  refine WC_seq <| WC_region ?_
  refine Wo (Run_fieldAddr fo57_3 (O rfl)) rfl <| Wo (Run_load1 (v := (sl v1)) Tryd.underlying55 rfl (O rfl) (fun _ => (hs.box (i := 0) rfl).part 3 rfl)) rfl <| Wo (Run_move (O rfl)) rfl <| ?_
  obtain ⟨e14, he15, hm⟩ := bind_some' hm
  obtain ⟨v16, hC17, hN18, hR19⟩ := cellsM57 (g := true) (fun hg => (hs.sl (i := 1) rfl)) (fun hg => he15)
  replace hs := hs.addL [elem true (elA (sl v1) i11 4) [(.int .i64 e14.op), (.int .i64 e14.n), (.int .i64 e14.at_), (sl v16)], imm (RSl RExpr) [sl v16] e14.l] rfl ⟨fun hg => ⟨hN18 hg, hC17 hg⟩, ⟨_, rfl, hR19 rfl⟩, trivial⟩
  replace hs := Sat.n4 (Γ := Φ) hs rfl
  refine Wo (Run_idxAddr (p := (elA (sl v1) i11 4)) Tryd.underlying55 ti57 (O rfl) (O rfl) (fun hg => (SRd.atA (A := RExpr) (v := (sl v1)) (hs.sl (i := 3) rfl) he15).1)) rfl <| Wo (Run_loadA (vs := [(.int .i64 e14.op), (.int .i64 e14.n), (.int .i64 e14.at_), (sl v16)]) Tryd.underlying57 rfl ti57 (O rfl) (fun hg => ((hs.elem (i := 0) rfl) hg).sub 0 rfl) rfl) rfl <| ?_
  obtain ⟨r20, hr21, hm⟩ := bind_some' hm
  refine WL_call (f := 59) (first := []) (cap := []) (xs := [(.tmp 25)]) (vs := [(.agg #[(.int .i64 e14.op), (.int .i64 e14.n), (.int .i64 e14.at_), (sl v16)])]) (args := [(.agg #[(.int .i64 e14.op), (.int .i64 e14.n), (.int .i64 e14.at_), (sl v16)])]) Tryd.call59 Opd.f (.cons (O rfl) .nil) rfl rfl (ih_scrutinyref13_Type (hs.re 4 [1, 0, 1, 2, 3] rfl) hr21) ?_
  rintro _ w22 ⟨rfl, hs⟩
  replace hs := Sat.n4 (Γ := Φ) hs rfl
  refine Wo (Run_move (O rfl)) rfl <| Wo (Run_extract (vs := [(.int .i64 r20.1), (.int .i64 r20.2.1), (.int .i64 r20.2.2)]) (O rfl) rfl) rfl <| Wo (Run_extract (vs := [(.int .i64 r20.1), (.int .i64 r20.2.1), (.int .i64 r20.2.2)]) (O rfl) rfl) rfl <| Wo (Run_extract (vs := [(.int .i64 r20.1), (.int .i64 r20.2.1), (.int .i64 r20.2.2)]) (O rfl) rfl) rfl <| Wo (Run_assign (O rfl)) rfl <| Wo (Run_assign (O rfl)) rfl <| Wo (Run_assign (O rfl)) rfl <| ?_
  refine WL_nil <| At_then <| WC_seq <| WC_seq <| WC_region ?_
  refine Wo (Run_move (O rfl)) rfl <| Wo (Run_neI (O rfl) Opd.c) rfl <| ?_
  refine WL_nil <| At_then ?_
  refine WC_cond (O rfl) (fun hc23 => ?_) (fun hc23 => ?_)
  ·
   replace hm := bif_t hc23 hm
   refine WC_seq <| WC_region ?_
   refine Wo (Run_move (O rfl)) rfl <| Wo (Run_move (O rfl)) rfl <| Wo (Run_assign Opd.c) rfl <| Wo (Run_assign (O rfl)) rfl <| Wo (Run_assign (O rfl)) rfl <| ?_
   refine WL_nil <| At_then ?_
   refine WC_ret ?_
   refine At_then_ret <| At_blk_ret <| At_then_ret <| At_then_ret <| At_blk_ret <| At_then_ret <| ?_
   refine At_r3 rfl (ResIs.t rfl) (ResIs.t rfl) (ResIs.t rfl) ?_
   cases hm
   exact ⟨rfl, (hs.re 4 [] rfl)⟩
  ·
   replace hm := bif_f hc23 hm
   refine WC_skip ?_
   refine At_then ?_
   refine WC_seq_cut (γ := Int) (fun ints25 w24 => scrutinyref13_Type_K2 bools9 times10 i11 again12 r20 ints25 = some r ∧ Sat (box b5 57 [(.int .i64 e.op), (.int .i64 e.n), (.int .i64 e.at_), (sl v1)] :: imm (RSl RExpr) [sl v1] e.l :: Φ) w24) (fun ints25 => [(1, true, (.pointer (some ⟨b5, 0, none⟩))), (5, true, (.int .i64 ints25)), (6, true, (.int .i64 bools9)), (7, true, (.int .i64 times10)), (8, true, (.int .i64 i11)), (9, true, (.int .i64 r20.1))]) ?_ ?_
   ·
    rintro ints25 w24 ⟨hm, hs⟩
    unfold scrutinyref13_Type_K2 at hm
    refine WC_seq_cut (γ := Int) (fun bools27 w26 => scrutinyref13_Type_K3 times10 i11 again12 r20 ints25 bools27 = some r ∧ Sat (box b5 57 [(.int .i64 e.op), (.int .i64 e.n), (.int .i64 e.at_), (sl v1)] :: imm (RSl RExpr) [sl v1] e.l :: Φ) w26) (fun bools27 => [(1, true, (.pointer (some ⟨b5, 0, none⟩))), (5, true, (.int .i64 ints25)), (6, true, (.int .i64 bools27)), (7, true, (.int .i64 times10)), (8, true, (.int .i64 i11)), (9, true, (.int .i64 r20.1))]) ?_ ?_
    ·
     rintro bools27 w26 ⟨hm, hs⟩
     unfold scrutinyref13_Type_K3 at hm
     refine WC_seq <| WC_region ?_
     refine Wo (Run_move (O rfl)) rfl <| Wo (Run_eqI (O rfl) Opd.c) rfl <| ?_
     refine WL_nil <| At_then ?_
     refine WC_cond (O rfl) (fun hc28 => ?_) (fun hc28 => ?_)
     ·
      replace hm := bif_t hc28 hm
      refine WC_region ?_
      refine Wo (Run_move (O rfl)) rfl <| Wo (Run_add (O rfl) Opd.c) rfl <| Wo (Run_assign (O rfl)) rfl <| ?_
      refine WL_nil ?_
      refine At_blk_normal ?_
      refine At_then <| WC_region ?_
      refine Wo (Run_move (O rfl)) rfl <| Wo (Run_add (O rfl) Opd.c) rfl <| Wo (Run_assign (O rfl)) rfl <| ?_
      refine WL_nil ?_
      exact At_again (ints25, bools27, (IntKind.i64.wrap (times10 + 1)), (IntKind.i64.wrap (i11 + 1))) () hm (hs.re 2 [0, 1] rfl) rfl
     ·
      replace hm := bif_f hc28 hm
      refine WC_skip ?_
      refine At_blk_normal ?_
      refine At_then <| WC_region ?_
      refine Wo (Run_move (O rfl)) rfl <| Wo (Run_add (O rfl) Opd.c) rfl <| Wo (Run_assign (O rfl)) rfl <| ?_
      refine WL_nil ?_
      exact At_again (ints25, bools27, times10, (IntKind.i64.wrap (i11 + 1))) () hm (hs.re 2 [0, 1] rfl) rfl
    ·
     refine WC_seq <| WC_region ?_
     refine Wo (Run_move (O rfl)) rfl <| Wo (Run_eqI (O rfl) Opd.c) rfl <| ?_
     refine WL_nil <| At_then ?_
     refine WC_cond (O rfl) (fun hc29 => ?_) (fun hc29 => ?_)
     ·
      replace hm := bif_t hc29 hm
      refine WC_region ?_
      refine Wo (Run_move (O rfl)) rfl <| Wo (Run_add (O rfl) Opd.c) rfl <| Wo (Run_assign (O rfl)) rfl <| ?_
      refine WL_nil ?_
      exact At_join (IntKind.i64.wrap (bools9 + 1)) ⟨hm, (hs.re 2 [0, 1] rfl)⟩ rfl
     ·
      replace hm := bif_f hc29 hm
      refine WC_skip ?_
      exact At_join bools9 ⟨hm, (hs.re 2 [0, 1] rfl)⟩ rfl
   ·
    refine WC_seq <| WC_region ?_
    refine Wo (Run_move (O rfl)) rfl <| Wo (Run_eqI (O rfl) Opd.c) rfl <| ?_
    refine WL_nil <| At_then ?_
    refine WC_cond (O rfl) (fun hc30 => ?_) (fun hc30 => ?_)
    ·
     replace hm := bif_t hc30 hm
     refine WC_region ?_
     refine Wo (Run_move (O rfl)) rfl <| Wo (Run_add (O rfl) Opd.c) rfl <| Wo (Run_assign (O rfl)) rfl <| ?_
     refine WL_nil ?_
     exact At_join (IntKind.i64.wrap (ints8 + 1)) ⟨hm, (hs.re 4 [2, 3] rfl)⟩ rfl
    ·
     replace hm := bif_f hc30 hm
     refine WC_skip ?_
     exact At_join ints8 ⟨hm, (hs.re 4 [2, 3] rfl)⟩ rfl
 ·
  replace hm := bif_f hc13 hm
  refine WC_exit ?_
  refine At_then_exit <| At_then_exit <| At_blk_here <| ?_
  refine At_then <| WC_seq <| WC_region ?_
  refine Wo (Run_fieldAddr fo57_3 (O rfl)) rfl <| Wo (Run_load1 (v := (sl v1)) Tryd.underlying55 rfl (O rfl) (fun _ => (hs.box (i := 0) rfl).part 3 rfl)) rfl <| Wo (Run_lenSlG Tryd.underlying55 (O rfl) (fun hg => (hs.sl (i := 1) rfl).len)) rfl <| Wo (Run_assign (O rfl)) rfl <| ?_
  refine WL_nil <| At_then <| WC_seq <| WC_seq <| WC_region ?_
  refine Wo (Run_fieldAddr fo57_0 (O rfl)) rfl <| Wo (Run_load1 (v := (.int .i64 e.op)) Tryd.underlying3 rfl (O rfl) (fun _ => (hs.box (i := 0) rfl).part 0 rfl)) rfl <| ?_
  obtain ⟨b31, e32, hm⟩ := letv_some hm
  refine Wo (Run.eqB (Run_leI (O rfl) Opd.c) e32) rfl <| Wo (Run_move (O rfl)) rfl <| WL_opG rfl rfl rfl rfl guard_pos (Run_move (O rfl)) rfl rfl rfl <| WL_opG rfl rfl rfl rfl guard_pos (Run_move (O rfl)) rfl rfl rfl <| ?_
  obtain ⟨b33, e34, hm⟩ := letv_some hm
  refine WL_opG rfl rfl rfl rfl guard_pos (Run.eqB (Run_eqI (Opd.g rfl id) (Opd.g rfl id)) e34) rfl rfl rfl <| ?_
  obtain ⟨b35, e36, hm⟩ := letv_some hm
  refine Wo (Run.eqB (Run_and (O rfl) (Opd.g rfl id)) e36) rfl <| ?_
  refine WL_nil <| At_then ?_
  refine WC_cond (O rfl) (fun hc37 => ?_) (fun hc37 => ?_)
  ·
   replace hm := bif_t hc37 hm
   refine WC_seq <| WC_region ?_
   refine Wo (Run_assign Opd.c) rfl <| Wo (Run_assign Opd.c) rfl <| Wo (Run_assign Opd.c) rfl <| ?_
   refine WL_nil <| At_then ?_
   refine WC_ret ?_
   refine At_then_ret <| ?_
   refine At_r3 rfl (ResIs.t rfl) (ResIs.t rfl) (ResIs.t rfl) ?_
   cases hm
   exact ⟨rfl, (hs.re 2 [] rfl)⟩
  ·
   replace hm := bif_f hc37 hm
   refine WC_skip ?_
   refine At_then <| WC_seq <| WC_seq <| WC_region ?_
   refine Wo (Run_fieldAddr fo57_0 (O rfl)) rfl <| Wo (Run_load1 (v := (.int .i64 e.op)) Tryd.underlying3 rfl (O rfl) (fun _ => (hs.box (i := 0) rfl).part 0 rfl)) rfl <| ?_
   obtain ⟨b38, e39, hm⟩ := letv_some hm
   refine Wo (Run.eqB (Run_geI (O rfl) Opd.c) e39) rfl <| Wo (Run_move (O rfl)) rfl <| WL_opG rfl rfl rfl rfl guard_pos (Run_fieldAddr fo57_0 (O rfl)) rfl rfl rfl <| WL_opG rfl rfl rfl rfl guard_pos (Run_load1 (v := (.int .i64 e.op)) Tryd.underlying3 rfl (Opd.g rfl id) (fun _ => (hs.box (i := 0) rfl).part 0 rfl)) rfl rfl rfl <| ?_
   obtain ⟨b40, e41, hm⟩ := letv_some hm
   refine WL_opG rfl rfl rfl rfl guard_pos (Run.eqB (Run_leI (Opd.g rfl id) Opd.c) e41) rfl rfl rfl <| ?_
   obtain ⟨b42, e43, hm⟩ := letv_some hm
   refine Wo (Run.eqB (Run_and (O rfl) (Opd.g rfl id)) e43) rfl <| Wo (Run_move (O rfl)) rfl <| WL_opG rfl rfl rfl rfl guard_pos (Run_move (O rfl)) rfl rfl rfl <| WL_opG rfl rfl rfl rfl guard_pos (Run_move (O rfl)) rfl rfl rfl <| ?_
   obtain ⟨b44, e45, hm⟩ := letv_some hm
   refine WL_opG rfl rfl rfl rfl guard_pos (Run.eqB (Run_eqI (Opd.g rfl id) (Opd.g rfl id)) e45) rfl rfl rfl <| ?_
   obtain ⟨b46, e47, hm⟩ := letv_some hm
   refine Wo (Run.eqB (Run_and (O rfl) (Opd.g rfl id)) e47) rfl <| Wo (Run_move (O rfl)) rfl <| Wg rfl guard_neg (Run_fieldAddr fo57_0 (O rfl)) rfl <| Wg rfl guard_neg (Run_load1 (v := (.int .i64 e.op)) Tryd.underlying3 rfl (Opd.g rfl id) (fun _ => (hs.box (i := 0) rfl).part 0 rfl)) rfl <| ?_
   obtain ⟨b48, e49, hm⟩ := letv_some hm
   refine Wg rfl guard_neg (Run.eqB (Run_eqI (Opd.g rfl id) Opd.c) e49) rfl <| ?_
   obtain ⟨b50, e51, hm⟩ := letv_some hm
   refine Wo (Run.eqB (Run_or (O rfl) (Opd.g rfl id)) e51) rfl <| Wo (Run_move (O rfl)) rfl <| Wg rfl guard_neg (Run_fieldAddr fo57_0 (O rfl)) rfl <| Wg rfl guard_neg (Run_load1 (v := (.int .i64 e.op)) Tryd.underlying3 rfl (Opd.g rfl id) (fun _ => (hs.box (i := 0) rfl).part 0 rfl)) rfl <| ?_
   obtain ⟨b52, e53, hm⟩ := letv_some hm
   refine Wg rfl guard_neg (Run.eqB (Run_eqI (Opd.g rfl id) Opd.c) e53) rfl <| ?_
   obtain ⟨b54, e55, hm⟩ := letv_some hm
   refine Wo (Run.eqB (Run_or (O rfl) (Opd.g rfl id)) e55) rfl <| ?_
   refine WL_nil <| At_then ?_
   refine WC_cond (O rfl) (fun hc56 => ?_) (fun hc56 => ?_)
   ·
    replace hm := bif_t hc56 hm
    refine WC_seq <| WC_region ?_
    refine Wo (Run_assign Opd.c) rfl <| Wo (Run_assign Opd.c) rfl <| Wo (Run_assign Opd.c) rfl <| ?_
    refine WL_nil <| At_then ?_
    refine WC_ret ?_
    refine At_then_ret <| ?_
    refine At_r3 rfl (ResIs.t rfl) (ResIs.t rfl) (ResIs.t rfl) ?_
    cases hm
    exact ⟨rfl, (hs.re 2 [] rfl)⟩
   ·
    replace hm := bif_f hc56 hm
    refine WC_skip ?_
    refine At_then <| WC_seq <| WC_seq <| WC_region ?_
    refine Wo (Run_fieldAddr fo57_0 (O rfl)) rfl <| Wo (Run_load1 (v := (.int .i64 e.op)) Tryd.underlying3 rfl (O rfl) (fun _ => (hs.box (i := 0) rfl).part 0 rfl)) rfl <| ?_
    obtain ⟨b57, e58, hm⟩ := letv_some hm
    refine Wo (Run.eqB (Run_geI (O rfl) Opd.c) e58) rfl <| Wo (Run_move (O rfl)) rfl <| WL_opG rfl rfl rfl rfl guard_pos (Run_fieldAddr fo57_0 (O rfl)) rfl rfl rfl <| WL_opG rfl rfl rfl rfl guard_pos (Run_load1 (v := (.int .i64 e.op)) Tryd.underlying3 rfl (Opd.g rfl id) (fun _ => (hs.box (i := 0) rfl).part 0 rfl)) rfl rfl rfl <| ?_
    obtain ⟨b59, e60, hm⟩ := letv_some hm
    refine WL_opG rfl rfl rfl rfl guard_pos (Run.eqB (Run_leI (Opd.g rfl id) Opd.c) e60) rfl rfl rfl <| ?_
    obtain ⟨b61, e62, hm⟩ := letv_some hm
    refine Wo (Run.eqB (Run_and (O rfl) (Opd.g rfl id)) e62) rfl <| Wo (Run_move (O rfl)) rfl <| WL_opG rfl rfl rfl rfl guard_pos (Run_move (O rfl)) rfl rfl rfl <| WL_opG rfl rfl rfl rfl guard_pos (Run_move (O rfl)) rfl rfl rfl <| ?_
    obtain ⟨b63, e64, hm⟩ := letv_some hm
    refine WL_opG rfl rfl rfl rfl guard_pos (Run.eqB (Run_eqI (Opd.g rfl id) (Opd.g rfl id)) e64) rfl rfl rfl <| ?_
    obtain ⟨b65, e66, hm⟩ := letv_some hm
    refine Wo (Run.eqB (Run_and (O rfl) (Opd.g rfl id)) e66) rfl <| ?_
    refine WL_nil <| At_then ?_
    refine WC_cond (O rfl) (fun hc67 => ?_) (fun hc67 => ?_)
    ·
     replace hm := bif_t hc67 hm
     refine WC_seq <| WC_region ?_
     refine Wo (Run_assign Opd.c) rfl <| Wo (Run_assign Opd.c) rfl <| Wo (Run_assign Opd.c) rfl <| ?_
     refine WL_nil <| At_then ?_
     refine WC_ret ?_
     refine At_then_ret <| ?_
     refine At_r3 rfl (ResIs.t rfl) (ResIs.t rfl) (ResIs.t rfl) ?_
     cases hm
     exact ⟨rfl, (hs.re 2 [] rfl)⟩
    ·
     replace hm := bif_f hc67 hm
     refine WC_skip ?_
     refine At_then <| WC_seq <| WC_seq <| WC_region ?_
     refine Wo (Run_fieldAddr fo57_0 (O rfl)) rfl <| Wo (Run_load1 (v := (.int .i64 e.op)) Tryd.underlying3 rfl (O rfl) (fun _ => (hs.box (i := 0) rfl).part 0 rfl)) rfl <| ?_
     obtain ⟨b68, e69, hm⟩ := letv_some hm
     refine Wo (Run.eqB (Run_geI (O rfl) Opd.c) e69) rfl <| Wo (Run_move (O rfl)) rfl <| WL_opG rfl rfl rfl rfl guard_pos (Run_move (O rfl)) rfl rfl rfl <| WL_opG rfl rfl rfl rfl guard_pos (Run_move (O rfl)) rfl rfl rfl <| WL_opG rfl rfl rfl rfl guard_pos (Run_add (Opd.g rfl id) (Opd.g rfl id)) rfl rfl rfl <| WL_opG rfl rfl rfl rfl guard_pos (Run_move (O rfl)) rfl rfl rfl <| ?_
     obtain ⟨b70, e71, hm⟩ := letv_some hm
     refine WL_opG rfl rfl rfl rfl guard_pos (Run.eqB (Run_eqI (Opd.g rfl id) (Opd.g rfl id)) e71) rfl rfl rfl <| ?_
     obtain ⟨b72, e73, hm⟩ := letv_some hm
     refine Wo (Run.eqB (Run_and (O rfl) (Opd.g rfl id)) e73) rfl <| ?_
     refine WL_nil <| At_then ?_
     refine WC_cond (O rfl) (fun hc74 => ?_) (fun hc74 => ?_)
     ·
      replace hm := bif_t hc74 hm
      refine WC_seq <| WC_region ?_
      refine Wo (Run_assign Opd.c) rfl <| Wo (Run_assign Opd.c) rfl <| Wo (Run_assign Opd.c) rfl <| ?_
      refine WL_nil <| At_then ?_
      refine WC_ret ?_
      refine At_then_ret <| ?_
      refine At_r3 rfl (ResIs.t rfl) (ResIs.t rfl) (ResIs.t rfl) ?_
      cases hm
      exact ⟨rfl, (hs.re 2 [] rfl)⟩
     ·
      replace hm := bif_f hc74 hm
      refine WC_skip ?_
      refine At_then <| WC_seq ?_
      refine WC_region_mixed [0, 1, 0, 4, 15] (.q 0 0 (.q 1 1 (.q 2 3 (.q 3 7 (.q 4 15 .nil))))) (by kernel_rfl) (by kernel_rfl) ?_
      intro w75 hx76
      replace hs := hs.ext hx76
      refine WD_pure (fun _ => (Run_fieldAddr fo57_2 (O rfl))) rfl rfl rfl rfl <| WD_op (fun w => CellsAt w ⟨b5, 2, none⟩ [(.int .i64 e.at_)]) ((hs.box (i := 0) rfl).part 2 rfl) (fun _ hJ => (Run_load1 (v := (.int .i64 e.at_)) Tryd.underlying3 rfl (O rfl) (fun _ => hJ))) rfl rfl rfl rfl <| WD_pure (fun _ => (Run_assign Opd.c)) rfl rfl rfl rfl <| WD_pure (fun _ => (Run_assign Opd.c)) rfl rfl rfl rfl <| WD_pure (fun _ => (Run_assign (O rfl))) rfl rfl rfl rfl <| ?_
      refine WD_nil ?_
      refine At_then ?_
      refine WC_ret ?_
      refine At_r3 rfl (ResIs.t rfl) (ResIs.t rfl) (ResIs.t rfl) ?_
      cases hm
      exact ⟨rfl, (hs.re 2 [] rfl)⟩
set_option maxRecDepth 100000 in
set_option maxHeartbeats 4000000 in
theorem scrutinyref13_Type_ok {Φ : Ctx} {w : World} {e : Ex} {v1 : SLV} {r : (Int × Int × Int)} (hs : Sat (imm (RSl RExpr) [sl v1] e.l :: Φ) w) (hm : scrutinyref13_Type e = some r) :
  CallsR Tryd.prog 59 [(.agg #[(.int .i64 e.op), (.int .i64 e.n), (.int .i64 e.at_), (sl v1)])] w (fun v w' => v = (.tuple #[(.int .i64 r.1), (.int .i64 r.2.1), (.int .i64 r.2.2)]) ∧ Sat (Φ) w') := by
 have key : ∀ (N : Nat) {Φ : Ctx} {w : World} {e : Ex} {v1 : SLV} {r : (Int × Int × Int)}, Sat (imm (RSl RExpr) [sl v1] e.l :: Φ) w → fixN (fun k (s : Ex) => scrutinyref13_Type_F k s) N e = some r → CallsR Tryd.prog 59 [(.agg #[(.int .i64 e.op), (.int .i64 e.n), (.int .i64 e.at_), (sl v1)])] w (fun v w' => v = (.tuple #[(.int .i64 r.1), (.int .i64 r.2.1), (.int .i64 r.2.2)]) ∧ Sat (Φ) w') := by
  intro N
  induction N with
  | zero => intros; rename_i h; cases h
  | succ N ih => intros; rename_i hs hm; rw [fixN_succ] at hm; exact scrutinyref13_Type_F_ok (@ih) hs hm
 unfold scrutinyref13_Type at hm
 exact key FUEL hs hm
set_option maxRecDepth 100000 in
set_option maxHeartbeats 4000000 in
theorem scrutinyref13_Type_s2_ok {Φ : Ctx} {w : World} {e : Ex} {v1 : SLV} {R : List Nat} {r : (Int × Int × Int)} (hs : Sat (osl RExpr 57 (sl v1) e.l R :: Φ) w) (hm : scrutinyref13_Type_s2 e = some r) :
  CallsR Tryd.prog 59 [(.agg #[(.int .i64 e.op), (.int .i64 e.n), (.int .i64 e.at_), (sl v1)])] w (fun v w' => v = (.tuple #[(.int .i64 r.1), (.int .i64 r.2.1), (.int .i64 r.2.2)]) ∧ Sat (osl RExpr 57 (sl v1) e.l R :: Φ) w') := by
 refine CallsX_enter Tryd.func59 rfl Tryd.ntmps59 rfl ?_
 unfold scrutinyref13_Type_s2 at hm
 refine WC_seq <| WC_region ?_
 refine WS_box (zs := [(.int .i64 e.op), (.int .i64 e.n), (.int .i64 e.at_), (sl v1)]) hs (O rfl) rfl rfl ?_
 intro b5 w6 hs
 replace hs := Sat.n2 (Γ := Φ) hs rfl
 refine Wo (Run_assign Opd.c) rfl <| Wo (Run_assign Opd.c) rfl <| Wo (Run_assign Opd.c) rfl <| ?_
 refine WL_nil <| At_then <| WC_seq <| WC_region ?_
 refine Wo (Run_assign Opd.c) rfl <| ?_
 refine WL_nil <| At_then <| WC_seq <| WC_region ?_
 refine Wo (Run_assign Opd.c) rfl <| ?_
 refine WL_nil <| At_then <| WC_seq <| WC_region ?_
 refine Wo (Run_assign Opd.c) rfl <| ?_
 refine WL_nil <| At_then <| WC_seq <| WC_seq <| WC_region ?_
 refine Wo (Run_assign Opd.c) rfl <| ?_
 refine WL_nil <| At_then ?_
 refine WC_block ?_
 refine WC_loop (σ := Int × Int × Int × Int) (γ := Unit) (F := (scrutinyref13_Type_s2_L1 e)) (N := FUEL) (s0 := (0, 0, 0, 0)) (r := r) (fun ⟨ints8, bools9, times10, i11⟩ (_ : Unit) w7 => Sat (box b5 57 [(.int .i64 e.op), (.int .i64 e.n), (.int .i64 e.at_), (sl v1)] :: osl RExpr 57 (sl v1) e.l R :: Φ) w7) (fun ⟨ints8, bools9, times10, i11⟩ (_ : Unit) => [(1, true, (.pointer (some ⟨b5, 0, none⟩))), (5, true, (.int .i64 ints8)), (6, true, (.int .i64 bools9)), (7, true, (.int .i64 times10)), (8, true, (.int .i64 i11))]) hm () (hs.re 2 [0, 1] rfl) rfl ?_
 rintro again12 ⟨ints8, bools9, times10, i11⟩ _ w7 hm hs
 unfold scrutinyref13_Type_s2_L1 at hm
 dsimp only at hm
 refine WC_seq <| WC_seq <| WC_region ?_
 refine Wo (Run_move (O rfl)) rfl <| Wo (Run_fieldAddr fo57_3 (O rfl)) rfl <| Wo (Run_load1 (v := (sl v1)) Tryd.underlying55 rfl (O rfl) (fun _ => (hs.box (i := 0) rfl).part 3 rfl)) rfl <| Wo (Run_lenSlG Tryd.underlying55 (O rfl) (fun _ => (hs.own (i := 1) rfl).len)) rfl <| Wo (Run_ltI (O rfl) (O rfl)) rfl <| ?_
 refine WL_nil <| At_then ?_
 refine WC_cond (O rfl) (fun hc13 => ?_) (fun hc13 => ?_)
 ·
  replace hm := bif_t hc13 hm
  refine WC_skip ?_
  refine At_then <| WC_seq ?_
  refine WC_block ?_
  refine WC_seq <| WC_region ?_
  refine Wo (Run_fieldAddr fo57_3 (O rfl)) rfl <| Wo (Run_load1 (v := (sl v1)) Tryd.underlying55 rfl (O rfl) (fun _ => (hs.box (i := 0) rfl).part 3 rfl)) rfl <| Wo (Run_move (O rfl)) rfl <| ?_
  obtain ⟨e14, he15, hm⟩ := bind_some' hm
  obtain ⟨v16, hC17, hN18, hR19⟩ := cellsMO57 (g := true) (fun hg => (hs.own (i := 1) rfl)) (fun hg => he15)
  replace hs := hs.addL [imm (RSl RExpr) [sl v16] e14.l] rfl ⟨⟨_, rfl, hR19 rfl⟩, trivial⟩
  replace hs := Sat.n3 (Γ := Φ) hs rfl
  refine Wo (Run_idxAddr (p := (elA (sl v1) i11 4)) Tryd.underlying55 ti57 (O rfl) (O rfl) (fun hg => (Own.atA (A := RExpr) (v := (sl v1)) (hs.own (i := 2) rfl) he15).1)) rfl <| Wo (Run_loadA (vs := [(.int .i64 e14.op), (.int .i64 e14.n), (.int .i64 e14.at_), (sl v16)]) Tryd.underlying57 rfl ti57 (O rfl) (fun hg => (hC17 hg).sub 0 rfl) rfl) rfl <| ?_
  obtain ⟨r20, hr21, hm⟩ := bind_some' hm
  refine WL_call (f := 59) (first := []) (cap := []) (xs := [(.tmp 25)]) (vs := [(.agg #[(.int .i64 e14.op), (.int .i64 e14.n), (.int .i64 e14.at_), (sl v16)])]) (args := [(.agg #[(.int .i64 e14.op), (.int .i64 e14.n), (.int .i64 e14.at_), (sl v16)])]) Tryd.call59 Opd.f (.cons (O rfl) .nil) rfl rfl (scrutinyref13_Type_ok (hs.re 3 [0, 0, 1, 2] rfl) hr21) ?_
  rintro _ w22 ⟨rfl, hs⟩
  replace hs := Sat.n3 (Γ := Φ) hs rfl
  refine Wo (Run_move (O rfl)) rfl <| Wo (Run_extract (vs := [(.int .i64 r20.1), (.int .i64 r20.2.1), (.int .i64 r20.2.2)]) (O rfl) rfl) rfl <| Wo (Run_extract (vs := [(.int .i64 r20.1), (.int .i64 r20.2.1), (.int .i64 r20.2.2)]) (O rfl) rfl) rfl <| Wo (Run_extract (vs := [(.int .i64 r20.1), (.int .i64 r20.2.1), (.int .i64 r20.2.2)]) (O rfl) rfl) rfl <| Wo (Run_assign (O rfl)) rfl <| Wo (Run_assign (O rfl)) rfl <| Wo (Run_assign (O rfl)) rfl <| ?_
  refine WL_nil <| At_then <| WC_seq <| WC_seq <| WC_region ?_
  refine Wo (Run_move (O rfl)) rfl <| Wo (Run_neI (O rfl) Opd.c) rfl <| ?_
  refine WL_nil <| At_then ?_
  refine WC_cond (O rfl) (fun hc23 => ?_) (fun hc23 => ?_)
  ·
   replace hm := bif_t hc23 hm
   refine WC_seq <| WC_region ?_
   refine Wo (Run_move (O rfl)) rfl <| Wo (Run_move (O rfl)) rfl <| Wo (Run_assign Opd.c) rfl <| Wo (Run_assign (O rfl)) rfl <| Wo (Run_assign (O rfl)) rfl <| ?_
   refine WL_nil <| At_then ?_
   refine WC_ret ?_
   refine At_then_ret <| At_blk_ret <| At_then_ret <| At_then_ret <| At_blk_ret <| At_then_ret <| ?_
   refine At_r3 rfl (ResIs.t rfl) (ResIs.t rfl) (ResIs.t rfl) ?_
   cases hm
   exact ⟨rfl, (hs.re 3 [2] rfl)⟩
  ·
   replace hm := bif_f hc23 hm
   refine WC_skip ?_
   refine At_then ?_
   refine WC_seq_cut (γ := Int) (fun ints25 w24 => scrutinyref13_Type_s2_K2 bools9 times10 i11 again12 r20 ints25 = some r ∧ Sat (box b5 57 [(.int .i64 e.op), (.int .i64 e.n), (.int .i64 e.at_), (sl v1)] :: osl RExpr 57 (sl v1) e.l R :: Φ) w24) (fun ints25 => [(1, true, (.pointer (some ⟨b5, 0, none⟩))), (5, true, (.int .i64 ints25)), (6, true, (.int .i64 bools9)), (7, true, (.int .i64 times10)), (8, true, (.int .i64 i11)), (9, true, (.int .i64 r20.1))]) ?_ ?_
   ·
    rintro ints25 w24 ⟨hm, hs⟩
    unfold scrutinyref13_Type_s2_K2 at hm
    refine WC_seq_cut (γ := Int) (fun bools27 w26 => scrutinyref13_Type_s2_K3 times10 i11 again12 r20 ints25 bools27 = some r ∧ Sat (box b5 57 [(.int .i64 e.op), (.int .i64 e.n), (.int .i64 e.at_), (sl v1)] :: osl RExpr 57 (sl v1) e.l R :: Φ) w26) (fun bools27 => [(1, true, (.pointer (some ⟨b5, 0, none⟩))), (5, true, (.int .i64 ints25)), (6, true, (.int .i64 bools27)), (7, true, (.int .i64 times10)), (8, true, (.int .i64 i11)), (9, true, (.int .i64 r20.1))]) ?_ ?_
    ·
     rintro bools27 w26 ⟨hm, hs⟩
     unfold scrutinyref13_Type_s2_K3 at hm
     refine WC_seq <| WC_region ?_
     refine Wo (Run_move (O rfl)) rfl <| Wo (Run_eqI (O rfl) Opd.c) rfl <| ?_
     refine WL_nil <| At_then ?_
     refine WC_cond (O rfl) (fun hc28 => ?_) (fun hc28 => ?_)
     ·
      replace hm := bif_t hc28 hm
      refine WC_region ?_
      refine Wo (Run_move (O rfl)) rfl <| Wo (Run_add (O rfl) Opd.c) rfl <| Wo (Run_assign (O rfl)) rfl <| ?_
      refine WL_nil ?_
      refine At_blk_normal ?_
      refine At_then <| WC_region ?_
      refine Wo (Run_move (O rfl)) rfl <| Wo (Run_add (O rfl) Opd.c) rfl <| Wo (Run_assign (O rfl)) rfl <| ?_
      refine WL_nil ?_
      exact At_again (ints25, bools27, (IntKind.i64.wrap (times10 + 1)), (IntKind.i64.wrap (i11 + 1))) () hm (hs.re 2 [0, 1] rfl) rfl
     ·
      replace hm := bif_f hc28 hm
      refine WC_skip ?_
      refine At_blk_normal ?_
      refine At_then <| WC_region ?_
      refine Wo (Run_move (O rfl)) rfl <| Wo (Run_add (O rfl) Opd.c) rfl <| Wo (Run_assign (O rfl)) rfl <| ?_
      refine WL_nil ?_
      exact At_again (ints25, bools27, times10, (IntKind.i64.wrap (i11 + 1))) () hm (hs.re 2 [0, 1] rfl) rfl
    ·
     refine WC_seq <| WC_region ?_
     refine Wo (Run_move (O rfl)) rfl <| Wo (Run_eqI (O rfl) Opd.c) rfl <| ?_
     refine WL_nil <| At_then ?_
     refine WC_cond (O rfl) (fun hc29 => ?_) (fun hc29 => ?_)
     ·
      replace hm := bif_t hc29 hm
      refine WC_region ?_
      refine Wo (Run_move (O rfl)) rfl <| Wo (Run_add (O rfl) Opd.c) rfl <| Wo (Run_assign (O rfl)) rfl <| ?_
      refine WL_nil ?_
      exact At_join (IntKind.i64.wrap (bools9 + 1)) ⟨hm, (hs.re 2 [0, 1] rfl)⟩ rfl
     ·
      replace hm := bif_f hc29 hm
      refine WC_skip ?_
      exact At_join bools9 ⟨hm, (hs.re 2 [0, 1] rfl)⟩ rfl
   ·
    refine WC_seq <| WC_region ?_
    refine Wo (Run_move (O rfl)) rfl <| Wo (Run_eqI (O rfl) Opd.c) rfl <| ?_
    refine WL_nil <| At_then ?_
    refine WC_cond (O rfl) (fun hc30 => ?_) (fun hc30 => ?_)
    ·
     replace hm := bif_t hc30 hm
     refine WC_region ?_
     refine Wo (Run_move (O rfl)) rfl <| Wo (Run_add (O rfl) Opd.c) rfl <| Wo (Run_assign (O rfl)) rfl <| ?_
     refine WL_nil ?_
     exact At_join (IntKind.i64.wrap (ints8 + 1)) ⟨hm, (hs.re 3 [1, 2] rfl)⟩ rfl
    ·
     replace hm := bif_f hc30 hm
     refine WC_skip ?_
     exact At_join ints8 ⟨hm, (hs.re 3 [1, 2] rfl)⟩ rfl
 ·
  replace hm := bif_f hc13 hm
  refine WC_exit ?_
  refine At_then_exit <| At_then_exit <| At_blk_here <| ?_
  refine At_then <| WC_seq <| WC_region ?_
  refine Wo (Run_fieldAddr fo57_3 (O rfl)) rfl <| Wo (Run_load1 (v := (sl v1)) Tryd.underlying55 rfl (O rfl) (fun _ => (hs.box (i := 0) rfl).part 3 rfl)) rfl <| Wo (Run_lenSlG Tryd.underlying55 (O rfl) (fun _ => (hs.own (i := 1) rfl).len)) rfl <| Wo (Run_assign (O rfl)) rfl <| ?_
  refine WL_nil <| At_then <| WC_seq <| WC_seq <| WC_region ?_
  refine Wo (Run_fieldAddr fo57_0 (O rfl)) rfl <| Wo (Run_load1 (v := (.int .i64 e.op)) Tryd.underlying3 rfl (O rfl) (fun _ => (hs.box (i := 0) rfl).part 0 rfl)) rfl <| ?_
  obtain ⟨b31, e32, hm⟩ := letv_some hm
  refine Wo (Run.eqB (Run_leI (O rfl) Opd.c) e32) rfl <| Wo (Run_move (O rfl)) rfl <| WL_opG rfl rfl rfl rfl guard_pos (Run_move (O rfl)) rfl rfl rfl <| WL_opG rfl rfl rfl rfl guard_pos (Run_move (O rfl)) rfl rfl rfl <| ?_
  obtain ⟨b33, e34, hm⟩ := letv_some hm
  refine WL_opG rfl rfl rfl rfl guard_pos (Run.eqB (Run_eqI (Opd.g rfl id) (Opd.g rfl id)) e34) rfl rfl rfl <| ?_
  obtain ⟨b35, e36, hm⟩ := letv_some hm
  refine Wo (Run.eqB (Run_and (O rfl) (Opd.g rfl id)) e36) rfl <| ?_
  refine WL_nil <| At_then ?_
  refine WC_cond (O rfl) (fun hc37 => ?_) (fun hc37 => ?_)
  ·
   replace hm := bif_t hc37 hm
   refine WC_seq <| WC_region ?_
   refine Wo (Run_assign Opd.c) rfl <| Wo (Run_assign Opd.c) rfl <| Wo (Run_assign Opd.c) rfl <| ?_
   refine WL_nil <| At_then ?_
   refine WC_ret ?_
   refine At_then_ret <| ?_
   refine At_r3 rfl (ResIs.t rfl) (ResIs.t rfl) (ResIs.t rfl) ?_
   cases hm
   exact ⟨rfl, (hs.re 2 [1] rfl)⟩
  ·
   replace hm := bif_f hc37 hm
   refine WC_skip ?_
   refine At_then <| WC_seq <| WC_seq <| WC_region ?_
   refine Wo (Run_fieldAddr fo57_0 (O rfl)) rfl <| Wo (Run_load1 (v := (.int .i64 e.op)) Tryd.underlying3 rfl (O rfl) (fun _ => (hs.box (i := 0) rfl).part 0 rfl)) rfl <| ?_
   obtain ⟨b38, e39, hm⟩ := letv_some hm
   refine Wo (Run.eqB (Run_geI (O rfl) Opd.c) e39) rfl <| Wo (Run_move (O rfl)) rfl <| WL_opG rfl rfl rfl rfl guard_pos (Run_fieldAddr fo57_0 (O rfl)) rfl rfl rfl <| WL_opG rfl rfl rfl rfl guard_pos (Run_load1 (v := (.int .i64 e.op)) Tryd.underlying3 rfl (Opd.g rfl id) (fun _ => (hs.box (i := 0) rfl).part 0 rfl)) rfl rfl rfl <| ?_
   obtain ⟨b40, e41, hm⟩ := letv_some hm
   refine WL_opG rfl rfl rfl rfl guard_pos (Run.eqB (Run_leI (Opd.g rfl id) Opd.c) e41) rfl rfl rfl <| ?_
   obtain ⟨b42, e43, hm⟩ := letv_some hm
   refine Wo (Run.eqB (Run_and (O rfl) (Opd.g rfl id)) e43) rfl <| Wo (Run_move (O rfl)) rfl <| WL_opG rfl rfl rfl rfl guard_pos (Run_move (O rfl)) rfl rfl rfl <| WL_opG rfl rfl rfl rfl guard_pos (Run_move (O rfl)) rfl rfl rfl <| ?_
   obtain ⟨b44, e45, hm⟩ := letv_some hm
   refine WL_opG rfl rfl rfl rfl guard_pos (Run.eqB (Run_eqI (Opd.g rfl id) (Opd.g rfl id)) e45) rfl rfl rfl <| ?_
   obtain ⟨b46, e47, hm⟩ := letv_some hm
   refine Wo (Run.eqB (Run_and (O rfl) (Opd.g rfl id)) e47) rfl <| Wo (Run_move (O rfl)) rfl <| Wg rfl guard_neg (Run_fieldAddr fo57_0 (O rfl)) rfl <| Wg rfl guard_neg (Run_load1 (v := (.int .i64 e.op)) Tryd.underlying3 rfl (Opd.g rfl id) (fun _ => (hs.box (i := 0) rfl).part 0 rfl)) rfl <| ?_
   obtain ⟨b48, e49, hm⟩ := letv_some hm
   refine Wg rfl guard_neg (Run.eqB (Run_eqI (Opd.g rfl id) Opd.c) e49) rfl <| ?_
   obtain ⟨b50, e51, hm⟩ := letv_some hm
   refine Wo (Run.eqB (Run_or (O rfl) (Opd.g rfl id)) e51) rfl <| Wo (Run_move (O rfl)) rfl <| Wg rfl guard_neg (Run_fieldAddr fo57_0 (O rfl)) rfl <| Wg rfl guard_neg (Run_load1 (v := (.int .i64 e.op)) Tryd.underlying3 rfl (Opd.g rfl id) (fun _ => (hs.box (i := 0) rfl).part 0 rfl)) rfl <| ?_
   obtain ⟨b52, e53, hm⟩ := letv_some hm
   refine Wg rfl guard_neg (Run.eqB (Run_eqI (Opd.g rfl id) Opd.c) e53) rfl <| ?_
   obtain ⟨b54, e55, hm⟩ := letv_some hm
   refine Wo (Run.eqB (Run_or (O rfl) (Opd.g rfl id)) e55) rfl <| ?_
   refine WL_nil <| At_then ?_
   refine WC_cond (O rfl) (fun hc56 => ?_) (fun hc56 => ?_)
   ·
    replace hm := bif_t hc56 hm
    refine WC_seq <| WC_region ?_
    refine Wo (Run_assign Opd.c) rfl <| Wo (Run_assign Opd.c) rfl <| Wo (Run_assign Opd.c) rfl <| ?_
    refine WL_nil <| At_then ?_
    refine WC_ret ?_
    refine At_then_ret <| ?_
    refine At_r3 rfl (ResIs.t rfl) (ResIs.t rfl) (ResIs.t rfl) ?_
    cases hm
    exact ⟨rfl, (hs.re 2 [1] rfl)⟩
   ·
    replace hm := bif_f hc56 hm
    refine WC_skip ?_
    refine At_then <| WC_seq <| WC_seq <| WC_region ?_
    refine Wo (Run_fieldAddr fo57_0 (O rfl)) rfl <| Wo (Run_load1 (v := (.int .i64 e.op)) Tryd.underlying3 rfl (O rfl) (fun _ => (hs.box (i := 0) rfl).part 0 rfl)) rfl <| ?_
    obtain ⟨b57, e58, hm⟩ := letv_some hm
    refine Wo (Run.eqB (Run_geI (O rfl) Opd.c) e58) rfl <| Wo (Run_move (O rfl)) rfl <| WL_opG rfl rfl rfl rfl guard_pos (Run_fieldAddr fo57_0 (O rfl)) rfl rfl rfl <| WL_opG rfl rfl rfl rfl guard_pos (Run_load1 (v := (.int .i64 e.op)) Tryd.underlying3 rfl (Opd.g rfl id) (fun _ => (hs.box (i := 0) rfl).part 0 rfl)) rfl rfl rfl <| ?_
    obtain ⟨b59, e60, hm⟩ := letv_some hm
    refine WL_opG rfl rfl rfl rfl guard_pos (Run.eqB (Run_leI (Opd.g rfl id) Opd.c) e60) rfl rfl rfl <| ?_
    obtain ⟨b61, e62, hm⟩ := letv_some hm
    refine Wo (Run.eqB (Run_and (O rfl) (Opd.g rfl id)) e62) rfl <| Wo (Run_move (O rfl)) rfl <| WL_opG rfl rfl rfl rfl guard_pos (Run_move (O rfl)) rfl rfl rfl <| WL_opG rfl rfl rfl rfl guard_pos (Run_move (O rfl)) rfl rfl rfl <| ?_
    obtain ⟨b63, e64, hm⟩ := letv_some hm
    refine WL_opG rfl rfl rfl rfl guard_pos (Run.eqB (Run_eqI (Opd.g rfl id) (Opd.g rfl id)) e64) rfl rfl rfl <| ?_
    obtain ⟨b65, e66, hm⟩ := letv_some hm
    refine Wo (Run.eqB (Run_and (O rfl) (Opd.g rfl id)) e66) rfl <| ?_
    refine WL_nil <| At_then ?_
    refine WC_cond (O rfl) (fun hc67 => ?_) (fun hc67 => ?_)
    ·
     replace hm := bif_t hc67 hm
     refine WC_seq <| WC_region ?_
     refine Wo (Run_assign Opd.c) rfl <| Wo (Run_assign Opd.c) rfl <| Wo (Run_assign Opd.c) rfl <| ?_
     refine WL_nil <| At_then ?_
     refine WC_ret ?_
     refine At_then_ret <| ?_
     refine At_r3 rfl (ResIs.t rfl) (ResIs.t rfl) (ResIs.t rfl) ?_
     cases hm
     exact ⟨rfl, (hs.re 2 [1] rfl)⟩
    ·
     replace hm := bif_f hc67 hm
     refine WC_skip ?_
     refine At_then <| WC_seq <| WC_seq <| WC_region ?_
     refine Wo (Run_fieldAddr fo57_0 (O rfl)) rfl <| Wo (Run_load1 (v := (.int .i64 e.op)) Tryd.underlying3 rfl (O rfl) (fun _ => (hs.box (i := 0) rfl).part 0 rfl)) rfl <| ?_
     obtain ⟨b68, e69, hm⟩ := letv_some hm
     refine Wo (Run.eqB (Run_geI (O rfl) Opd.c) e69) rfl <| Wo (Run_move (O rfl)) rfl <| WL_opG rfl rfl rfl rfl guard_pos (Run_move (O rfl)) rfl rfl rfl <| WL_opG rfl rfl rfl rfl guard_pos (Run_move (O rfl)) rfl rfl rfl <| WL_opG rfl rfl rfl rfl guard_pos (Run_add (Opd.g rfl id) (Opd.g rfl id)) rfl rfl rfl <| WL_opG rfl rfl rfl rfl guard_pos (Run_move (O rfl)) rfl rfl rfl <| ?_
     obtain ⟨b70, e71, hm⟩ := letv_some hm
     refine WL_opG rfl rfl rfl rfl guard_pos (Run.eqB (Run_eqI (Opd.g rfl id) (Opd.g rfl id)) e71) rfl rfl rfl <| ?_
     obtain ⟨b72, e73, hm⟩ := letv_some hm
     refine Wo (Run.eqB (Run_and (O rfl) (Opd.g rfl id)) e73) rfl <| ?_
     refine WL_nil <| At_then ?_
     refine WC_cond (O rfl) (fun hc74 => ?_) (fun hc74 => ?_)
     ·
      replace hm := bif_t hc74 hm
      refine WC_seq <| WC_region ?_
      refine Wo (Run_assign Opd.c) rfl <| Wo (Run_assign Opd.c) rfl <| Wo (Run_assign Opd.c) rfl <| ?_
      refine WL_nil <| At_then ?_
      refine WC_ret ?_
      refine At_then_ret <| ?_
      refine At_r3 rfl (ResIs.t rfl) (ResIs.t rfl) (ResIs.t rfl) ?_
      cases hm
      exact ⟨rfl, (hs.re 2 [1] rfl)⟩
     ·
      replace hm := bif_f hc74 hm
      refine WC_skip ?_
      refine At_then <| WC_seq ?_
      refine WC_region_mixed [0, 1, 0, 4, 15] (.q 0 0 (.q 1 1 (.q 2 3 (.q 3 7 (.q 4 15 .nil))))) (by kernel_rfl) (by kernel_rfl) ?_
      intro w75 hx76
      replace hs := hs.ext hx76
      refine WD_pure (fun _ => (Run_fieldAddr fo57_2 (O rfl))) rfl rfl rfl rfl <| WD_op (fun w => CellsAt w ⟨b5, 2, none⟩ [(.int .i64 e.at_)]) ((hs.box (i := 0) rfl).part 2 rfl) (fun _ hJ => (Run_load1 (v := (.int .i64 e.at_)) Tryd.underlying3 rfl (O rfl) (fun _ => hJ))) rfl rfl rfl rfl <| WD_pure (fun _ => (Run_assign Opd.c)) rfl rfl rfl rfl <| WD_pure (fun _ => (Run_assign Opd.c)) rfl rfl rfl rfl <| WD_pure (fun _ => (Run_assign (O rfl))) rfl rfl rfl rfl <| ?_
      refine WD_nil ?_
      refine At_then ?_
      refine WC_ret ?_
      refine At_r3 rfl (ResIs.t rfl) (ResIs.t rfl) (ResIs.t rfl) ?_
      cases hm
      exact ⟨rfl, (hs.re 2 [1] rfl)⟩
end Go.Proofs.YtjdabjpjafkogaaDoor
namespace Go.Proofs.YtjdabjpjafkogaaDoor
open Go.Proofs
set_option maxRecDepth 100000 in
set_option maxHeartbeats 4000000 in
theorem scrutinyref14_look_expression_ok {Φ : Ctx} {w : World} {want : Int} {l : (List (Int × Str × Int × Int))} {at_ : Int} {Names : (List Str)} {Schema : (List (Int × Int))} {Init : (List Int)} {Procs : (List Str)} {Cmd : (List (Int × Ex × (List (Int × Ex))))} {bad : Int} {place : Int} {b : Nat} {v2 : SLV} {R : List Nat} {v4 : SLV} {R5 : List Nat} {v7 : SLV} {R8 : List Nat} {v10 : SLV} {R11 : List Nat} {v13 : SLV} {R14 : List Nat} {v16 : SLV} {R17 : List Nat} {r : (Ex × Int × Int × Int)} (hs : Sat (box b 86 [(sl v2), (.int .i64 at_), (sl v4), (sl v7), (sl v10), (sl v13), (sl v16), (.int .i64 bad), (.int .i64 place)] :: osl (RP (RI .i64) (RP RS (RP (RI .i64) (RI .i64)))) 88 (sl v2) l R :: osl RS 9 (sl v4) Names R5 :: osl (RP (RI .i64) (RI .i64)) 72 (sl v7) Schema R8 :: osl (RI .i64) 3 (sl v10) Init R11 :: osl RS 9 (sl v13) Procs R14 :: osl (RP (RI .i64) (RP RExpr (RSl (RP (RI .i64) RExpr)))) 60 (sl v16) Cmd R17 :: Φ) w) (hm : scrutinyref14_look_expression want l at_ Names Schema Init Procs Cmd bad place = some r) :
  CallsR Tryd.prog 53 [(.pointer (some ⟨b, 0, none⟩)), (.int .i64 want)] w (fun v w' => ∃ v3 : SLV, ∃ R4 : List Nat, v = (.agg #[(.int .i64 r.1.op), (.int .i64 r.1.n), (.int .i64 r.1.at_), (sl v3)]) ∧ Sat (osl RExpr 57 (sl v3) r.1.l R4 :: box b 86 [(sl v2), (.int .i64 r.2.1), (sl v4), (sl v7), (sl v10), (sl v13), (sl v16), (.int .i64 r.2.2.1), (.int .i64 r.2.2.2)] :: osl (RP (RI .i64) (RP RS (RP (RI .i64) (RI .i64)))) 88 (sl v2) l R :: osl RS 9 (sl v4) Names R5 :: osl (RP (RI .i64) (RI .i64)) 72 (sl v7) Schema R8 :: osl (RI .i64) 3 (sl v10) Init R11 :: osl RS 9 (sl v13) Procs R14 :: osl (RP (RI .i64) (RP RExpr (RSl (RP (RI .i64) RExpr)))) 60 (sl v16) Cmd R17 :: Φ) w') := by
 refine CallsX_enter Tryd.func53 rfl Tryd.ntmps53 rfl ?_
 unfold scrutinyref14_look_expression at hm
 refine WC_seq <| WC_region ?_
 refine WS_alloc (zs := [(.int .i64 0), (.int .i64 0), (.int .i64 0), (sl (none, 0, 0))]) hs ti57 rfl rfl ?_
 intro b8 w9 hs
 replace hs := Sat.n8 (Γ := Φ) hs rfl
 refine WL_nil <| At_then <| WC_seq <| WC_seq <| WC_region ?_
 refine Wo (Run_move (O rfl)) rfl <| Wo (Run_nilP (O rfl)) rfl <| Wo (Run_fieldAddr fo86_3 (O rfl)) rfl <| Wo (Run_load1 (v := (.int .i64 bad)) Tryd.underlying3 rfl (O rfl) (fun _ => (hs.box (i := 1) rfl).part 7 rfl)) rfl <| Wo (Run_neI (O rfl) Opd.c) rfl <| ?_
 refine WL_nil <| At_then ?_
 refine WC_cond (O rfl) (fun hc10 => ?_) (fun hc10 => ?_)
 ·
  replace hm := bif_t hc10 hm
  refine WC_seq <| WC_region ?_
  refine Wo (Run_build (parts := []) (v := (.agg #[(.int .i64 0), (.int .i64 0), (.int .i64 0), (sl (none, 0, 0))])) .nil (fun _ => by kernel_rfl)) rfl <| ?_
  refine WS_store (us := [(.int .i64 0), (.int .i64 0), (.int .i64 0), (sl (none, 0, 0))]) (vs' := [(.int .i64 0), (.int .i64 0), (.int .i64 0), (sl (none, 0, 0))]) hs 0 rfl ti57 (O rfl) (O rfl) rfl rfl rfl rfl rfl ?_
  intro w11 hs
  replace hs := Sat.n8 (Γ := Φ) hs rfl
  refine WL_nil <| At_then ?_
  refine WC_ret ?_
  refine At_then_ret <| ?_
  refine At_r1 rfl (ResIs.cA (vs := [(.int .i64 0), (.int .i64 0), (.int .i64 0), (sl (none, 0, 0))]) rfl Tryd.underlying57 rfl ti57 ((hs.box (i := 0) rfl).part 0 rfl) rfl) ?_
  replace hs := hs.addNil RExpr 57
  cases hm
  exact ⟨(none, 0, 0), [], rfl, (hs.re 9 [0, 2, 3, 4, 5, 6, 7, 8] rfl)⟩
 ·
  replace hm := bif_f hc10 hm
  refine WC_skip ?_
  refine At_then <| WC_seq ?_
  refine WC_region_mixed [0, 1, 2, 4, 0, 16, 32, 64, 0, 256, 512, 1024, 2048, 4232, 8192, 16384, 16384, 16384, 16384, 0, 589823, 1703935, 3932159, 8388607] (.q 0 0 (.q 1 1 (.q 2 3 (.q 3 7 (.q 4 15 (.q 5 31 (.q 6 63 (.q 7 127 (.q 8 255 (.q 9 511 (.q 10 1023 (.q 11 2047 (.q 12 4095 (.l2 8191 13 (.q 14 16383 (.q 15 32767 (.q 16 65535 (.q 17 131071 (.q 18 262143 (.l 19 524287 (.l 20 1048575 (.q 21 2097151 (.q 22 4194303 (.q 23 8388607 .nil)))))))))) 19 (.l 13 532479 (.q 14 540671 (.q 15 557055 (.q 16 589823 (.q 17 655359 (.q 18 786431 (.l 20 1048575 (.q 21 2097151 (.q 22 4194303 (.q 23 8388607 .nil)))))))))))))))))))))))) (by kernel_rfl) (by kernel_rfl) ?_
  intro w12 hx13
  replace hs := hs.ext hx13
  refine WD_pure (fun _ => (Run_move (O rfl))) rfl rfl rfl rfl <| WD_pure (fun _ => (Run_nilP (O rfl))) rfl rfl rfl rfl <| WD_pure (fun _ => (Run_fieldAddr fo86_0 (O rfl))) rfl rfl rfl rfl <| WD_op (fun w => CellsAt w ⟨b, 0, none⟩ [(sl v2)]) ((hs.box (i := 1) rfl).part 0 rfl) (fun _ hJ => (Run_load1 (v := (sl v2)) Tryd.underlying82 rfl (O rfl) (fun _ => hJ))) rfl rfl rfl rfl <| WD_pure (fun _ => (Run_move (O rfl))) rfl rfl rfl rfl <| WD_pure (fun _ => (Run_nilP (O rfl))) rfl rfl rfl rfl <| WD_pure (fun _ => (Run_fieldAddr fo86_1 (O rfl))) rfl rfl rfl rfl <| WD_op (fun w => CellsAt w ⟨b, 1, none⟩ [(.int .i64 at_)]) ((hs.box (i := 1) rfl).part 1 rfl) (fun _ hJ => (Run_load1 (v := (.int .i64 at_)) Tryd.underlying3 rfl (O rfl) (fun _ => hJ))) rfl rfl rfl rfl <| ?_
  refine WD_pure (fun _ => (Run_move (O rfl))) rfl rfl rfl rfl <| WD_pure (fun _ => (Run_nilP (O rfl))) rfl rfl rfl rfl <| WD_pure (fun _ => (Run_fieldAddr fo86_2 (O rfl))) rfl rfl rfl rfl <| WD_pure (fun _ => (Run_fieldAddr fo28_0 (O rfl))) rfl rfl rfl rfl <| WD_op (fun w => CellsAt w ⟨b, 2, none⟩ [(sl v4)]) ((hs.box (i := 1) rfl).part 2 rfl) (fun _ hJ => (Run_load1 (v := (sl v4)) Tryd.underlying24 rfl (O rfl) (fun _ => hJ))) rfl rfl rfl rfl <| ?_
  refine WD_loud2 ?_ ?_
  ·
   refine WD_loud (pend' := []) rfl (by kernel_rfl) ?_
   obtain ⟨r14, hr15, hm⟩ := bind_some' hm
   refine WL_call (f := 58) (first := []) (cap := []) (xs := [(.tmp 22), (.tmp 26), (.tmp 31)]) (vs := [(sl v2), (.int .i64 at_), (sl v4)]) (args := [(sl v2), (.int .i64 at_), (sl v4)]) Tryd.call58 Opd.f (.cons (O rfl) (.cons (O rfl) (.cons (O rfl) .nil))) rfl rfl (scrutinyref13_Parse_s3_ok (hs.re 8 [2, 3, 0, 1, 4, 5, 6, 7] rfl) hr15) ?_
   rintro _ w19 ⟨v17, R18, rfl, hs⟩
   replace hs := Sat.n9 (Γ := Φ) hs rfl
   refine WL_nil ?_
   refine At_QK allJ_nil ?_
   refine WD_pure (fun _ => (Run_move (O rfl))) rfl rfl rfl rfl <| WD_pure (fun _ => (Run_extract (vs := [(.agg #[(.int .i64 r14.1.op), (.int .i64 r14.1.n), (.int .i64 r14.1.at_), (sl v17)]), (.int .i64 r14.2.1), (.int .i64 r14.2.2.1), (.int .i64 r14.2.2.2)]) (O rfl) rfl)) rfl rfl rfl rfl <| WD_pure (fun _ => (Run_extract (vs := [(.agg #[(.int .i64 r14.1.op), (.int .i64 r14.1.n), (.int .i64 r14.1.at_), (sl v17)]), (.int .i64 r14.2.1), (.int .i64 r14.2.2.1), (.int .i64 r14.2.2.2)]) (O rfl) rfl)) rfl rfl rfl rfl <| WD_pure (fun _ => (Run_extract (vs := [(.agg #[(.int .i64 r14.1.op), (.int .i64 r14.1.n), (.int .i64 r14.1.at_), (sl v17)]), (.int .i64 r14.2.1), (.int .i64 r14.2.2.1), (.int .i64 r14.2.2.2)]) (O rfl) rfl)) rfl rfl rfl rfl <| WD_pure (fun _ => (Run_extract (vs := [(.agg #[(.int .i64 r14.1.op), (.int .i64 r14.1.n), (.int .i64 r14.1.at_), (sl v17)]), (.int .i64 r14.2.1), (.int .i64 r14.2.2.1), (.int .i64 r14.2.2.2)]) (O rfl) rfl)) rfl rfl rfl rfl <| ?_
   refine WD_loud (pend' := []) rfl (by kernel_rfl) ?_
   refine WS_alloc (zs := [(.int .i64 0), (.int .i64 0), (.int .i64 0), (sl (none, 0, 0))]) hs ti57 rfl rfl ?_
   intro b20 w21 hs
   replace hs := Sat.n10 (Γ := Φ) hs rfl
   refine WL_nil ?_
   refine At_QK allJ_nil ?_
   refine WD_loud (pend' := []) rfl (by kernel_rfl) ?_
   refine WS_store (us := [(.int .i64 r14.1.op), (.int .i64 r14.1.n), (.int .i64 r14.1.at_), (sl v17)]) (vs' := [(.int .i64 r14.1.op), (.int .i64 r14.1.n), (.int .i64 r14.1.at_), (sl v17)]) hs 0 rfl ti57 (O rfl) (O rfl) rfl rfl rfl rfl rfl ?_
   intro w22 hs
   replace hs := Sat.n10 (Γ := Φ) hs rfl
   refine WL_nil ?_
   refine At_QK allJ_nil ?_
   refine WD_pure (fun _ => (Run_assign (O rfl))) rfl rfl rfl rfl <| WD_pure (fun _ => (Run_assign (O rfl))) rfl rfl rfl rfl <| WD_pure (fun _ => (Run_assign (O rfl))) rfl rfl rfl rfl <| ?_
   refine WD_nil ?_
   refine At_then <| WC_seq <| WC_seq <| WC_region ?_
   refine Wo (Run_move (O rfl)) rfl <| Wo (Run_neI (O rfl) Opd.c) rfl <| ?_
   refine WL_nil <| At_then ?_
   refine WC_cond (O rfl) (fun hc23 => ?_) (fun hc23 => ?_)
   ·
    replace hm := bif_t hc23 hm
    refine WC_seq <| WC_region ?_
    refine Wo (Run_move (O rfl)) rfl <| Wo (Run_move (O rfl)) rfl <| Wo (Run_move (O rfl)) rfl <| ?_
    obtain ⟨r24, hr25, hm⟩ := bind_some' hm
    refine WL_call (f := 37) (first := []) (cap := []) (xs := [(.tmp 39), (.tmp 40), (.tmp 41)]) (vs := [(.pointer (some ⟨b, 0, none⟩)), (.int .i64 r14.2.2.1), (.int .i64 r14.2.2.2)]) (args := [(.pointer (some ⟨b, 0, none⟩)), (.int .i64 r14.2.2.1), (.int .i64 r14.2.2.2)]) Tryd.call37 Opd.f (.cons (O rfl) (.cons (O rfl) (.cons (O rfl) .nil))) rfl rfl (scrutinyref14_look_fail_ok (hs.re 10 [5, 2, 3, 6, 7, 8, 9, 0, 1, 4] rfl) hr25) ?_
    rintro _ w26 ⟨rfl, hs⟩
    replace hs := Sat.n10 (Γ := Φ) hs rfl
    refine WL_nil <| At_then <| WC_seq <| WC_region ?_
    refine Wo (Run_build (parts := []) (v := (.agg #[(.int .i64 0), (.int .i64 0), (.int .i64 0), (sl (none, 0, 0))])) .nil (fun _ => by kernel_rfl)) rfl <| ?_
    refine WS_store (us := [(.int .i64 0), (.int .i64 0), (.int .i64 0), (sl (none, 0, 0))]) (vs' := [(.int .i64 0), (.int .i64 0), (.int .i64 0), (sl (none, 0, 0))]) hs 9 rfl ti57 (O rfl) (O rfl) rfl rfl rfl rfl rfl ?_
    intro w27 hs
    replace hs := Sat.n10 (Γ := Φ) hs rfl
    refine WL_nil <| At_then ?_
    refine WC_ret ?_
    refine At_then_ret <| ?_
    refine At_r1 rfl (ResIs.cA (vs := [(.int .i64 0), (.int .i64 0), (.int .i64 0), (sl (none, 0, 0))]) rfl Tryd.underlying57 rfl ti57 ((hs.box (i := 9) rfl).part 0 rfl) rfl) ?_
    replace hs := hs.addNil RExpr 57
    cases hm
    exact ⟨(none, 0, 0), [], rfl, (hs.re 11 [0, 1, 2, 3, 4, 5, 6, 7] rfl)⟩
   ·
    replace hm := bif_f hc23 hm
    refine WC_skip ?_
    refine At_then <| WC_seq <| WC_region ?_
    refine Wo (Run_loadA (vs := [(.int .i64 r14.1.op), (.int .i64 r14.1.n), (.int .i64 r14.1.at_), (sl v17)]) Tryd.underlying57 rfl ti57 (O rfl) (fun _ => (hs.box (i := 0) rfl).part 0 rfl) rfl) rfl <| ?_
    obtain ⟨r28, hr29, hm⟩ := bind_some' hm
    refine WL_call (f := 59) (first := []) (cap := []) (xs := [(.tmp 45)]) (vs := [(.agg #[(.int .i64 r14.1.op), (.int .i64 r14.1.n), (.int .i64 r14.1.at_), (sl v17)])]) (args := [(.agg #[(.int .i64 r14.1.op), (.int .i64 r14.1.n), (.int .i64 r14.1.at_), (sl v17)])]) Tryd.call59 Opd.f (.cons (O rfl) .nil) rfl rfl (scrutinyref13_Type_s2_ok (hs.re 10 [1, 0, 2, 3, 4, 5, 6, 7, 8, 9] rfl) hr29) ?_
    rintro _ w30 ⟨rfl, hs⟩
    replace hs := Sat.n10 (Γ := Φ) hs rfl
    refine Wo (Run_move (O rfl)) rfl <| Wo (Run_extract (vs := [(.int .i64 r28.1), (.int .i64 r28.2.1), (.int .i64 r28.2.2)]) (O rfl) rfl) rfl <| Wo (Run_extract (vs := [(.int .i64 r28.1), (.int .i64 r28.2.1), (.int .i64 r28.2.2)]) (O rfl) rfl) rfl <| Wo (Run_extract (vs := [(.int .i64 r28.1), (.int .i64 r28.2.1), (.int .i64 r28.2.2)]) (O rfl) rfl) rfl <| Wo (Run_assign (O rfl)) rfl <| Wo (Run_assign (O rfl)) rfl <| Wo (Run_assign (O rfl)) rfl <| ?_
    refine WL_nil <| At_then ?_
    refine WC_seq_cut (γ := Int × Int) (fun ⟨c32, c33⟩ w31 => scrutinyref14_look_expression_K1 r14 c32 c33 = some r ∧ Sat (box b 86 [(sl v2), (.int .i64 at_), (sl v4), (sl v7), (sl v10), (sl v13), (sl v16), (.int .i64 c32), (.int .i64 c33)] :: osl (RP (RI .i64) (RP RS (RP (RI .i64) (RI .i64)))) 88 (sl v2) l R :: osl RS 9 (sl v4) Names R5 :: osl (RP (RI .i64) (RI .i64)) 72 (sl v7) Schema R8 :: osl (RI .i64) 3 (sl v10) Init R11 :: osl RS 9 (sl v13) Procs R14 :: osl (RP (RI .i64) (RP RExpr (RSl (RP (RI .i64) RExpr)))) 60 (sl v16) Cmd R17 :: box b8 57 [(.int .i64 0), (.int .i64 0), (.int .i64 0), (sl (none, 0, 0))] :: box b20 57 [(.int .i64 r14.1.op), (.int .i64 r14.1.n), (.int .i64 r14.1.at_), (sl v17)] :: osl RExpr 57 (sl v17) r14.1.l R18 :: Φ) w31) (fun ⟨c32, c33⟩ => [(0, true, (.pointer (some ⟨b, 0, none⟩))), (4, true, (.pointer (some ⟨b8, 0, none⟩))), (5, true, (.pointer (some ⟨b20, 0, none⟩))), (6, true, (.int .i64 r14.2.1))]) ?_ ?_
    ·
     rintro ⟨c32, c33⟩ w31 ⟨hm, hs⟩
     unfold scrutinyref14_look_expression_K1 at hm
     refine WC_seq <| WC_region ?_
     refine Wo (Run_move (O rfl)) rfl <| Wo (Run_move (O rfl)) rfl <| Wo (Run_nilP (O rfl)) rfl <| Wo (Run_fieldAddr fo86_1 (O rfl)) rfl <| ?_
     refine WS_store (us := [(.int .i64 r14.2.1)]) (vs' := [(sl v2), (.int .i64 r14.2.1), (sl v4), (sl v7), (sl v10), (sl v13), (sl v16), (.int .i64 c32), (.int .i64 c33)]) hs 0 rfl ti3 (O rfl) (O rfl) rfl rfl rfl rfl rfl ?_
     intro w34 hs
     replace hs := Sat.n10 (Γ := Φ) hs rfl
     refine WL_nil <| At_then <| WC_seq <| WC_region ?_
     refine Wo (Run_loadA (vs := [(.int .i64 r14.1.op), (.int .i64 r14.1.n), (.int .i64 r14.1.at_), (sl v17)]) Tryd.underlying57 rfl ti57 (O rfl) (fun _ => (hs.box (i := 8) rfl).part 0 rfl) rfl) rfl <| ?_
     refine WS_store (us := [(.int .i64 r14.1.op), (.int .i64 r14.1.n), (.int .i64 r14.1.at_), (sl v17)]) (vs' := [(.int .i64 r14.1.op), (.int .i64 r14.1.n), (.int .i64 r14.1.at_), (sl v17)]) hs 7 rfl ti57 (O rfl) (O rfl) rfl rfl rfl rfl rfl ?_
     intro w35 hs
     replace hs := Sat.n10 (Γ := Φ) hs rfl
     refine WL_nil <| At_then ?_
     refine WC_ret ?_
     refine At_r1 rfl (ResIs.cA (vs := [(.int .i64 r14.1.op), (.int .i64 r14.1.n), (.int .i64 r14.1.at_), (sl v17)]) rfl Tryd.underlying57 rfl ti57 ((hs.box (i := 7) rfl).part 0 rfl) rfl) ?_
     cases hm
     exact ⟨v17, R18, rfl, (hs.re 10 [9, 0, 1, 2, 3, 4, 5, 6] rfl)⟩
    ·
     refine WC_seq <| WC_region ?_
     refine Wo (Run_move (O rfl)) rfl <| Wo (Run_neI (O rfl) Opd.c) rfl <| ?_
     refine WL_nil <| At_then ?_
     refine WC_cond (O rfl) (fun hc36 => ?_) (fun hc36 => ?_)
     ·
      replace hm := bif_t hc36 hm
      refine WC_region ?_
      refine Wo (Run_move (O rfl)) rfl <| Wo (Run_move (O rfl)) rfl <| Wo (Run_move (O rfl)) rfl <| ?_
      obtain ⟨r37, hr38, hm⟩ := bind_some' hm
      refine WL_call (f := 37) (first := []) (cap := []) (xs := [(.tmp 52), (.tmp 53), (.tmp 54)]) (vs := [(.pointer (some ⟨b, 0, none⟩)), (.int .i64 r28.2.1), (.int .i64 r28.2.2)]) (args := [(.pointer (some ⟨b, 0, none⟩)), (.int .i64 r28.2.1), (.int .i64 r28.2.2)]) Tryd.call37 Opd.f (.cons (O rfl) (.cons (O rfl) (.cons (O rfl) .nil))) rfl rfl (scrutinyref14_look_fail_ok (hs.re 10 [5, 2, 3, 6, 7, 8, 9, 0, 1, 4] rfl) hr38) ?_
      rintro _ w39 ⟨rfl, hs⟩
      replace hs := Sat.n10 (Γ := Φ) hs rfl
      refine WL_nil ?_
      exact At_join (r37.1, r37.2) ⟨hm, (hs.re 10 [0, 1, 2, 3, 4, 5, 6, 9, 8, 7] rfl)⟩ rfl
     ·
      replace hm := bif_f hc36 hm
      refine WC_seq <| WC_region ?_
      refine Wo (Run_move (O rfl)) rfl <| Wo (Run_move (O rfl)) rfl <| Wo (Run_neI (O rfl) (O rfl)) rfl <| ?_
      refine WL_nil <| At_then ?_
      refine WC_cond (O rfl) (fun hc40 => ?_) (fun hc40 => ?_)
      ·
       replace hm := bif_t hc40 hm
       refine WC_region ?_
       refine Wo (Run_move (O rfl)) rfl <| Wo (Run_fieldAddr fo57_2 (O rfl)) rfl <| Wo (Run_load1 (v := (.int .i64 r14.1.at_)) Tryd.underlying3 rfl (O rfl) (fun _ => (hs.box (i := 1) rfl).part 2 rfl)) rfl <| ?_
       obtain ⟨r41, hr42, hm⟩ := bind_some' hm
       refine WL_call (f := 37) (first := []) (cap := []) (xs := [(.tmp 59), (.const (.int .i64 4)), (.tmp 61)]) (vs := [(.pointer (some ⟨b, 0, none⟩)), (.int .i64 4), (.int .i64 r14.1.at_)]) (args := [(.pointer (some ⟨b, 0, none⟩)), (.int .i64 4), (.int .i64 r14.1.at_)]) Tryd.call37 Opd.f (.cons (O rfl) (.cons Opd.c (.cons (O rfl) .nil))) rfl rfl (scrutinyref14_look_fail_ok (hs.re 10 [5, 2, 3, 6, 7, 8, 9, 0, 1, 4] rfl) hr42) ?_
       rintro _ w43 ⟨rfl, hs⟩
       replace hs := Sat.n10 (Γ := Φ) hs rfl
       refine WL_nil ?_
       exact At_join (r41.1, r41.2) ⟨hm, (hs.re 10 [0, 1, 2, 3, 4, 5, 6, 9, 8, 7] rfl)⟩ rfl
      ·
       replace hm := bif_f hc40 hm
       refine WC_skip ?_
       exact At_join (bad, place) ⟨hm, (hs.re 10 [5, 2, 3, 6, 7, 8, 9, 4, 1, 0] rfl)⟩ rfl
  ·
   refine WD_loud (pend' := [(12, fun w => CellsAt w ⟨b, 2, none⟩ [(sl v4)]), (7, fun w => CellsAt w ⟨b, 1, none⟩ [(.int .i64 at_)]), (3, fun w => CellsAt w ⟨b, 0, none⟩ [(sl v2)])]) rfl (by kernel_rfl) ?_
   refine WS_alloc (zs := [(.int .i64 0), (.int .i64 0), (.int .i64 0), (sl (none, 0, 0))]) hs ti57 rfl rfl ?_
   intro b44 w45 hs
   replace hs := Sat.n9 (Γ := Φ) hs rfl
   refine WL_nil ?_
   refine At_QK (allJ_cons ((hs.box (i := 2) rfl).part 2 rfl) (allJ_cons ((hs.box (i := 2) rfl).part 1 rfl) (allJ_cons ((hs.box (i := 2) rfl).part 0 rfl) allJ_nil))) ?_
   refine WD_loud (pend' := []) rfl (by kernel_rfl) ?_
   obtain ⟨r46, hr47, hm⟩ := bind_some' hm
   refine WL_call (f := 58) (first := []) (cap := []) (xs := [(.tmp 22), (.tmp 26), (.tmp 31)]) (vs := [(sl v2), (.int .i64 at_), (sl v4)]) (args := [(sl v2), (.int .i64 at_), (sl v4)]) Tryd.call58 Opd.f (.cons (O rfl) (.cons (O rfl) (.cons (O rfl) .nil))) rfl rfl (scrutinyref13_Parse_s3_ok (hs.re 9 [3, 4, 0, 1, 2, 5, 6, 7, 8] rfl) hr47) ?_
   rintro _ w50 ⟨v48, R49, rfl, hs⟩
   replace hs := Sat.n10 (Γ := Φ) hs rfl
   refine WL_nil ?_
   refine At_QK allJ_nil ?_
   refine WD_pure (fun _ => (Run_move (O rfl))) rfl rfl rfl rfl <| WD_pure (fun _ => (Run_extract (vs := [(.agg #[(.int .i64 r46.1.op), (.int .i64 r46.1.n), (.int .i64 r46.1.at_), (sl v48)]), (.int .i64 r46.2.1), (.int .i64 r46.2.2.1), (.int .i64 r46.2.2.2)]) (O rfl) rfl)) rfl rfl rfl rfl <| WD_pure (fun _ => (Run_extract (vs := [(.agg #[(.int .i64 r46.1.op), (.int .i64 r46.1.n), (.int .i64 r46.1.at_), (sl v48)]), (.int .i64 r46.2.1), (.int .i64 r46.2.2.1), (.int .i64 r46.2.2.2)]) (O rfl) rfl)) rfl rfl rfl rfl <| WD_pure (fun _ => (Run_extract (vs := [(.agg #[(.int .i64 r46.1.op), (.int .i64 r46.1.n), (.int .i64 r46.1.at_), (sl v48)]), (.int .i64 r46.2.1), (.int .i64 r46.2.2.1), (.int .i64 r46.2.2.2)]) (O rfl) rfl)) rfl rfl rfl rfl <| WD_pure (fun _ => (Run_extract (vs := [(.agg #[(.int .i64 r46.1.op), (.int .i64 r46.1.n), (.int .i64 r46.1.at_), (sl v48)]), (.int .i64 r46.2.1), (.int .i64 r46.2.2.1), (.int .i64 r46.2.2.2)]) (O rfl) rfl)) rfl rfl rfl rfl <| ?_
   refine WD_loud (pend' := []) rfl (by kernel_rfl) ?_
   refine WS_store (us := [(.int .i64 r46.1.op), (.int .i64 r46.1.n), (.int .i64 r46.1.at_), (sl v48)]) (vs' := [(.int .i64 r46.1.op), (.int .i64 r46.1.n), (.int .i64 r46.1.at_), (sl v48)]) hs 3 rfl ti57 (O rfl) (O rfl) rfl rfl rfl rfl rfl ?_
   intro w51 hs
   replace hs := Sat.n10 (Γ := Φ) hs rfl
   refine WL_nil ?_
   refine At_QK allJ_nil ?_
   refine WD_pure (fun _ => (Run_assign (O rfl))) rfl rfl rfl rfl <| WD_pure (fun _ => (Run_assign (O rfl))) rfl rfl rfl rfl <| WD_pure (fun _ => (Run_assign (O rfl))) rfl rfl rfl rfl <| ?_
   refine WD_nil ?_
   refine At_then <| WC_seq <| WC_seq <| WC_region ?_
   refine Wo (Run_move (O rfl)) rfl <| Wo (Run_neI (O rfl) Opd.c) rfl <| ?_
   refine WL_nil <| At_then ?_
   refine WC_cond (O rfl) (fun hc52 => ?_) (fun hc52 => ?_)
   ·
    replace hm := bif_t hc52 hm
    refine WC_seq <| WC_region ?_
    refine Wo (Run_move (O rfl)) rfl <| Wo (Run_move (O rfl)) rfl <| Wo (Run_move (O rfl)) rfl <| ?_
    obtain ⟨r53, hr54, hm⟩ := bind_some' hm
    refine WL_call (f := 37) (first := []) (cap := []) (xs := [(.tmp 39), (.tmp 40), (.tmp 41)]) (vs := [(.pointer (some ⟨b, 0, none⟩)), (.int .i64 r46.2.2.1), (.int .i64 r46.2.2.2)]) (args := [(.pointer (some ⟨b, 0, none⟩)), (.int .i64 r46.2.2.1), (.int .i64 r46.2.2.2)]) Tryd.call37 Opd.f (.cons (O rfl) (.cons (O rfl) (.cons (O rfl) .nil))) rfl rfl (scrutinyref14_look_fail_ok (hs.re 10 [5, 1, 2, 6, 7, 8, 9, 0, 3, 4] rfl) hr54) ?_
    rintro _ w55 ⟨rfl, hs⟩
    replace hs := Sat.n10 (Γ := Φ) hs rfl
    refine WL_nil <| At_then <| WC_seq <| WC_region ?_
    refine Wo (Run_build (parts := []) (v := (.agg #[(.int .i64 0), (.int .i64 0), (.int .i64 0), (sl (none, 0, 0))])) .nil (fun _ => by kernel_rfl)) rfl <| ?_
    refine WS_store (us := [(.int .i64 0), (.int .i64 0), (.int .i64 0), (sl (none, 0, 0))]) (vs' := [(.int .i64 0), (.int .i64 0), (.int .i64 0), (sl (none, 0, 0))]) hs 9 rfl ti57 (O rfl) (O rfl) rfl rfl rfl rfl rfl ?_
    intro w56 hs
    replace hs := Sat.n10 (Γ := Φ) hs rfl
    refine WL_nil <| At_then ?_
    refine WC_ret ?_
    refine At_then_ret <| ?_
    refine At_r1 rfl (ResIs.cA (vs := [(.int .i64 0), (.int .i64 0), (.int .i64 0), (sl (none, 0, 0))]) rfl Tryd.underlying57 rfl ti57 ((hs.box (i := 9) rfl).part 0 rfl) rfl) ?_
    replace hs := hs.addNil RExpr 57
    cases hm
    exact ⟨(none, 0, 0), [], rfl, (hs.re 11 [0, 1, 2, 3, 4, 5, 6, 7] rfl)⟩
   ·
    replace hm := bif_f hc52 hm
    refine WC_skip ?_
    refine At_then <| WC_seq <| WC_region ?_
    refine Wo (Run_loadA (vs := [(.int .i64 r46.1.op), (.int .i64 r46.1.n), (.int .i64 r46.1.at_), (sl v48)]) Tryd.underlying57 rfl ti57 (O rfl) (fun _ => (hs.box (i := 3) rfl).part 0 rfl) rfl) rfl <| ?_
    obtain ⟨r57, hr58, hm⟩ := bind_some' hm
    refine WL_call (f := 59) (first := []) (cap := []) (xs := [(.tmp 45)]) (vs := [(.agg #[(.int .i64 r46.1.op), (.int .i64 r46.1.n), (.int .i64 r46.1.at_), (sl v48)])]) (args := [(.agg #[(.int .i64 r46.1.op), (.int .i64 r46.1.n), (.int .i64 r46.1.at_), (sl v48)])]) Tryd.call59 Opd.f (.cons (O rfl) .nil) rfl rfl (scrutinyref13_Type_s2_ok (hs.re 10 [0, 1, 2, 3, 4, 5, 6, 7, 8, 9] rfl) hr58) ?_
    rintro _ w59 ⟨rfl, hs⟩
    replace hs := Sat.n10 (Γ := Φ) hs rfl
    refine Wo (Run_move (O rfl)) rfl <| Wo (Run_extract (vs := [(.int .i64 r57.1), (.int .i64 r57.2.1), (.int .i64 r57.2.2)]) (O rfl) rfl) rfl <| Wo (Run_extract (vs := [(.int .i64 r57.1), (.int .i64 r57.2.1), (.int .i64 r57.2.2)]) (O rfl) rfl) rfl <| Wo (Run_extract (vs := [(.int .i64 r57.1), (.int .i64 r57.2.1), (.int .i64 r57.2.2)]) (O rfl) rfl) rfl <| Wo (Run_assign (O rfl)) rfl <| Wo (Run_assign (O rfl)) rfl <| Wo (Run_assign (O rfl)) rfl <| ?_
    refine WL_nil <| At_then ?_
    refine WC_seq_cut (γ := Int × Int) (fun ⟨c61, c62⟩ w60 => scrutinyref14_look_expression_K1 r46 c61 c62 = some r ∧ Sat (box b 86 [(sl v2), (.int .i64 at_), (sl v4), (sl v7), (sl v10), (sl v13), (sl v16), (.int .i64 c61), (.int .i64 c62)] :: osl (RP (RI .i64) (RP RS (RP (RI .i64) (RI .i64)))) 88 (sl v2) l R :: osl RS 9 (sl v4) Names R5 :: osl (RP (RI .i64) (RI .i64)) 72 (sl v7) Schema R8 :: osl (RI .i64) 3 (sl v10) Init R11 :: osl RS 9 (sl v13) Procs R14 :: osl (RP (RI .i64) (RP RExpr (RSl (RP (RI .i64) RExpr)))) 60 (sl v16) Cmd R17 :: box b8 57 [(.int .i64 0), (.int .i64 0), (.int .i64 0), (sl (none, 0, 0))] :: box b44 57 [(.int .i64 r46.1.op), (.int .i64 r46.1.n), (.int .i64 r46.1.at_), (sl v48)] :: osl RExpr 57 (sl v48) r46.1.l R49 :: Φ) w60) (fun ⟨c61, c62⟩ => [(0, true, (.pointer (some ⟨b, 0, none⟩))), (4, true, (.pointer (some ⟨b8, 0, none⟩))), (5, true, (.pointer (some ⟨b44, 0, none⟩))), (6, true, (.int .i64 r46.2.1))]) ?_ ?_
    ·
     rintro ⟨c61, c62⟩ w60 ⟨hm, hs⟩
     unfold scrutinyref14_look_expression_K1 at hm
     refine WC_seq <| WC_region ?_
     refine Wo (Run_move (O rfl)) rfl <| Wo (Run_move (O rfl)) rfl <| Wo (Run_nilP (O rfl)) rfl <| Wo (Run_fieldAddr fo86_1 (O rfl)) rfl <| ?_
     refine WS_store (us := [(.int .i64 r46.2.1)]) (vs' := [(sl v2), (.int .i64 r46.2.1), (sl v4), (sl v7), (sl v10), (sl v13), (sl v16), (.int .i64 c61), (.int .i64 c62)]) hs 0 rfl ti3 (O rfl) (O rfl) rfl rfl rfl rfl rfl ?_
     intro w63 hs
     replace hs := Sat.n10 (Γ := Φ) hs rfl
     refine WL_nil <| At_then <| WC_seq <| WC_region ?_
     refine Wo (Run_loadA (vs := [(.int .i64 r46.1.op), (.int .i64 r46.1.n), (.int .i64 r46.1.at_), (sl v48)]) Tryd.underlying57 rfl ti57 (O rfl) (fun _ => (hs.box (i := 8) rfl).part 0 rfl) rfl) rfl <| ?_
     refine WS_store (us := [(.int .i64 r46.1.op), (.int .i64 r46.1.n), (.int .i64 r46.1.at_), (sl v48)]) (vs' := [(.int .i64 r46.1.op), (.int .i64 r46.1.n), (.int .i64 r46.1.at_), (sl v48)]) hs 7 rfl ti57 (O rfl) (O rfl) rfl rfl rfl rfl rfl ?_
     intro w64 hs
     replace hs := Sat.n10 (Γ := Φ) hs rfl
     refine WL_nil <| At_then ?_
     refine WC_ret ?_
     refine At_r1 rfl (ResIs.cA (vs := [(.int .i64 r46.1.op), (.int .i64 r46.1.n), (.int .i64 r46.1.at_), (sl v48)]) rfl Tryd.underlying57 rfl ti57 ((hs.box (i := 7) rfl).part 0 rfl) rfl) ?_
     cases hm
     exact ⟨v48, R49, rfl, (hs.re 10 [9, 0, 1, 2, 3, 4, 5, 6] rfl)⟩
    ·
     refine WC_seq <| WC_region ?_
     refine Wo (Run_move (O rfl)) rfl <| Wo (Run_neI (O rfl) Opd.c) rfl <| ?_
     refine WL_nil <| At_then ?_
     refine WC_cond (O rfl) (fun hc65 => ?_) (fun hc65 => ?_)
     ·
      replace hm := bif_t hc65 hm
      refine WC_region ?_
      refine Wo (Run_move (O rfl)) rfl <| Wo (Run_move (O rfl)) rfl <| Wo (Run_move (O rfl)) rfl <| ?_
      obtain ⟨r66, hr67, hm⟩ := bind_some' hm
      refine WL_call (f := 37) (first := []) (cap := []) (xs := [(.tmp 52), (.tmp 53), (.tmp 54)]) (vs := [(.pointer (some ⟨b, 0, none⟩)), (.int .i64 r57.2.1), (.int .i64 r57.2.2)]) (args := [(.pointer (some ⟨b, 0, none⟩)), (.int .i64 r57.2.1), (.int .i64 r57.2.2)]) Tryd.call37 Opd.f (.cons (O rfl) (.cons (O rfl) (.cons (O rfl) .nil))) rfl rfl (scrutinyref14_look_fail_ok (hs.re 10 [5, 1, 2, 6, 7, 8, 9, 0, 3, 4] rfl) hr67) ?_
      rintro _ w68 ⟨rfl, hs⟩
      replace hs := Sat.n10 (Γ := Φ) hs rfl
      refine WL_nil ?_
      exact At_join (r66.1, r66.2) ⟨hm, (hs.re 10 [0, 1, 2, 3, 4, 5, 6, 9, 8, 7] rfl)⟩ rfl
     ·
      replace hm := bif_f hc65 hm
      refine WC_seq <| WC_region ?_
      refine Wo (Run_move (O rfl)) rfl <| Wo (Run_move (O rfl)) rfl <| Wo (Run_neI (O rfl) (O rfl)) rfl <| ?_
      refine WL_nil <| At_then ?_
      refine WC_cond (O rfl) (fun hc69 => ?_) (fun hc69 => ?_)
      ·
       replace hm := bif_t hc69 hm
       refine WC_region ?_
       refine Wo (Run_move (O rfl)) rfl <| Wo (Run_fieldAddr fo57_2 (O rfl)) rfl <| Wo (Run_load1 (v := (.int .i64 r46.1.at_)) Tryd.underlying3 rfl (O rfl) (fun _ => (hs.box (i := 3) rfl).part 2 rfl)) rfl <| ?_
       obtain ⟨r70, hr71, hm⟩ := bind_some' hm
       refine WL_call (f := 37) (first := []) (cap := []) (xs := [(.tmp 59), (.const (.int .i64 4)), (.tmp 61)]) (vs := [(.pointer (some ⟨b, 0, none⟩)), (.int .i64 4), (.int .i64 r46.1.at_)]) (args := [(.pointer (some ⟨b, 0, none⟩)), (.int .i64 4), (.int .i64 r46.1.at_)]) Tryd.call37 Opd.f (.cons (O rfl) (.cons Opd.c (.cons (O rfl) .nil))) rfl rfl (scrutinyref14_look_fail_ok (hs.re 10 [5, 1, 2, 6, 7, 8, 9, 0, 3, 4] rfl) hr71) ?_
       rintro _ w72 ⟨rfl, hs⟩
       replace hs := Sat.n10 (Γ := Φ) hs rfl
       refine WL_nil ?_
       exact At_join (r70.1, r70.2) ⟨hm, (hs.re 10 [0, 1, 2, 3, 4, 5, 6, 9, 8, 7] rfl)⟩ rfl
      ·
       replace hm := bif_f hc69 hm
       refine WC_skip ?_
       exact At_join (bad, place) ⟨hm, (hs.re 10 [5, 1, 2, 6, 7, 8, 9, 4, 3, 0] rfl)⟩ rfl
end Go.Proofs.YtjdabjpjafkogaaDoor
