/-
  Own texts for the statement StepJoins, cut down to what it needs: Walk9, Walk10, Walk11, Walk12, Walk13, Walk14, Walk15. (cut and joined by a program)
-/
import Derived.Test.YtjdabjpjafkogaaDoorStepJoinsA
import Derived.Test.YtjdabjpjafkogaaDoorStepJoinsB
import Derived.Test.YtjdabjpjafkogaaDoorStepJoinsC
namespace Go.Proofs.YtjdabjpjafkogaaDoor
open Go.Proofs
set_option maxRecDepth 100000 in
set_option maxHeartbeats 4000000 in
theorem scrutinyref14_look_command_ok {Φ : Ctx} {w : World} {l : (List (Int × Str × Int × Int))} {at_ : Int} {Names : (List Str)} {Schema : (List (Int × Int))} {Init : (List Int)} {Procs : (List Str)} {Cmd : (List (Int × Ex × (List (Int × Ex))))} {bad : Int} {place : Int} {b : Nat} {v2 : SLV} {R : List Nat} {v4 : SLV} {R5 : List Nat} {v7 : SLV} {R8 : List Nat} {v10 : SLV} {R11 : List Nat} {v13 : SLV} {R14 : List Nat} {v16 : SLV} {R17 : List Nat} {r : (Int × (List (Int × Ex × (List (Int × Ex)))) × Int × Int)} (hs : Sat (box b 86 [(sl v2), (.int .i64 at_), (sl v4), (sl v7), (sl v10), (sl v13), (sl v16), (.int .i64 bad), (.int .i64 place)] :: osl (RP (RI .i64) (RP RS (RP (RI .i64) (RI .i64)))) 88 (sl v2) l R :: osl RS 9 (sl v4) Names R5 :: osl (RP (RI .i64) (RI .i64)) 72 (sl v7) Schema R8 :: osl (RI .i64) 3 (sl v10) Init R11 :: osl RS 9 (sl v13) Procs R14 :: osl (RP (RI .i64) (RP RExpr (RSl (RP (RI .i64) RExpr)))) 60 (sl v16) Cmd R17 :: Φ) w) (hm : scrutinyref14_look_command l at_ Names Schema Init Procs Cmd bad place = some r) :
  CallsR Tryd.prog 42 [(.pointer (some ⟨b, 0, none⟩))] w (fun v w' => ∃ v5 : SLV, ∃ R6 : List Nat, v = (.tuple #[]) ∧ Sat (box b 86 [(sl v2), (.int .i64 r.1), (sl v4), (sl v7), (sl v10), (sl v13), (sl v5), (.int .i64 r.2.2.1), (.int .i64 r.2.2.2)] :: osl (RP (RI .i64) (RP RS (RP (RI .i64) (RI .i64)))) 88 (sl v2) l R :: osl RS 9 (sl v4) Names R5 :: osl (RP (RI .i64) (RI .i64)) 72 (sl v7) Schema R8 :: osl (RI .i64) 3 (sl v10) Init R11 :: osl RS 9 (sl v13) Procs R14 :: osl (RP (RI .i64) (RP RExpr (RSl (RP (RI .i64) RExpr)))) 60 (sl v5) r.2.1 R6 :: Φ) w') := by
 refine CallsX_enter Tryd.func42 rfl Tryd.ntmps42 rfl ?_
 unfold scrutinyref14_look_command at hm
 refine WC_seq_cut (γ := Int × Int) (fun ⟨c10, c11⟩ w9 => scrutinyref14_look_command_K1 l at_ Names Schema Init Procs Cmd c10 c11 = some r ∧ Sat (box b 86 [(sl v2), (.int .i64 at_), (sl v4), (sl v7), (sl v10), (sl v13), (sl v16), (.int .i64 c10), (.int .i64 c11)] :: osl (RP (RI .i64) (RP RS (RP (RI .i64) (RI .i64)))) 88 (sl v2) l R :: osl RS 9 (sl v4) Names R5 :: osl (RP (RI .i64) (RI .i64)) 72 (sl v7) Schema R8 :: osl (RI .i64) 3 (sl v10) Init R11 :: osl RS 9 (sl v13) Procs R14 :: osl (RP (RI .i64) (RP RExpr (RSl (RP (RI .i64) RExpr)))) 60 (sl v16) Cmd R17 :: Φ) w9) (fun ⟨c10, c11⟩ => [(0, true, (.pointer (some ⟨b, 0, none⟩)))]) ?_ ?_
 ·
  rintro ⟨c10, c11⟩ w9 ⟨hm, hs⟩
  unfold scrutinyref14_look_command_K1 at hm
  refine WC_seq <| WC_region ?_
  refine Wo (Run_move (O rfl)) rfl <| Wo (Run_nilP (O rfl)) rfl <| Wo (Run_fieldAddr fo86_2 (O rfl)) rfl <| Wo (Run_fieldAddr fo28_3 (O rfl)) rfl <| Wo (Run_load1 (v := (sl v13)) Tryd.underlying24 rfl (O rfl) (fun _ => (hs.box (i := 0) rfl).part 5 rfl)) rfl <| Wo (Run_lenSlG Tryd.underlying24 (O rfl) (fun _ => (hs.own (i := 5) rfl).len)) rfl <| Wo (Run_sub (O rfl) Opd.c) rfl <| WL_op (Run_build (parts := [(0, (.tmp 26))]) (v := (.agg #[(.int .i64 (IntKind.i64.wrap ((List.length Procs : Int) - 1))), (.int .i64 0), (.int .i64 0), (.int .i64 0), (sl (none, 0, 0)), (sl (none, 0, 0))])) (.cons (O rfl) .nil) (fun _ => by kernel_rfl)) rfl rfl rfl rfl <| ?_
  refine WS_alloc (zs := [(.int .i64 0), (.int .i64 0), (.int .i64 0), (.int .i64 0), (sl (none, 0, 0)), (sl (none, 0, 0))]) hs ti60 rfl rfl ?_
  intro b12 w13 hs
  replace hs := Sat.n8 (Γ := Φ) hs rfl
  refine WS_store (us := [(.int .i64 (IntKind.i64.wrap ((List.length Procs : Int) - 1))), (.int .i64 0), (.int .i64 0), (.int .i64 0), (sl (none, 0, 0)), (sl (none, 0, 0))]) (vs' := [(.int .i64 (IntKind.i64.wrap ((List.length Procs : Int) - 1))), (.int .i64 0), (.int .i64 0), (.int .i64 0), (sl (none, 0, 0)), (sl (none, 0, 0))]) hs 0 rfl ti60 (O rfl) (O rfl) rfl rfl rfl rfl rfl ?_
  intro w14 hs
  replace hs := Sat.n8 (Γ := Φ) hs rfl
  refine WL_nil <| At_then <| WC_seq <| WC_region ?_
  refine Wo (Run_move (O rfl)) rfl <| ?_
  obtain ⟨r15, hr16, hm⟩ := bind_some' hm
  refine WL_call (f := 53) (first := []) (cap := []) (xs := [(.tmp 28), (.const (.int .i64 2))]) (vs := [(.pointer (some ⟨b, 0, none⟩)), (.int .i64 2)]) (args := [(.pointer (some ⟨b, 0, none⟩)), (.int .i64 2)]) Tryd.call53 Opd.f (.cons (O rfl) (.cons Opd.c .nil)) rfl rfl (scrutinyref14_look_expression_ok (hs.re 8 [1, 2, 3, 4, 5, 6, 7, 0] rfl) hr16) ?_
  rintro _ w19 ⟨v17, R18, rfl, hs⟩
  replace hs := Sat.n9 (Γ := Φ) hs rfl
  refine Wo (Run_fieldAddr fo60_1 (O rfl)) rfl <| ?_
  refine WS_store (us := [(.int .i64 r15.1.op), (.int .i64 r15.1.n), (.int .i64 r15.1.at_), (sl v17)]) (vs' := [(.int .i64 (IntKind.i64.wrap ((List.length Procs : Int) - 1))), (.int .i64 r15.1.op), (.int .i64 r15.1.n), (.int .i64 r15.1.at_), (sl v17), (sl (none, 0, 0))]) hs 8 rfl ti57 (O rfl) (O rfl) rfl rfl rfl rfl rfl ?_
  intro w20 hs
  replace hs := Sat.n9 (Γ := Φ) hs rfl
  refine WL_nil <| At_then <| WC_seq <| WC_region ?_
  refine Wo (Run_move (O rfl)) rfl <| ?_
  obtain ⟨r21, hr22, hm⟩ := bind_some' hm
  refine WL_call (f := 41) (first := []) (cap := []) (xs := [(.tmp 31), (.const (.string ⟨#[58]⟩))]) (vs := [(.pointer (some ⟨b, 0, none⟩)), (S [58])]) (args := [(.pointer (some ⟨b, 0, none⟩)), (S [58])]) Tryd.call41 Opd.f (.cons (O rfl) (.cons Opd.c .nil)) rfl rfl (scrutinyref14_look_sign_ok (hs.re 9 [1, 2, 3, 4, 5, 6, 7, 0, 8] rfl) hr22) ?_
  rintro _ w23 ⟨rfl, hs⟩
  replace hs := Sat.n9 (Γ := Φ) hs rfl
  refine WL_nil <| At_then <| WC_seq <| WC_region ?_
  refine Wo (Run_assign Opd.c) rfl <| ?_
  refine WL_nil <| At_then <| WC_seq ?_
  refine WC_block ?_
  replace hs := hs.addNil (RP (RI .i64) RExpr) 62
  refine WC_loop (σ := Int × Int × Int × (List (Int × Ex)) × Bool) (γ := SLV × List Nat) (F := (scrutinyref14_look_command_L2 l Names Schema Init Procs Cmd r15)) (N := FUEL) (s0 := (r21.1, r21.2.1, r21.2.2, [], true)) (r := r) (fun ⟨c25, c26, c27, l28, more31⟩ ⟨v29, R30⟩ w24 => Sat (box b 86 [(sl v2), (.int .i64 c25), (sl v4), (sl v7), (sl v10), (sl v13), (sl v16), (.int .i64 c26), (.int .i64 c27)] :: osl (RP (RI .i64) (RP RS (RP (RI .i64) (RI .i64)))) 88 (sl v2) l R :: osl RS 9 (sl v4) Names R5 :: osl (RP (RI .i64) (RI .i64)) 72 (sl v7) Schema R8 :: osl (RI .i64) 3 (sl v10) Init R11 :: osl RS 9 (sl v13) Procs R14 :: osl (RP (RI .i64) (RP RExpr (RSl (RP (RI .i64) RExpr)))) 60 (sl v16) Cmd R17 :: box b12 60 [(.int .i64 (IntKind.i64.wrap ((List.length Procs : Int) - 1))), (.int .i64 r15.1.op), (.int .i64 r15.1.n), (.int .i64 r15.1.at_), (sl v17), (sl v29)] :: osl RExpr 57 (sl v17) r15.1.l R18 :: osl (RP (RI .i64) RExpr) 62 (sl v29) l28 R30 :: Φ) w24) (fun ⟨c25, c26, c27, l28, more31⟩ ⟨v29, R30⟩ => [(0, true, (.pointer (some ⟨b, 0, none⟩))), (2, true, (.pointer (some ⟨b12, 0, none⟩))), (3, true, (.bool more31))]) hm ((none, 0, 0), []) (hs.re 10 [1, 2, 3, 4, 5, 6, 7, 9, 8, 0] rfl) rfl ?_
  rintro again32 ⟨c25, c26, c27, l28, more31⟩ ⟨v29, R30⟩ w24 hm hs
  unfold scrutinyref14_look_command_L2 at hm
  dsimp only at hm
  refine WC_seq <| WC_seq <| WC_region ?_
  refine Wo (Run_move (O rfl)) rfl <| Wo (Run_move (O rfl)) rfl <| WL_opG rfl rfl rfl rfl guard_pos (Run_move (O rfl)) rfl rfl rfl <| WL_opG rfl rfl rfl rfl guard_pos (Run_nilP (Opd.g rfl id)) rfl rfl rfl <| WL_opG rfl rfl rfl rfl guard_pos (Run_fieldAddr fo86_3 (Opd.g rfl id)) rfl rfl rfl <| WL_opG rfl rfl rfl rfl guard_pos (Run_load1 (v := (.int .i64 c26)) Tryd.underlying3 rfl (Opd.g rfl id) (fun _ => (hs.box (i := 0) rfl).part 7 rfl)) rfl rfl rfl <| ?_
  obtain ⟨b33, e34, hm⟩ := letv_some hm
  refine WL_opG rfl rfl rfl rfl guard_pos (Run.eqB (Run_eqI (Opd.g rfl id) Opd.c) e34) rfl rfl rfl <| ?_
  obtain ⟨b35, e36, hm⟩ := letv_some hm
  refine Wo (Run.eqB (Run_and (O rfl) (Opd.g rfl id)) e36) rfl <| ?_
  refine WL_nil <| At_then ?_
  refine WC_cond (O rfl) (fun hc37 => ?_) (fun hc37 => ?_)
  ·
   replace hm := bif_t hc37 hm
   refine WC_skip ?_
   refine At_then ?_
   refine WC_block ?_
   refine WC_seq ?_
   refine WC_region_mixed [0, 1, 2, 4, 0, 16, 32, 64, 136, 256, 0, 2047] (.q 0 0 (.q 1 1 (.q 2 3 (.q 3 7 (.q 4 15 (.q 5 31 (.q 6 63 (.q 7 127 (.q 8 255 (.q 9 511 (.l 10 1023 (.l 11 2047 .nil)))))))))))) (by kernel_rfl) (by kernel_rfl) ?_
   intro w38 hx39
   replace hs := hs.ext hx39
   refine WD_pure (fun _ => (Run_move (O rfl))) rfl rfl rfl rfl <| WD_pure (fun _ => (Run_nilP (O rfl))) rfl rfl rfl rfl <| WD_pure (fun _ => (Run_fieldAddr fo86_0 (O rfl))) rfl rfl rfl rfl <| WD_op (fun w => CellsAt w ⟨b, 0, none⟩ [(sl v2)]) ((hs.box (i := 0) rfl).part 0 rfl) (fun _ hJ => (Run_load1 (v := (sl v2)) Tryd.underlying82 rfl (O rfl) (fun _ => hJ))) rfl rfl rfl rfl <| WD_pure (fun _ => (Run_move (O rfl))) rfl rfl rfl rfl <| WD_pure (fun _ => (Run_nilP (O rfl))) rfl rfl rfl rfl <| WD_pure (fun _ => (Run_fieldAddr fo86_1 (O rfl))) rfl rfl rfl rfl <| WD_op (fun w => CellsAt w ⟨b, 1, none⟩ [(.int .i64 c25)]) ((hs.box (i := 0) rfl).part 1 rfl) (fun _ hJ => (Run_load1 (v := (.int .i64 c25)) Tryd.underlying3 rfl (O rfl) (fun _ => hJ))) rfl rfl rfl rfl <| ?_
   obtain ⟨e40, he41, hm⟩ := bind_some' hm
   refine WD_pure (fun _ => (Run_idxAddr (p := (elA (sl v2) c25 4)) Tryd.underlying82 ti88 (O rfl) (O rfl) (fun hg => (Own.atA (A := (RP (RI .i64) (RP RS (RP (RI .i64) (RI .i64))))) (v := (sl v2)) (hs.own (i := 1) rfl) he41).1))) rfl rfl rfl rfl <| WD_op (fun w => true = true → CellsAt w (elA (sl v2) c25 4) [(.int .i64 e40.1), (S e40.2.1), (.int .i64 e40.2.2.1), (.int .i64 e40.2.2.2)]) (fun hg => (Own.cellsF (A := (RP (RI .i64) (RP RS (RP (RI .i64) (RI .i64))))) (v := (sl v2)) (hs.own (i := 1) rfl) he41 (fun _ h => openT88 h)).sub 0 rfl) (fun _ hJ => (Run_loadA (vs := [(.int .i64 e40.1), (S e40.2.1), (.int .i64 e40.2.2.1), (.int .i64 e40.2.2.2)]) Tryd.underlying88 rfl ti88 (O rfl) hJ rfl)) rfl rfl rfl rfl <| ?_
   refine WD_loud (pend' := [(9, fun w => true = true → CellsAt w (elA (sl v2) c25 4) [(.int .i64 e40.1), (S e40.2.1), (.int .i64 e40.2.2.1), (.int .i64 e40.2.2.2)]), (7, fun w => CellsAt w ⟨b, 1, none⟩ [(.int .i64 c25)]), (3, fun w => CellsAt w ⟨b, 0, none⟩ [(sl v2)])]) rfl (by kernel_rfl) ?_
   refine WS_alloc (zs := [(.int .i64 0), (S []), (.int .i64 0), (.int .i64 0)]) hs ti88 rfl rfl ?_
   intro b42 w43 hs
   replace hs := Sat.n11 (Γ := Φ) hs rfl
   refine WL_nil ?_
   refine At_QK (allJ_cons (fun hg => (Own.cellsF (A := (RP (RI .i64) (RP RS (RP (RI .i64) (RI .i64))))) (v := (sl v2)) (hs.own (i := 2) rfl) he41 (fun _ h => openT88 h)).sub 0 rfl) (allJ_cons ((hs.box (i := 1) rfl).part 1 rfl) (allJ_cons ((hs.box (i := 1) rfl).part 0 rfl) allJ_nil))) ?_
   refine WD_loud (pend' := []) rfl (by kernel_rfl) ?_
   refine WS_store (us := [(.int .i64 e40.1), (S e40.2.1), (.int .i64 e40.2.2.1), (.int .i64 e40.2.2.2)]) (vs' := [(.int .i64 e40.1), (S e40.2.1), (.int .i64 e40.2.2.1), (.int .i64 e40.2.2.2)]) hs 0 rfl ti88 (O rfl) (O rfl) rfl rfl rfl rfl rfl ?_
   intro w44 hs
   replace hs := Sat.n11 (Γ := Φ) hs rfl
   refine WL_nil ?_
   refine At_QK allJ_nil ?_
   refine WD_nil ?_
   refine At_then <| WC_seq ?_
   refine WC_region_mixed [0, 1, 2, 4, 8, 0, 32, 80, 255] (.q 0 0 (.q 1 1 (.q 2 3 (.q 3 7 (.q 4 15 (.q 5 31 (.q 6 63 (.l 7 127 (.q 8 255 .nil))))))))) (by kernel_rfl) (by kernel_rfl) ?_
   intro w45 hx46
   replace hs := hs.ext hx46
   refine WD_pure (fun _ => (Run_move (O rfl))) rfl rfl rfl rfl <| WD_pure (fun _ => (Run_nilP (O rfl))) rfl rfl rfl rfl <| WD_pure (fun _ => (Run_fieldAddr fo86_2 (O rfl))) rfl rfl rfl rfl <| WD_pure (fun _ => (Run_fieldAddr fo28_0 (O rfl))) rfl rfl rfl rfl <| WD_op (fun w => CellsAt w ⟨b, 2, none⟩ [(sl v4)]) ((hs.box (i := 1) rfl).part 2 rfl) (fun _ hJ => (Run_load1 (v := (sl v4)) Tryd.underlying24 rfl (O rfl) (fun _ => hJ))) rfl rfl rfl rfl <| WD_pure (fun _ => (Run_fieldAddr fo88_1 (O rfl))) rfl rfl rfl rfl <| WD_op (fun w => CellsAt w ⟨b42, 1, none⟩ [(S e40.2.1)]) ((hs.box (i := 0) rfl).part 1 rfl) (fun _ hJ => (Run_load1 (v := (S e40.2.1)) Tryd.underlying9 rfl (O rfl) (fun _ => hJ))) rfl rfl rfl rfl <| ?_
   refine WD_loud (pend' := []) rfl (by kernel_rfl) ?_
   obtain ⟨r47, hr48, hm⟩ := bind_some' hm
   refine WL_call (f := 52) (first := []) (cap := []) (xs := [(.tmp 55), (.tmp 57)]) (vs := [(sl v4), (S e40.2.1)]) (args := [(sl v4), (S e40.2.1)]) Tryd.call52 Opd.f (.cons (O rfl) (.cons (O rfl) .nil)) rfl rfl (scrutinyref14_index_s2_ok (hs.re 11 [3, 0, 1, 2, 4, 5, 6, 7, 8, 9, 10] rfl) hr48) ?_
   rintro _ w49 ⟨rfl, hs⟩
   replace hs := Sat.n11 (Γ := Φ) hs rfl
   refine WL_nil ?_
   refine At_QK allJ_nil ?_
   refine WD_pure (fun _ => (Run_assign (O rfl))) rfl rfl rfl rfl <| ?_
   refine WD_nil ?_
   refine At_then <| WC_seq <| WC_region ?_
   refine Wo (Run_assign Opd.c) rfl <| ?_
   refine WL_nil <| At_then <| WC_seq <| WC_seq <| WC_region ?_
   refine Wo (Run_assign Opd.c) rfl <| ?_
   refine WL_nil <| At_then ?_
   refine WC_block ?_
   refine WC_loop (σ := Bool × Int) (γ := Unit) (F := (scrutinyref14_look_command_L3 l Names Schema Init Procs Cmd c25 c26 c27 l28 again32 e40 r47)) (N := FUEL) (s0 := (false, 0)) (r := r) (fun ⟨twice51, k52⟩ (_ : Unit) w50 => Sat (box b 86 [(sl v2), (.int .i64 c25), (sl v4), (sl v7), (sl v10), (sl v13), (sl v16), (.int .i64 c26), (.int .i64 c27)] :: osl (RP (RI .i64) (RP RS (RP (RI .i64) (RI .i64)))) 88 (sl v2) l R :: osl RS 9 (sl v4) Names R5 :: osl (RP (RI .i64) (RI .i64)) 72 (sl v7) Schema R8 :: osl (RI .i64) 3 (sl v10) Init R11 :: osl RS 9 (sl v13) Procs R14 :: osl (RP (RI .i64) (RP RExpr (RSl (RP (RI .i64) RExpr)))) 60 (sl v16) Cmd R17 :: box b12 60 [(.int .i64 (IntKind.i64.wrap ((List.length Procs : Int) - 1))), (.int .i64 r15.1.op), (.int .i64 r15.1.n), (.int .i64 r15.1.at_), (sl v17), (sl v29)] :: osl RExpr 57 (sl v17) r15.1.l R18 :: osl (RP (RI .i64) RExpr) 62 (sl v29) l28 R30 :: box b42 88 [(.int .i64 e40.1), (S e40.2.1), (.int .i64 e40.2.2.1), (.int .i64 e40.2.2.2)] :: Φ) w50) (fun ⟨twice51, k52⟩ (_ : Unit) => [(0, true, (.pointer (some ⟨b, 0, none⟩))), (2, true, (.pointer (some ⟨b12, 0, none⟩))), (4, true, (.pointer (some ⟨b42, 0, none⟩))), (5, true, (.int .i64 r47)), (6, true, (.bool twice51)), (7, true, (.int .i64 k52))]) hm () (hs.re 11 [2, 3, 0, 4, 5, 6, 7, 8, 9, 10, 1] rfl) rfl ?_
   rintro again53 ⟨twice51, k52⟩ _ w50 hm hs
   unfold scrutinyref14_look_command_L3 at hm
   dsimp only at hm
   refine WC_seq <| WC_seq <| WC_region ?_
   refine Wo (Run_move (O rfl)) rfl <| Wo (Run_fieldAddr fo60_2 (O rfl)) rfl <| Wo (Run_load1 (v := (sl v29)) Tryd.underlying58 rfl (O rfl) (fun _ => (hs.box (i := 7) rfl).part 5 rfl)) rfl <| Wo (Run_lenSlG Tryd.underlying58 (O rfl) (fun _ => (hs.own (i := 9) rfl).len)) rfl <| Wo (Run_ltI (O rfl) (O rfl)) rfl <| ?_
   refine WL_nil <| At_then ?_
   refine WC_cond (O rfl) (fun hc54 => ?_) (fun hc54 => ?_)
   ·
    replace hm := bif_t hc54 hm
    refine WC_skip ?_
    refine At_then <| WC_seq ?_
    refine WC_block ?_
    refine WC_region ?_
    refine Wo (Run_move (O rfl)) rfl <| Wo (Run_move (O rfl)) rfl <| Wg rfl guard_neg (Run_fieldAddr fo60_2 (O rfl)) rfl <| Wg rfl guard_neg (Run_load1 (v := (sl v29)) Tryd.underlying58 rfl (Opd.g rfl id) (fun _ => (hs.box (i := 7) rfl).part 5 rfl)) rfl <| Wg rfl guard_neg (Run_move (O rfl)) rfl <| ?_
    obtain ⟨e55, he56, -, hm⟩ := callG_some hm
    obtain ⟨v57, hC58, hN59, hR60⟩ := cellsMO62 (g := (!twice51)) (fun hg => (hs.own (i := 9) rfl)) (fun hg => (he56 hg))
    replace hs := hs.addL [immG (!twice51) (RSl RExpr) [sl v57] e55.2.l] rfl ⟨fun hg => ⟨_, rfl, hR60 hg⟩, trivial⟩
    replace hs := Sat.n12 (Γ := Φ) hs rfl
    refine Wg rfl guard_neg (Run_idxAddr (p := (elA (sl v29) k52 5)) Tryd.underlying58 ti62 (Opd.g rfl id) (Opd.g rfl id) (fun hg => (Own.atA (A := (RP (RI .i64) RExpr)) (v := (sl v29)) (hs.own (i := 10) rfl) (he56 hg)).1)) rfl <| Wg rfl guard_neg (Run_fieldAddr fo62_0 (Opd.g rfl id)) rfl <| Wg rfl guard_neg (Run_load1 (v := (.int .i64 e55.1)) Tryd.underlying3 rfl (Opd.g rfl id) (fun hg => ((hC58 hg).sub (us := [(.int .i64 e55.1)]) 0 rfl).sub 0 rfl)) rfl <| Wg rfl guard_neg (Run_move (O rfl)) rfl <| ?_
    obtain ⟨b61, e62, hm⟩ := letv_some hm
    refine Wg rfl guard_neg (Run.eqB (Run_eqI (Opd.g rfl id) (Opd.g rfl id)) e62) rfl <| ?_
    obtain ⟨b63, e64, hm⟩ := letv_some hm
    refine Wo (Run.eqB (Run_or (O rfl) (Opd.g rfl id)) e64) rfl <| Wo (Run_assign (O rfl)) rfl <| ?_
    refine WL_nil ?_
    refine At_blk_normal ?_
    refine At_then <| WC_region ?_
    refine Wo (Run_move (O rfl)) rfl <| Wo (Run_add (O rfl) Opd.c) rfl <| Wo (Run_assign (O rfl)) rfl <| ?_
    refine WL_nil ?_
    exact At_again (b63, (IntKind.i64.wrap (k52 + 1))) () hm (hs.re 12 [1, 2, 3, 4, 5, 6, 7, 8, 9, 10, 11] rfl) rfl
   ·
    replace hm := bif_f hc54 hm
    refine WC_exit ?_
    refine At_then_exit <| At_then_exit <| At_blk_here <| ?_
    refine At_then ?_
    refine WC_seq_cut (γ := Int × Int) (fun ⟨c66, c67⟩ w65 => scrutinyref14_look_command_K4 l Names Schema Init Procs Cmd c25 l28 again32 r47 c66 c67 = some r ∧ Sat (box b 86 [(sl v2), (.int .i64 c25), (sl v4), (sl v7), (sl v10), (sl v13), (sl v16), (.int .i64 c66), (.int .i64 c67)] :: osl (RP (RI .i64) (RP RS (RP (RI .i64) (RI .i64)))) 88 (sl v2) l R :: osl RS 9 (sl v4) Names R5 :: osl (RP (RI .i64) (RI .i64)) 72 (sl v7) Schema R8 :: osl (RI .i64) 3 (sl v10) Init R11 :: osl RS 9 (sl v13) Procs R14 :: osl (RP (RI .i64) (RP RExpr (RSl (RP (RI .i64) RExpr)))) 60 (sl v16) Cmd R17 :: box b12 60 [(.int .i64 (IntKind.i64.wrap ((List.length Procs : Int) - 1))), (.int .i64 r15.1.op), (.int .i64 r15.1.n), (.int .i64 r15.1.at_), (sl v17), (sl v29)] :: osl RExpr 57 (sl v17) r15.1.l R18 :: osl (RP (RI .i64) RExpr) 62 (sl v29) l28 R30 :: Φ) w65) (fun ⟨c66, c67⟩ => [(0, true, (.pointer (some ⟨b, 0, none⟩))), (2, true, (.pointer (some ⟨b12, 0, none⟩))), (5, true, (.int .i64 r47))]) ?_ ?_
    ·
     rintro ⟨c66, c67⟩ w65 ⟨hm, hs⟩
     unfold scrutinyref14_look_command_K4 at hm
     refine WC_seq_cut (γ := Int) (fun c69 w68 => scrutinyref14_look_command_K5 l Names Schema Init Procs Cmd l28 again32 r47 c66 c67 c69 = some r ∧ Sat (box b 86 [(sl v2), (.int .i64 c69), (sl v4), (sl v7), (sl v10), (sl v13), (sl v16), (.int .i64 c66), (.int .i64 c67)] :: osl (RP (RI .i64) (RP RS (RP (RI .i64) (RI .i64)))) 88 (sl v2) l R :: osl RS 9 (sl v4) Names R5 :: osl (RP (RI .i64) (RI .i64)) 72 (sl v7) Schema R8 :: osl (RI .i64) 3 (sl v10) Init R11 :: osl RS 9 (sl v13) Procs R14 :: osl (RP (RI .i64) (RP RExpr (RSl (RP (RI .i64) RExpr)))) 60 (sl v16) Cmd R17 :: box b12 60 [(.int .i64 (IntKind.i64.wrap ((List.length Procs : Int) - 1))), (.int .i64 r15.1.op), (.int .i64 r15.1.n), (.int .i64 r15.1.at_), (sl v17), (sl v29)] :: osl RExpr 57 (sl v17) r15.1.l R18 :: osl (RP (RI .i64) RExpr) 62 (sl v29) l28 R30 :: Φ) w68) (fun c69 => [(0, true, (.pointer (some ⟨b, 0, none⟩))), (2, true, (.pointer (some ⟨b12, 0, none⟩))), (5, true, (.int .i64 r47))]) ?_ ?_
     ·
      rintro c69 w68 ⟨hm, hs⟩
      unfold scrutinyref14_look_command_K5 at hm
      refine WC_seq <| WC_region ?_
      refine Wo (Run_move (O rfl)) rfl <| ?_
      obtain ⟨r70, hr71, hm⟩ := bind_some' hm
      refine WL_call (f := 41) (first := []) (cap := []) (xs := [(.tmp 106), (.const (.string ⟨#[61]⟩))]) (vs := [(.pointer (some ⟨b, 0, none⟩)), (S [61])]) (args := [(.pointer (some ⟨b, 0, none⟩)), (S [61])]) Tryd.call41 Opd.f (.cons (O rfl) (.cons Opd.c .nil)) rfl rfl (scrutinyref14_look_sign_ok (hs.re 10 [0, 1, 2, 3, 4, 5, 6, 7, 8, 9] rfl) hr71) ?_
      rintro _ w72 ⟨rfl, hs⟩
      replace hs := Sat.n10 (Γ := Φ) hs rfl
      refine WL_nil <| At_then <| WC_seq <| WC_region ?_
      refine Wo (Run_move (O rfl)) rfl <| ?_
      obtain ⟨r73, hr74, hm⟩ := bind_some' hm
      refine WL_call (f := 53) (first := []) (cap := []) (xs := [(.tmp 108), (.const (.int .i64 1))]) (vs := [(.pointer (some ⟨b, 0, none⟩)), (.int .i64 1)]) (args := [(.pointer (some ⟨b, 0, none⟩)), (.int .i64 1)]) Tryd.call53 Opd.f (.cons (O rfl) (.cons Opd.c .nil)) rfl rfl (scrutinyref14_look_expression_ok (hs.re 10 [0, 1, 2, 3, 4, 5, 6, 7, 8, 9] rfl) hr74) ?_
      rintro _ w77 ⟨v75, R76, rfl, hs⟩
      replace hs := Sat.n11 (Γ := Φ) hs rfl
      refine WS_alloc (zs := [(.int .i64 0), (.int .i64 0), (.int .i64 0), (sl (none, 0, 0))]) hs ti57 rfl rfl ?_
      intro b78 w79 hs
      replace hs := Sat.n12 (Γ := Φ) hs rfl
      refine WS_store (us := [(.int .i64 r73.1.op), (.int .i64 r73.1.n), (.int .i64 r73.1.at_), (sl v75)]) (vs' := [(.int .i64 r73.1.op), (.int .i64 r73.1.n), (.int .i64 r73.1.at_), (sl v75)]) hs 0 rfl ti57 (O rfl) (O rfl) rfl rfl rfl rfl rfl ?_
      intro w80 hs
      replace hs := Sat.n12 (Γ := Φ) hs rfl
      refine WL_nil <| At_then <| WC_seq <| WC_region ?_
      refine Wo (Run_fieldAddr fo60_2 (O rfl)) rfl <| Wo (Run_load1 (v := (sl v29)) Tryd.underlying58 rfl (O rfl) (fun _ => (hs.box (i := 9) rfl).part 5 rfl)) rfl <| Wo (Run_move (O rfl)) rfl <| Wo (Run_loadA (vs := [(.int .i64 r73.1.op), (.int .i64 r73.1.n), (.int .i64 r73.1.at_), (sl v75)]) Tryd.underlying57 rfl ti57 (O rfl) (fun _ => (hs.box (i := 0) rfl).part 0 rfl) rfl) rfl <| Wo (Run_build (parts := [(0, (.tmp 112)), (1, (.tmp 113))]) (v := (.agg #[(.int .i64 r47), (.int .i64 r73.1.op), (.int .i64 r73.1.n), (.int .i64 r73.1.at_), (sl v75)])) (.cons (O rfl) (.cons (O rfl) .nil)) (fun _ => by kernel_rfl)) rfl <| ?_
      replace hs := hs.freeze (i := 1) rfl
      refine WS_lit (A := (RP (RI .i64) RExpr)) (xs := [(r47, r73.1)]) (zs := [(.int .i64 0), (.int .i64 0), (.int .i64 0), (.int .i64 0), (sl (none, 0, 0))]) (cells := [(.int .i64 r47), (.int .i64 r73.1.op), (.int .i64 r73.1.n), (.int .i64 r73.1.at_), (sl v75)]) (parts := [(0, (.tmp 114))]) hs Tryd.underlying58 ti62 rfl rfl rfl (.cons (O rfl) .nil) (by kernel_rfl) rfl (ARd.cons (A := (RP (RI .i64) RExpr)) (c := [(.int .i64 r47), (.int .i64 r73.1.op), (.int .i64 r73.1.n), (.int .i64 r73.1.at_), (sl v75)]) (x := (r47, r73.1)) ⟨_, _, rfl, rfl, (RExpr_closeE (⟨_, rfl, (hs.sl (i := 1) rfl)⟩))⟩ ARd.nil) rfl ?_
      intro b81 w82 hs
      replace hs := Sat.n13 (Γ := Φ) hs rfl
      replace hs := hs.freeze (i := 0) rfl
      obtain ⟨k83, hm⟩ := chk_some hm
      refine WS_append (A := (RP (RI .i64) RExpr)) hs 12 rfl Tryd.underlying58 ti62 rfl rfl (O rfl) (O rfl) (hs.sl (i := 0) rfl) k83 rfl ?_
      intro v84 R85 w86 hs
      replace hs := Sat.n13 (Γ := Φ) hs rfl
      refine Wo (Run_fieldAddr fo60_2 (O rfl)) rfl <| ?_
      refine WS_store (us := [(sl v84)]) (vs' := [(.int .i64 (IntKind.i64.wrap ((List.length Procs : Int) - 1))), (.int .i64 r15.1.op), (.int .i64 r15.1.n), (.int .i64 r15.1.at_), (sl v17), (sl v84)]) hs 10 rfl ti58 (O rfl) (O rfl) rfl rfl rfl rfl rfl ?_
      intro w87 hs
      replace hs := Sat.n13 (Γ := Φ) hs rfl
      refine WL_nil <| At_then <| WC_seq <| WC_region ?_
      refine Wo (Run_move (O rfl)) rfl <| ?_
      obtain ⟨r88, hr89, hm⟩ := bind_some' hm
      refine WL_call (f := 36) (first := []) (cap := []) (xs := [(.tmp 118), (.const (.int .i64 3)), (.const (.string ⟨#[44]⟩))]) (vs := [(.pointer (some ⟨b, 0, none⟩)), (.int .i64 3), (S [44])]) (args := [(.pointer (some ⟨b, 0, none⟩)), (.int .i64 3), (S [44])]) Tryd.call36 Opd.f (.cons (O rfl) (.cons Opd.c (.cons Opd.c .nil))) rfl rfl (scrutinyref14_look_is_ok (hs.re 13 [3, 4, 5, 6, 7, 8, 9, 0, 1, 2, 10, 11, 12] rfl) hr89) ?_
      rintro _ w90 ⟨rfl, hs⟩
      replace hs := Sat.n13 (Γ := Φ) hs rfl
      refine Wo (Run_assign (O rfl)) rfl <| ?_
      refine WL_nil <| At_then <| WC_seq <| WC_region ?_
      refine Wo (Run_move (O rfl)) rfl <| ?_
      refine WL_nil <| At_then ?_
      refine WC_cond (O rfl) (fun hc91 => ?_) (fun hc91 => ?_)
      ·
       replace hm := bif_t hc91 hm
       refine WC_region ?_
       refine Wo (Run_move (O rfl)) rfl <| Wo (Run_move (O rfl)) rfl <| Wo (Run_nilP (O rfl)) rfl <| Wo (Run_fieldAddr fo86_1 (O rfl)) rfl <| Wo (Run_load1 (v := (.int .i64 r73.2.1)) Tryd.underlying3 rfl (O rfl) (fun _ => (hs.box (i := 0) rfl).part 1 rfl)) rfl <| Wo (Run_add (O rfl) Opd.c) rfl <| Wo (Run_nilP (O rfl)) rfl <| Wo (Run_fieldAddr fo86_1 (O rfl)) rfl <| ?_
       refine WS_store (us := [(.int .i64 (IntKind.i64.wrap (r73.2.1 + 1)))]) (vs' := [(sl v2), (.int .i64 (IntKind.i64.wrap (r73.2.1 + 1))), (sl v4), (sl v7), (sl v10), (sl v13), (sl v16), (.int .i64 r73.2.2.1), (.int .i64 r73.2.2.2)]) hs 0 rfl ti3 (O rfl) (O rfl) rfl rfl rfl rfl rfl ?_
       intro w92 hs
       replace hs := Sat.n13 (Γ := Φ) hs rfl
       refine WL_nil ?_
       refine At_blk_normal ?_
       exact At_again ((IntKind.i64.wrap (r73.2.1 + 1)), r73.2.2.1, r73.2.2.2, (l28 ++ ([(r47, r73.1)] : List (Int × Ex))), r88) (v84, R85) hm (hs.re 13 [0, 1, 2, 3, 4, 5, 6, 10, 11, 12] rfl) rfl
      ·
       replace hm := bif_f hc91 hm
       refine WC_skip ?_
       refine At_blk_normal ?_
       exact At_again (r73.2.1, r73.2.2.1, r73.2.2.2, (l28 ++ ([(r47, r73.1)] : List (Int × Ex))), r88) (v84, R85) hm (hs.re 13 [0, 1, 2, 3, 4, 5, 6, 10, 11, 12] rfl) rfl
     ·
      refine WC_seq <| WC_region ?_
      refine Wo (Run_move (O rfl)) rfl <| Wo (Run_nilP (O rfl)) rfl <| Wo (Run_fieldAddr fo86_3 (O rfl)) rfl <| Wo (Run_load1 (v := (.int .i64 c66)) Tryd.underlying3 rfl (O rfl) (fun _ => (hs.box (i := 0) rfl).part 7 rfl)) rfl <| Wo (Run_eqI (O rfl) Opd.c) rfl <| ?_
      refine WL_nil <| At_then ?_
      refine WC_cond (O rfl) (fun hc93 => ?_) (fun hc93 => ?_)
      ·
       replace hm := bif_t hc93 hm
       refine WC_region ?_
       refine Wo (Run_move (O rfl)) rfl <| Wo (Run_move (O rfl)) rfl <| Wo (Run_nilP (O rfl)) rfl <| Wo (Run_fieldAddr fo86_1 (O rfl)) rfl <| Wo (Run_load1 (v := (.int .i64 c25)) Tryd.underlying3 rfl (O rfl) (fun _ => (hs.box (i := 0) rfl).part 1 rfl)) rfl <| Wo (Run_add (O rfl) Opd.c) rfl <| Wo (Run_nilP (O rfl)) rfl <| Wo (Run_fieldAddr fo86_1 (O rfl)) rfl <| ?_
       refine WS_store (us := [(.int .i64 (IntKind.i64.wrap (c25 + 1)))]) (vs' := [(sl v2), (.int .i64 (IntKind.i64.wrap (c25 + 1))), (sl v4), (sl v7), (sl v10), (sl v13), (sl v16), (.int .i64 c66), (.int .i64 c67)]) hs 0 rfl ti3 (O rfl) (O rfl) rfl rfl rfl rfl rfl ?_
       intro w94 hs
       replace hs := Sat.n10 (Γ := Φ) hs rfl
       refine WL_nil ?_
       exact At_join (IntKind.i64.wrap (c25 + 1)) ⟨hm, (hs.re 10 [0, 1, 2, 3, 4, 5, 6, 7, 8, 9] rfl)⟩ rfl
      ·
       replace hm := bif_f hc93 hm
       refine WC_skip ?_
       exact At_join c25 ⟨hm, (hs.re 10 [0, 1, 2, 3, 4, 5, 6, 7, 8, 9] rfl)⟩ rfl
    ·
     refine WC_seq <| WC_region ?_
     refine Wo (Run_fieldAddr fo88_0 (O rfl)) rfl <| Wo (Run_load1 (v := (.int .i64 e40.1)) Tryd.underlying3 rfl (O rfl) (fun _ => (hs.box (i := 10) rfl).part 0 rfl)) rfl <| Wo (Run_neI (O rfl) Opd.c) rfl <| ?_
     refine WL_nil <| At_then ?_
     refine WC_cond (O rfl) (fun hc95 => ?_) (fun hc95 => ?_)
     ·
      replace hm := bif_t hc95 hm
      refine WC_region ?_
      refine Wo (Run_move (O rfl)) rfl <| Wo (Run_fieldAddr fo88_3 (O rfl)) rfl <| Wo (Run_load1 (v := (.int .i64 e40.2.2.2)) Tryd.underlying3 rfl (O rfl) (fun _ => (hs.box (i := 10) rfl).part 3 rfl)) rfl <| ?_
      obtain ⟨r96, hr97, hm⟩ := bind_some' hm
      refine WL_call (f := 37) (first := []) (cap := []) (xs := [(.tmp 80), (.const (.int .i64 2)), (.tmp 82)]) (vs := [(.pointer (some ⟨b, 0, none⟩)), (.int .i64 2), (.int .i64 e40.2.2.2)]) (args := [(.pointer (some ⟨b, 0, none⟩)), (.int .i64 2), (.int .i64 e40.2.2.2)]) Tryd.call37 Opd.f (.cons (O rfl) (.cons Opd.c (.cons (O rfl) .nil))) rfl rfl (scrutinyref14_look_fail_ok (hs.re 11 [0, 1, 2, 3, 4, 5, 6, 7, 8, 9, 10] rfl) hr97) ?_
      rintro _ w98 ⟨rfl, hs⟩
      replace hs := Sat.n11 (Γ := Φ) hs rfl
      refine WL_nil ?_
      exact At_join (r96.1, r96.2) ⟨hm, (hs.re 11 [0, 1, 2, 3, 4, 5, 6, 7, 8, 9] rfl)⟩ rfl
     ·
      replace hm := bif_f hc95 hm
      refine WC_seq <| WC_region ?_
      refine Wo (Run_move (O rfl)) rfl <| ?_
      obtain ⟨b99, e100, hm⟩ := letv_some hm
      refine Wo (Run.eqB (Run_ltI (O rfl) Opd.c) e100) rfl <| Wo (Run_move (O rfl)) rfl <| Wg rfl guard_neg (Run_move (O rfl)) rfl <| ?_
      obtain ⟨b101, e102, hm⟩ := letv_some hm
      refine Wo (Run.eqB (Run_or (O rfl) (Opd.g rfl id)) e102) rfl <| ?_
      refine WL_nil <| At_then ?_
      refine WC_cond (O rfl) (fun hc103 => ?_) (fun hc103 => ?_)
      ·
       replace hm := bif_t hc103 hm
       refine WC_region ?_
       refine Wo (Run_move (O rfl)) rfl <| Wo (Run_fieldAddr fo88_3 (O rfl)) rfl <| Wo (Run_load1 (v := (.int .i64 e40.2.2.2)) Tryd.underlying3 rfl (O rfl) (fun _ => (hs.box (i := 10) rfl).part 3 rfl)) rfl <| ?_
       obtain ⟨r104, hr105, hm⟩ := bind_some' hm
       refine WL_call (f := 37) (first := []) (cap := []) (xs := [(.tmp 89), (.const (.int .i64 3)), (.tmp 91)]) (vs := [(.pointer (some ⟨b, 0, none⟩)), (.int .i64 3), (.int .i64 e40.2.2.2)]) (args := [(.pointer (some ⟨b, 0, none⟩)), (.int .i64 3), (.int .i64 e40.2.2.2)]) Tryd.call37 Opd.f (.cons (O rfl) (.cons Opd.c (.cons (O rfl) .nil))) rfl rfl (scrutinyref14_look_fail_ok (hs.re 11 [0, 1, 2, 3, 4, 5, 6, 7, 8, 9, 10] rfl) hr105) ?_
       rintro _ w106 ⟨rfl, hs⟩
       replace hs := Sat.n11 (Γ := Φ) hs rfl
       refine WL_nil ?_
       exact At_join (r104.1, r104.2) ⟨hm, (hs.re 11 [0, 1, 2, 3, 4, 5, 6, 7, 8, 9] rfl)⟩ rfl
      ·
       replace hm := bif_f hc103 hm
       refine WC_skip ?_
       exact At_join (c26, c27) ⟨hm, (hs.re 11 [0, 1, 2, 3, 4, 5, 6, 7, 8, 9] rfl)⟩ rfl
  ·
   replace hm := bif_f hc37 hm
   refine WC_exit ?_
   refine At_then_exit <| At_then_exit <| At_blk_here <| ?_
   refine At_then <| WC_seq <| WC_region ?_
   refine Wo (Run_move (O rfl)) rfl <| ?_
   obtain ⟨r107, hr108, hm⟩ := bind_some' hm
   refine WL_call (f := 41) (first := []) (cap := []) (xs := [(.tmp 129), (.const (.string ⟨#[59]⟩))]) (vs := [(.pointer (some ⟨b, 0, none⟩)), (S [59])]) (args := [(.pointer (some ⟨b, 0, none⟩)), (S [59])]) Tryd.call41 Opd.f (.cons (O rfl) (.cons Opd.c .nil)) rfl rfl (scrutinyref14_look_sign_ok (hs.re 10 [0, 1, 2, 3, 4, 5, 6, 7, 8, 9] rfl) hr108) ?_
   rintro _ w109 ⟨rfl, hs⟩
   replace hs := Sat.n10 (Γ := Φ) hs rfl
   refine WL_nil <| At_then ?_
   refine WC_region_mixed [0, 0, 2, 4, 8, 16, 0, 64, 160, 511, 1023, 1535, 2559] (.q 0 0 (.q 1 1 (.q 2 3 (.q 3 7 (.q 4 15 (.q 5 31 (.q 6 63 (.l 7 127 (.l 8 255 (.q 9 511 (.q 10 1023 (.q 11 2047 (.l 12 4095 .nil))))))))))))) (by kernel_rfl) (by kernel_rfl) ?_
   intro w110 hx111
   replace hs := hs.ext hx111
   refine WD_pure (fun _ => (Run_move (O rfl))) rfl rfl rfl rfl <| WD_pure (fun _ => (Run_move (O rfl))) rfl rfl rfl rfl <| WD_pure (fun _ => (Run_nilP (O rfl))) rfl rfl rfl rfl <| WD_pure (fun _ => (Run_fieldAddr fo86_2 (O rfl))) rfl rfl rfl rfl <| WD_pure (fun _ => (Run_fieldAddr fo28_4 (O rfl))) rfl rfl rfl rfl <| WD_op (fun w => CellsAt w ⟨b, 6, none⟩ [(sl v16)]) ((hs.box (i := 0) rfl).part 6 rfl) (fun _ hJ => (Run_load1 (v := (sl v16)) Tryd.underlying26 rfl (O rfl) (fun _ => hJ))) rfl rfl rfl rfl <| WD_op (fun w => CellsAt w ⟨b12, 0, none⟩ [(.int .i64 (IntKind.i64.wrap ((List.length Procs : Int) - 1))), (.int .i64 r15.1.op), (.int .i64 r15.1.n), (.int .i64 r15.1.at_), (sl v17), (sl v29)]) ((hs.box (i := 7) rfl).part 0 rfl) (fun _ hJ => (Run_loadA (vs := [(.int .i64 (IntKind.i64.wrap ((List.length Procs : Int) - 1))), (.int .i64 r15.1.op), (.int .i64 r15.1.n), (.int .i64 r15.1.at_), (sl v17), (sl v29)]) Tryd.underlying60 rfl ti60 (O rfl) (fun _ => hJ) rfl)) rfl rfl rfl rfl <| ?_
   refine WD_loud (pend' := [(5, fun w => CellsAt w ⟨b, 6, none⟩ [(sl v16)])]) rfl (by kernel_rfl) ?_
   replace hs := hs.freeze (i := 8) rfl
   replace hs := hs.freeze (i := 9) rfl
   refine WS_lit (A := (RP (RI .i64) (RP RExpr (RSl (RP (RI .i64) RExpr))))) (xs := [((IntKind.i64.wrap ((List.length Procs : Int) - 1)), r15.1, l28)]) (zs := [(.int .i64 0), (.int .i64 0), (.int .i64 0), (.int .i64 0), (sl (none, 0, 0)), (sl (none, 0, 0))]) (cells := [(.int .i64 (IntKind.i64.wrap ((List.length Procs : Int) - 1))), (.int .i64 r15.1.op), (.int .i64 r15.1.n), (.int .i64 r15.1.at_), (sl v17), (sl v29)]) (parts := [(0, (.tmp 137))]) hs Tryd.underlying26 ti60 rfl rfl rfl (.cons (O rfl) .nil) (by kernel_rfl) rfl (ARd.cons (A := (RP (RI .i64) (RP RExpr (RSl (RP (RI .i64) RExpr))))) (c := [(.int .i64 (IntKind.i64.wrap ((List.length Procs : Int) - 1))), (.int .i64 r15.1.op), (.int .i64 r15.1.n), (.int .i64 r15.1.at_), (sl v17), (sl v29)]) (x := ((IntKind.i64.wrap ((List.length Procs : Int) - 1)), r15.1, l28)) ⟨_, _, rfl, rfl, ⟨_, _, rfl, (RExpr_closeE (⟨_, rfl, (hs.sl (i := 8) rfl)⟩)), ⟨_, rfl, (hs.sl (i := 9) rfl)⟩⟩⟩ ARd.nil) rfl ?_
   intro b112 w113 hs
   replace hs := Sat.n11 (Γ := Φ) hs rfl
   refine WL_nil ?_
   refine At_QK (allJ_cons ((hs.box (i := 1) rfl).part 6 rfl) allJ_nil) ?_
   refine WD_loud (pend' := []) rfl (by kernel_rfl) ?_
   replace hs := hs.freeze (i := 0) rfl
   obtain ⟨k114, hm⟩ := chk_some hm
   refine WS_append (A := (RP (RI .i64) (RP RExpr (RSl (RP (RI .i64) RExpr))))) hs 7 rfl Tryd.underlying26 ti60 rfl rfl (O rfl) (O rfl) (hs.sl (i := 0) rfl) k114 rfl ?_
   intro v115 R116 w117 hs
   replace hs := Sat.n11 (Γ := Φ) hs rfl
   refine WL_nil ?_
   refine At_QK allJ_nil ?_
   refine WD_pure (fun _ => (Run_nilP (O rfl))) rfl rfl rfl rfl <| WD_pure (fun _ => (Run_fieldAddr fo86_2 (O rfl))) rfl rfl rfl rfl <| WD_pure (fun _ => (Run_fieldAddr fo28_4 (O rfl))) rfl rfl rfl rfl <| ?_
   refine WD_loud (pend' := []) rfl (by kernel_rfl) ?_
   refine WS_store (us := [(sl v115)]) (vs' := [(sl v2), (.int .i64 r107.1), (sl v4), (sl v7), (sl v10), (sl v13), (sl v115), (.int .i64 r107.2.1), (.int .i64 r107.2.2)]) hs 1 rfl ti26 (O rfl) (O rfl) rfl rfl rfl rfl rfl ?_
   intro w118 hs
   replace hs := Sat.n11 (Γ := Φ) hs rfl
   refine WL_nil ?_
   refine At_QK allJ_nil ?_
   refine WD_nil ?_
   refine At_e0 rfl  ?_
   cases hm
   exact ⟨v115, R116, rfl, (hs.re 11 [1, 2, 3, 4, 5, 6, 7] rfl)⟩
 ·
  refine WC_seq <| WC_region ?_
  refine Wo (Run_move (O rfl)) rfl <| Wo (Run_nilP (O rfl)) rfl <| Wo (Run_fieldAddr fo86_2 (O rfl)) rfl <| Wo (Run_fieldAddr fo28_4 (O rfl)) rfl <| Wo (Run_load1 (v := (sl v16)) Tryd.underlying26 rfl (O rfl) (fun _ => (hs.box (i := 0) rfl).part 6 rfl)) rfl <| Wo (Run_lenSlG Tryd.underlying26 (O rfl) (fun _ => (hs.own (i := 6) rfl).len)) rfl <| Wo (Run_geI (O rfl) Opd.c) rfl <| ?_
  refine WL_nil <| At_then ?_
  refine WC_cond (O rfl) (fun hc119 => ?_) (fun hc119 => ?_)
  ·
   replace hm := bif_t hc119 hm
   refine WC_region ?_
   refine Wo (Run_move (O rfl)) rfl <| Wo (Run_move (O rfl)) rfl <| ?_
   obtain ⟨r120, hr121, hm⟩ := bind_some' hm
   refine WL_call (f := 38) (first := []) (cap := []) (xs := [(.tmp 17)]) (vs := [(.pointer (some ⟨b, 0, none⟩))]) (args := [(.pointer (some ⟨b, 0, none⟩))]) Tryd.call38 Opd.f (.cons (O rfl) .nil) rfl rfl (scrutinyref14_look_here_ok (hs.re 7 [0, 1, 2, 3, 4, 5, 6] rfl) hr121) ?_
   rintro _ w122 ⟨rfl, hs⟩
   replace hs := Sat.n7 (Γ := Φ) hs rfl
   obtain ⟨r123, hr124, hm⟩ := bind_some' hm
   refine WL_call (f := 37) (first := []) (cap := []) (xs := [(.tmp 16), (.const (.int .i64 9)), (.tmp 18)]) (vs := [(.pointer (some ⟨b, 0, none⟩)), (.int .i64 9), (.int .i64 r120)]) (args := [(.pointer (some ⟨b, 0, none⟩)), (.int .i64 9), (.int .i64 r120)]) Tryd.call37 Opd.f (.cons (O rfl) (.cons Opd.c (.cons (O rfl) .nil))) rfl rfl (scrutinyref14_look_fail_ok (hs.re 7 [0, 1, 2, 3, 4, 5, 6] rfl) hr124) ?_
   rintro _ w125 ⟨rfl, hs⟩
   replace hs := Sat.n7 (Γ := Φ) hs rfl
   refine WL_nil ?_
   exact At_join (r123.1, r123.2) ⟨hm, (hs.re 7 [0, 1, 2, 3, 4, 5, 6] rfl)⟩ rfl
  ·
   replace hm := bif_f hc119 hm
   refine WC_skip ?_
   exact At_join (bad, place) ⟨hm, (hs.re 7 [0, 1, 2, 3, 4, 5, 6] rfl)⟩ rfl
set_option maxRecDepth 100000 in
set_option maxHeartbeats 4000000 in
theorem scrutinyref14_look_number_ok {Φ : Ctx} {w : World} {l : (List (Int × Str × Int × Int))} {at_ : Int} {Names : (List Str)} {Schema : (List (Int × Int))} {Init : (List Int)} {Procs : (List Str)} {Cmd : (List (Int × Ex × (List (Int × Ex))))} {bad : Int} {place : Int} {b : Nat} {v2 : SLV} {R : List Nat} {v4 : SLV} {R5 : List Nat} {v7 : SLV} {R8 : List Nat} {v10 : SLV} {R11 : List Nat} {v13 : SLV} {R14 : List Nat} {v16 : SLV} {R17 : List Nat} {r : (Int × Int × Int × Int)} (hs : Sat (box b 86 [(sl v2), (.int .i64 at_), (sl v4), (sl v7), (sl v10), (sl v13), (sl v16), (.int .i64 bad), (.int .i64 place)] :: osl (RP (RI .i64) (RP RS (RP (RI .i64) (RI .i64)))) 88 (sl v2) l R :: osl RS 9 (sl v4) Names R5 :: osl (RP (RI .i64) (RI .i64)) 72 (sl v7) Schema R8 :: osl (RI .i64) 3 (sl v10) Init R11 :: osl RS 9 (sl v13) Procs R14 :: osl (RP (RI .i64) (RP RExpr (RSl (RP (RI .i64) RExpr)))) 60 (sl v16) Cmd R17 :: Φ) w) (hm : scrutinyref14_look_number l at_ Names Schema Init Procs Cmd bad place = some r) :
  CallsR Tryd.prog 49 [(.pointer (some ⟨b, 0, none⟩))] w (fun v w' => v = (.int .i64 r.1) ∧ Sat (box b 86 [(sl v2), (.int .i64 r.2.1), (sl v4), (sl v7), (sl v10), (sl v13), (sl v16), (.int .i64 r.2.2.1), (.int .i64 r.2.2.2)] :: osl (RP (RI .i64) (RP RS (RP (RI .i64) (RI .i64)))) 88 (sl v2) l R :: osl RS 9 (sl v4) Names R5 :: osl (RP (RI .i64) (RI .i64)) 72 (sl v7) Schema R8 :: osl (RI .i64) 3 (sl v10) Init R11 :: osl RS 9 (sl v13) Procs R14 :: osl (RP (RI .i64) (RP RExpr (RSl (RP (RI .i64) RExpr)))) 60 (sl v16) Cmd R17 :: Φ) w') := by
 refine CallsX_enter Tryd.func49 rfl Tryd.ntmps49 rfl ?_
 unfold scrutinyref14_look_number at hm
 refine WC_seq <| WC_region ?_
 refine Wo (Run_assign Opd.c) rfl <| ?_
 refine WL_nil <| At_then <| WC_seq <| WC_region ?_
 refine Wo (Run_move (O rfl)) rfl <| ?_
 obtain ⟨r6, hr7, hm⟩ := bind_some' hm
 refine WL_call (f := 36) (first := []) (cap := []) (xs := [(.tmp 5), (.const (.int .i64 3)), (.const (.string ⟨#[45]⟩))]) (vs := [(.pointer (some ⟨b, 0, none⟩)), (.int .i64 3), (S [45])]) (args := [(.pointer (some ⟨b, 0, none⟩)), (.int .i64 3), (S [45])]) Tryd.call36 Opd.f (.cons (O rfl) (.cons Opd.c (.cons Opd.c .nil))) rfl rfl (scrutinyref14_look_is_ok (hs.re 7 [0, 1, 2, 3, 4, 5, 6] rfl) hr7) ?_
 rintro _ w8 ⟨rfl, hs⟩
 replace hs := Sat.n7 (Γ := Φ) hs rfl
 refine Wo (Run_assign (O rfl)) rfl <| ?_
 refine WL_nil <| At_then ?_
 refine WC_seq_cut (γ := Int) (fun c10 w9 => scrutinyref14_look_number_K1 l Names Schema Init Procs Cmd bad place r6 c10 = some r ∧ Sat (box b 86 [(sl v2), (.int .i64 c10), (sl v4), (sl v7), (sl v10), (sl v13), (sl v16), (.int .i64 bad), (.int .i64 place)] :: osl (RP (RI .i64) (RP RS (RP (RI .i64) (RI .i64)))) 88 (sl v2) l R :: osl RS 9 (sl v4) Names R5 :: osl (RP (RI .i64) (RI .i64)) 72 (sl v7) Schema R8 :: osl (RI .i64) 3 (sl v10) Init R11 :: osl RS 9 (sl v13) Procs R14 :: osl (RP (RI .i64) (RP RExpr (RSl (RP (RI .i64) RExpr)))) 60 (sl v16) Cmd R17 :: Φ) w9) (fun c10 => [(0, true, (.pointer (some ⟨b, 0, none⟩))), (3, true, (.bool r6))]) ?_ ?_
 ·
  rintro c10 w9 ⟨hm, hs⟩
  unfold scrutinyref14_look_number_K1 at hm
  refine WC_seq ?_
  refine WC_region_mixed [0, 1, 2, 4, 0, 16, 32, 64, 136, 256, 0, 2047] (.q 0 0 (.q 1 1 (.q 2 3 (.q 3 7 (.q 4 15 (.q 5 31 (.q 6 63 (.q 7 127 (.q 8 255 (.q 9 511 (.l 10 1023 (.l 11 2047 .nil)))))))))))) (by kernel_rfl) (by kernel_rfl) ?_
  intro w11 hx12
  replace hs := hs.ext hx12
  refine WD_pure (fun _ => (Run_move (O rfl))) rfl rfl rfl rfl <| WD_pure (fun _ => (Run_nilP (O rfl))) rfl rfl rfl rfl <| WD_pure (fun _ => (Run_fieldAddr fo86_0 (O rfl))) rfl rfl rfl rfl <| WD_op (fun w => CellsAt w ⟨b, 0, none⟩ [(sl v2)]) ((hs.box (i := 0) rfl).part 0 rfl) (fun _ hJ => (Run_load1 (v := (sl v2)) Tryd.underlying82 rfl (O rfl) (fun _ => hJ))) rfl rfl rfl rfl <| WD_pure (fun _ => (Run_move (O rfl))) rfl rfl rfl rfl <| WD_pure (fun _ => (Run_nilP (O rfl))) rfl rfl rfl rfl <| WD_pure (fun _ => (Run_fieldAddr fo86_1 (O rfl))) rfl rfl rfl rfl <| WD_op (fun w => CellsAt w ⟨b, 1, none⟩ [(.int .i64 c10)]) ((hs.box (i := 0) rfl).part 1 rfl) (fun _ hJ => (Run_load1 (v := (.int .i64 c10)) Tryd.underlying3 rfl (O rfl) (fun _ => hJ))) rfl rfl rfl rfl <| ?_
  obtain ⟨e13, he14, hm⟩ := bind_some' hm
  refine WD_pure (fun _ => (Run_idxAddr (p := (elA (sl v2) c10 4)) Tryd.underlying82 ti88 (O rfl) (O rfl) (fun hg => (Own.atA (A := (RP (RI .i64) (RP RS (RP (RI .i64) (RI .i64))))) (v := (sl v2)) (hs.own (i := 1) rfl) he14).1))) rfl rfl rfl rfl <| WD_op (fun w => true = true → CellsAt w (elA (sl v2) c10 4) [(.int .i64 e13.1), (S e13.2.1), (.int .i64 e13.2.2.1), (.int .i64 e13.2.2.2)]) (fun hg => (Own.cellsF (A := (RP (RI .i64) (RP RS (RP (RI .i64) (RI .i64))))) (v := (sl v2)) (hs.own (i := 1) rfl) he14 (fun _ h => openT88 h)).sub 0 rfl) (fun _ hJ => (Run_loadA (vs := [(.int .i64 e13.1), (S e13.2.1), (.int .i64 e13.2.2.1), (.int .i64 e13.2.2.2)]) Tryd.underlying88 rfl ti88 (O rfl) hJ rfl)) rfl rfl rfl rfl <| ?_
  refine WD_loud (pend' := [(9, fun w => true = true → CellsAt w (elA (sl v2) c10 4) [(.int .i64 e13.1), (S e13.2.1), (.int .i64 e13.2.2.1), (.int .i64 e13.2.2.2)]), (7, fun w => CellsAt w ⟨b, 1, none⟩ [(.int .i64 c10)]), (3, fun w => CellsAt w ⟨b, 0, none⟩ [(sl v2)])]) rfl (by kernel_rfl) ?_
  refine WS_alloc (zs := [(.int .i64 0), (S []), (.int .i64 0), (.int .i64 0)]) hs ti88 rfl rfl ?_
  intro b15 w16 hs
  replace hs := Sat.n8 (Γ := Φ) hs rfl
  refine WL_nil ?_
  refine At_QK (allJ_cons (fun hg => (Own.cellsF (A := (RP (RI .i64) (RP RS (RP (RI .i64) (RI .i64))))) (v := (sl v2)) (hs.own (i := 2) rfl) he14 (fun _ h => openT88 h)).sub 0 rfl) (allJ_cons ((hs.box (i := 1) rfl).part 1 rfl) (allJ_cons ((hs.box (i := 1) rfl).part 0 rfl) allJ_nil))) ?_
  refine WD_loud (pend' := []) rfl (by kernel_rfl) ?_
  refine WS_store (us := [(.int .i64 e13.1), (S e13.2.1), (.int .i64 e13.2.2.1), (.int .i64 e13.2.2.2)]) (vs' := [(.int .i64 e13.1), (S e13.2.1), (.int .i64 e13.2.2.1), (.int .i64 e13.2.2.2)]) hs 0 rfl ti88 (O rfl) (O rfl) rfl rfl rfl rfl rfl ?_
  intro w17 hs
  replace hs := Sat.n8 (Γ := Φ) hs rfl
  refine WL_nil ?_
  refine At_QK allJ_nil ?_
  refine WD_nil ?_
  refine At_then ?_
  refine WC_seq_cut (γ := Int × Int) (fun ⟨c19, c20⟩ w18 => scrutinyref14_look_number_K2 r6 c10 e13 c19 c20 = some r ∧ Sat (box b 86 [(sl v2), (.int .i64 c10), (sl v4), (sl v7), (sl v10), (sl v13), (sl v16), (.int .i64 c19), (.int .i64 c20)] :: osl (RP (RI .i64) (RP RS (RP (RI .i64) (RI .i64)))) 88 (sl v2) l R :: osl RS 9 (sl v4) Names R5 :: osl (RP (RI .i64) (RI .i64)) 72 (sl v7) Schema R8 :: osl (RI .i64) 3 (sl v10) Init R11 :: osl RS 9 (sl v13) Procs R14 :: osl (RP (RI .i64) (RP RExpr (RSl (RP (RI .i64) RExpr)))) 60 (sl v16) Cmd R17 :: box b15 88 [(.int .i64 e13.1), (S e13.2.1), (.int .i64 e13.2.2.1), (.int .i64 e13.2.2.2)] :: Φ) w18) (fun ⟨c19, c20⟩ => [(0, true, (.pointer (some ⟨b, 0, none⟩))), (3, true, (.bool r6)), (4, true, (.pointer (some ⟨b15, 0, none⟩)))]) ?_ ?_
  ·
   rintro ⟨c19, c20⟩ w18 ⟨hm, hs⟩
   unfold scrutinyref14_look_number_K2 at hm
   refine WC_seq <| WC_seq <| WC_region ?_
   refine Wo (Run_move (O rfl)) rfl <| Wo (Run_nilP (O rfl)) rfl <| Wo (Run_fieldAddr fo86_3 (O rfl)) rfl <| Wo (Run_load1 (v := (.int .i64 c19)) Tryd.underlying3 rfl (O rfl) (fun _ => (hs.box (i := 0) rfl).part 7 rfl)) rfl <| Wo (Run_neI (O rfl) Opd.c) rfl <| ?_
   refine WL_nil <| At_then ?_
   refine WC_cond (O rfl) (fun hc21 => ?_) (fun hc21 => ?_)
   ·
    replace hm := bif_t hc21 hm
    refine WC_seq <| WC_region ?_
    refine Wo (Run_assign Opd.c) rfl <| ?_
    refine WL_nil <| At_then ?_
    refine WC_ret ?_
    refine At_then_ret <| ?_
    refine At_r1 rfl (ResIs.t rfl) ?_
    cases hm
    exact ⟨rfl, (hs.re 8 [0, 1, 2, 3, 4, 5, 6] rfl)⟩
   ·
    replace hm := bif_f hc21 hm
    refine WC_skip ?_
    refine At_then <| WC_seq <| WC_region ?_
    refine Wo (Run_move (O rfl)) rfl <| Wo (Run_move (O rfl)) rfl <| Wo (Run_nilP (O rfl)) rfl <| Wo (Run_fieldAddr fo86_1 (O rfl)) rfl <| Wo (Run_load1 (v := (.int .i64 c10)) Tryd.underlying3 rfl (O rfl) (fun _ => (hs.box (i := 0) rfl).part 1 rfl)) rfl <| Wo (Run_add (O rfl) Opd.c) rfl <| Wo (Run_nilP (O rfl)) rfl <| Wo (Run_fieldAddr fo86_1 (O rfl)) rfl <| ?_
    refine WS_store (us := [(.int .i64 (IntKind.i64.wrap (c10 + 1)))]) (vs' := [(sl v2), (.int .i64 (IntKind.i64.wrap (c10 + 1))), (sl v4), (sl v7), (sl v10), (sl v13), (sl v16), (.int .i64 c19), (.int .i64 c20)]) hs 0 rfl ti3 (O rfl) (O rfl) rfl rfl rfl rfl rfl ?_
    intro w22 hs
    replace hs := Sat.n8 (Γ := Φ) hs rfl
    refine WL_nil <| At_then <| WC_seq <| WC_seq <| WC_region ?_
    refine Wo (Run_move (O rfl)) rfl <| ?_
    refine WL_nil <| At_then ?_
    refine WC_cond (O rfl) (fun hc23 => ?_) (fun hc23 => ?_)
    ·
     replace hm := bif_t hc23 hm
     refine WC_seq <| WC_region ?_
     refine Wo (Run_fieldAddr fo88_2 (O rfl)) rfl <| Wo (Run_load1 (v := (.int .i64 e13.2.2.1)) Tryd.underlying3 rfl (O rfl) (fun _ => (hs.box (i := 7) rfl).part 2 rfl)) rfl <| Wo (Run_neg (O rfl)) rfl <| Wo (Run_assign (O rfl)) rfl <| ?_
     refine WL_nil <| At_then ?_
     refine WC_ret ?_
     refine At_then_ret <| ?_
     refine At_r1 rfl (ResIs.t rfl) ?_
     cases hm
     exact ⟨rfl, (hs.re 8 [0, 1, 2, 3, 4, 5, 6] rfl)⟩
    ·
     replace hm := bif_f hc23 hm
     refine WC_skip ?_
     refine At_then <| WC_seq <| WC_region ?_
     refine Wo (Run_fieldAddr fo88_2 (O rfl)) rfl <| Wo (Run_load1 (v := (.int .i64 e13.2.2.1)) Tryd.underlying3 rfl (O rfl) (fun _ => (hs.box (i := 7) rfl).part 2 rfl)) rfl <| Wo (Run_assign (O rfl)) rfl <| ?_
     refine WL_nil <| At_then ?_
     refine WC_ret ?_
     refine At_r1 rfl (ResIs.t rfl) ?_
     cases hm
     exact ⟨rfl, (hs.re 8 [0, 1, 2, 3, 4, 5, 6] rfl)⟩
  ·
   refine WC_seq <| WC_region ?_
   refine Wo (Run_fieldAddr fo88_0 (O rfl)) rfl <| Wo (Run_load1 (v := (.int .i64 e13.1)) Tryd.underlying3 rfl (O rfl) (fun _ => (hs.box (i := 0) rfl).part 0 rfl)) rfl <| Wo (Run_neI (O rfl) Opd.c) rfl <| ?_
   refine WL_nil <| At_then ?_
   refine WC_cond (O rfl) (fun hc24 => ?_) (fun hc24 => ?_)
   ·
    replace hm := bif_t hc24 hm
    refine WC_region ?_
    refine Wo (Run_move (O rfl)) rfl <| Wo (Run_fieldAddr fo88_3 (O rfl)) rfl <| Wo (Run_load1 (v := (.int .i64 e13.2.2.2)) Tryd.underlying3 rfl (O rfl) (fun _ => (hs.box (i := 0) rfl).part 3 rfl)) rfl <| ?_
    obtain ⟨r25, hr26, hm⟩ := bind_some' hm
    refine WL_call (f := 37) (first := []) (cap := []) (xs := [(.tmp 29), (.const (.int .i64 2)), (.tmp 31)]) (vs := [(.pointer (some ⟨b, 0, none⟩)), (.int .i64 2), (.int .i64 e13.2.2.2)]) (args := [(.pointer (some ⟨b, 0, none⟩)), (.int .i64 2), (.int .i64 e13.2.2.2)]) Tryd.call37 Opd.f (.cons (O rfl) (.cons Opd.c (.cons (O rfl) .nil))) rfl rfl (scrutinyref14_look_fail_ok (hs.re 8 [1, 2, 3, 4, 5, 6, 7, 0] rfl) hr26) ?_
    rintro _ w27 ⟨rfl, hs⟩
    replace hs := Sat.n8 (Γ := Φ) hs rfl
    refine WL_nil ?_
    exact At_join (r25.1, r25.2) ⟨hm, (hs.re 8 [0, 1, 2, 3, 4, 5, 6, 7] rfl)⟩ rfl
   ·
    replace hm := bif_f hc24 hm
    refine WC_skip ?_
    exact At_join (bad, place) ⟨hm, (hs.re 8 [1, 2, 3, 4, 5, 6, 7, 0] rfl)⟩ rfl
 ·
  refine WC_seq <| WC_region ?_
  refine Wo (Run_move (O rfl)) rfl <| ?_
  refine WL_nil <| At_then ?_
  refine WC_cond (O rfl) (fun hc28 => ?_) (fun hc28 => ?_)
  ·
   replace hm := bif_t hc28 hm
   refine WC_region ?_
   refine Wo (Run_move (O rfl)) rfl <| Wo (Run_move (O rfl)) rfl <| Wo (Run_nilP (O rfl)) rfl <| Wo (Run_fieldAddr fo86_1 (O rfl)) rfl <| Wo (Run_load1 (v := (.int .i64 at_)) Tryd.underlying3 rfl (O rfl) (fun _ => (hs.box (i := 0) rfl).part 1 rfl)) rfl <| Wo (Run_add (O rfl) Opd.c) rfl <| Wo (Run_nilP (O rfl)) rfl <| Wo (Run_fieldAddr fo86_1 (O rfl)) rfl <| ?_
   refine WS_store (us := [(.int .i64 (IntKind.i64.wrap (at_ + 1)))]) (vs' := [(sl v2), (.int .i64 (IntKind.i64.wrap (at_ + 1))), (sl v4), (sl v7), (sl v10), (sl v13), (sl v16), (.int .i64 bad), (.int .i64 place)]) hs 0 rfl ti3 (O rfl) (O rfl) rfl rfl rfl rfl rfl ?_
   intro w29 hs
   replace hs := Sat.n7 (Γ := Φ) hs rfl
   refine WL_nil ?_
   exact At_join (IntKind.i64.wrap (at_ + 1)) ⟨hm, (hs.re 7 [0, 1, 2, 3, 4, 5, 6] rfl)⟩ rfl
  ·
   replace hm := bif_f hc28 hm
   refine WC_skip ?_
   exact At_join at_ ⟨hm, (hs.re 7 [0, 1, 2, 3, 4, 5, 6] rfl)⟩ rfl
end Go.Proofs.YtjdabjpjafkogaaDoor
namespace Go.Proofs.YtjdabjpjafkogaaDoor
open Go.Proofs
set_option maxRecDepth 100000 in
set_option maxHeartbeats 4000000 in
theorem scrutinyref02_Right_ok {Φ : Ctx} {w : World} {s : (List (Int × Int))} {v1 : SLV} {r : Bool} (hs : Sat (imm (RSl (RP (RI .i64) (RI .i64))) [sl v1] s :: Φ) w) (hm : scrutinyref02_Right s = some r) :
  CallsR Tryd.prog 50 [(sl v1)] w (fun v w' => v = (.bool r) ∧ Sat (Φ) w') := by
 refine CallsX_enter Tryd.func50 rfl Tryd.ntmps50 rfl ?_
 unfold scrutinyref02_Right at hm
 refine WC_seq <| WC_region ?_
 refine Wo (Run_assign Opd.c) rfl <| ?_
 refine WL_nil <| At_then <| WC_seq <| WC_seq <| WC_region ?_
 refine Wo (Run_move (O rfl)) rfl <| Wo (Run_lenSlG Tryd.underlying25 (O rfl) (fun hg => (hs.sl (i := 0) rfl).len)) rfl <| ?_
 obtain ⟨b3, e4, hm⟩ := letv_some hm
 refine Wo (Run.eqB (Run_ltI (O rfl) Opd.c) e4) rfl <| Wo (Run_move (O rfl)) rfl <| Wg rfl guard_neg (Run_move (O rfl)) rfl <| Wg rfl guard_neg (Run_lenSlG Tryd.underlying25 (Opd.g rfl id) (fun hg => (hs.sl (i := 0) rfl).len)) rfl <| ?_
 obtain ⟨b5, e6, hm⟩ := letv_some hm
 refine Wg rfl guard_neg (Run.eqB (Run_gtI (Opd.g rfl id) Opd.c) e6) rfl <| ?_
 obtain ⟨b7, e8, hm⟩ := letv_some hm
 refine Wo (Run.eqB (Run_or (O rfl) (Opd.g rfl id)) e8) rfl <| ?_
 refine WL_nil <| At_then ?_
 refine WC_cond (O rfl) (fun hc9 => ?_) (fun hc9 => ?_)
 ·
  replace hm := bif_t hc9 hm
  refine WC_seq <| WC_region ?_
  refine Wo (Run_assign Opd.c) rfl <| ?_
  refine WL_nil <| At_then ?_
  refine WC_ret ?_
  refine At_then_ret <| ?_
  refine At_r1 rfl (ResIs.t rfl) ?_
  cases hm
  exact ⟨rfl, (hs.re 1 [] rfl)⟩
 ·
  replace hm := bif_f hc9 hm
  refine WC_skip ?_
  refine At_then <| WC_seq <| WC_seq <| WC_region ?_
  refine Wo (Run_assign Opd.c) rfl <| ?_
  refine WL_nil <| At_then ?_
  refine WC_block ?_
  refine WC_loop (σ := Int) (γ := Unit) (F := (scrutinyref02_Right_L1 s)) (N := FUEL) (s0 := 0) (r := r) (fun i11 (_ : Unit) w10 => Sat (imm (RSl (RP (RI .i64) (RI .i64))) [sl v1] s :: Φ) w10) (fun i11 (_ : Unit) => [(0, true, (sl v1)), (3, true, (.int .i64 i11))]) hm () (hs.re 1 [0] rfl) rfl ?_
  rintro again12 i11 _ w10 hm hs
  unfold scrutinyref02_Right_L1 at hm
  refine WC_seq <| WC_seq <| WC_region ?_
  refine Wo (Run_move (O rfl)) rfl <| Wo (Run_move (O rfl)) rfl <| Wo (Run_lenSlG Tryd.underlying25 (O rfl) (fun hg => (hs.sl (i := 0) rfl).len)) rfl <| Wo (Run_ltI (O rfl) (O rfl)) rfl <| ?_
  refine WL_nil <| At_then ?_
  refine WC_cond (O rfl) (fun hc13 => ?_) (fun hc13 => ?_)
  ·
   replace hm := bif_t hc13 hm
   refine WC_skip ?_
   refine At_then <| WC_seq ?_
   refine WC_block ?_
   refine WC_seq ?_
   refine WC_region_mixed [0, 0, 3, 4, 8, 0, 0, 96, 128, 256, 528, 1024, 2048, 2048, 14336, 18432, 34816, 67584, 133120, 264192, 524288, 524288, 3670016, 4718592, 8912896, 17301504, 34078720, 67633152, 134217728, 134217728, 939524096, 1207959552, 2281701376, 134217728, 134217728, 25904021504, 34493956096, 68853694464, 141868138496, 275012124672, 549890031616] (.q 0 0 (.q 1 1 (.q 2 3 (.q 3 7 (.q 4 15 (.q 5 31 (.q 6 63 (.q 7 127 (.q 8 255 (.q 9 511 (.q 10 1023 (.q 11 2047 (.q 12 4095 (.q 13 8191 (.q 14 16383 (.q 15 32767 (.q 16 65535 (.q 17 131071 (.q 18 262143 (.q 19 524287 (.q 20 1048575 (.q 21 2097151 (.q 22 4194303 (.q 23 8388607 (.q 24 16777215 (.q 25 33554431 (.q 26 67108863 (.q 27 134217727 (.q 28 268435455 (.q 29 536870911 (.q 30 1073741823 (.q 31 2147483647 (.q 32 4294967295 (.q 33 8589934591 (.q 34 17179869183 (.q 35 34359738367 (.q 36 68719476735 (.q 37 137438953471 (.q 38 274877906943 (.q 39 549755813887 (.q 40 1099511627775 .nil))))))))))))))))))))))))))))))))))))))))) (by kernel_rfl) (by kernel_rfl) ?_
   intro w14 hx15
   replace hs := hs.ext hx15
   refine WD_pure (fun _ => (Run_move (O rfl))) rfl rfl rfl rfl <| WD_pure (fun _ => (Run_move (O rfl))) rfl rfl rfl rfl <| ?_
   obtain ⟨e16, he17, hm⟩ := bind_some' hm
   refine WD_pure (fun _ => (Run_idxAddr (p := (elA (sl v1) i11 2)) Tryd.underlying25 ti72 (O rfl) (O rfl) (fun hg => (SRd.atA (A := (RP (RI .i64) (RI .i64))) (v := (sl v1)) (hs.sl (i := 0) rfl) he17).1))) rfl rfl rfl rfl <| WD_pure (fun _ => (Run_fieldAddr fo72_0 (O rfl))) rfl rfl rfl rfl <| WD_op (fun w => true = true → CellsAt w ((elA (sl v1) i11 2).add 0) [(.int .i64 e16.1)]) (fun hg => ((SRd.cellsF (A := (RP (RI .i64) (RI .i64))) (v := (sl v1)) (hs.sl (i := 0) rfl) he17 (fun _ h => openT72 h)).sub (us := [(.int .i64 e16.1)]) 0 rfl).sub 0 rfl) (fun _ hJ => (Run_load1 (v := (.int .i64 e16.1)) Tryd.underlying3 rfl (O rfl) hJ)) rfl rfl rfl rfl <| WD_pure (fun _ => (Run_move (O rfl))) rfl rfl rfl rfl <| WD_pure (fun _ => (Run_move (O rfl))) rfl rfl rfl rfl <| ?_
   obtain ⟨e18, he19, hm⟩ := bind_some' hm
   refine WD_pure (fun _ => (Run_idxAddr (p := (elA (sl v1) i11 2)) Tryd.underlying25 ti72 (O rfl) (O rfl) (fun hg => (SRd.atA (A := (RP (RI .i64) (RI .i64))) (v := (sl v1)) (hs.sl (i := 0) rfl) he19).1))) rfl rfl rfl rfl <| WD_pure (fun _ => (Run_fieldAddr fo72_1 (O rfl))) rfl rfl rfl rfl <| WD_op (fun w => true = true → CellsAt w ((elA (sl v1) i11 2).add 1) [(.int .i64 e18.2)]) (fun hg => ((SRd.cellsF (A := (RP (RI .i64) (RI .i64))) (v := (sl v1)) (hs.sl (i := 0) rfl) he19 (fun _ h => openT72 h)).sub (us := [(.int .i64 e18.2)]) 1 rfl).sub 0 rfl) (fun _ hJ => (Run_load1 (v := (.int .i64 e18.2)) Tryd.underlying3 rfl (O rfl) hJ)) rfl rfl rfl rfl <| ?_
   obtain ⟨b20, e21, hm⟩ := letv_some hm
   refine WD_pure (fun _ => (Run.eqB (Run_gtI (O rfl) (O rfl)) e21)) rfl rfl rfl rfl <| WD_pure (fun _ => (Run_move (O rfl))) rfl rfl rfl rfl <| WD_pureG rfl rfl rfl rfl guard_neg (fun _ => (Run_move (O rfl))) rfl rfl rfl <| WD_pureG rfl rfl rfl rfl guard_neg (fun _ => (Run_move (O rfl))) rfl rfl rfl <| ?_
   obtain ⟨e22, he23, -, hm⟩ := callG_some hm
   refine WD_pureG rfl rfl rfl rfl guard_neg (fun _ => (Run_idxAddr (p := (elA (sl v1) i11 2)) Tryd.underlying25 ti72 (Opd.g rfl id) (Opd.g rfl id) (fun hg => (SRd.atA (A := (RP (RI .i64) (RI .i64))) (v := (sl v1)) (hs.sl (i := 0) rfl) (he23 hg)).1))) rfl rfl rfl <| WD_pureG rfl rfl rfl rfl guard_neg (fun _ => (Run_fieldAddr fo72_0 (Opd.g rfl id))) rfl rfl rfl <| WD_opG (fun w => (!b20) = true → CellsAt w ((elA (sl v1) i11 2).add 0) [(.int .i64 e22.1)]) (fun hg => ((SRd.cellsF (A := (RP (RI .i64) (RI .i64))) (v := (sl v1)) (hs.sl (i := 0) rfl) (he23 hg) (fun _ h => openT72 h)).sub (us := [(.int .i64 e22.1)]) 0 rfl).sub 0 rfl) rfl rfl rfl rfl guard_neg (fun _ hJ => (Run_load1 (v := (.int .i64 e22.1)) Tryd.underlying3 rfl (Opd.g rfl id) hJ)) rfl rfl rfl <| ?_
   obtain ⟨b24, e25, hm⟩ := letv_some hm
   refine WD_pureG rfl rfl rfl rfl guard_neg (fun _ => (Run.eqB (Run_ltI (Opd.g rfl id) Opd.c) e25)) rfl rfl rfl <| ?_
   obtain ⟨b26, e27, hm⟩ := letv_some hm
   refine WD_pure (fun _ => (Run.eqB (Run_or (O rfl) (Opd.g rfl id)) e27)) rfl rfl rfl rfl <| WD_pure (fun _ => (Run_move (O rfl))) rfl rfl rfl rfl <| WD_pureG rfl rfl rfl rfl guard_neg (fun _ => (Run_move (O rfl))) rfl rfl rfl <| WD_pureG rfl rfl rfl rfl guard_neg (fun _ => (Run_move (O rfl))) rfl rfl rfl <| ?_
   obtain ⟨e28, he29, -, hm⟩ := callG_some hm
   refine WD_pureG rfl rfl rfl rfl guard_neg (fun _ => (Run_idxAddr (p := (elA (sl v1) i11 2)) Tryd.underlying25 ti72 (Opd.g rfl id) (Opd.g rfl id) (fun hg => (SRd.atA (A := (RP (RI .i64) (RI .i64))) (v := (sl v1)) (hs.sl (i := 0) rfl) (he29 hg)).1))) rfl rfl rfl <| WD_pureG rfl rfl rfl rfl guard_neg (fun _ => (Run_fieldAddr fo72_1 (Opd.g rfl id))) rfl rfl rfl <| WD_opG (fun w => (!b26) = true → CellsAt w ((elA (sl v1) i11 2).add 1) [(.int .i64 e28.2)]) (fun hg => ((SRd.cellsF (A := (RP (RI .i64) (RI .i64))) (v := (sl v1)) (hs.sl (i := 0) rfl) (he29 hg) (fun _ h => openT72 h)).sub (us := [(.int .i64 e28.2)]) 1 rfl).sub 0 rfl) rfl rfl rfl rfl guard_neg (fun _ hJ => (Run_load1 (v := (.int .i64 e28.2)) Tryd.underlying3 rfl (Opd.g rfl id) hJ)) rfl rfl rfl <| ?_
   obtain ⟨b30, e31, hm⟩ := letv_some hm
   refine WD_pureG rfl rfl rfl rfl guard_neg (fun _ => (Run.eqB (Run_gtI (Opd.g rfl id) Opd.c) e31)) rfl rfl rfl <| ?_
   obtain ⟨b32, e33, hm⟩ := letv_some hm
   refine WD_pure (fun _ => (Run.eqB (Run_or (O rfl) (Opd.g rfl id)) e33)) rfl rfl rfl rfl <| WD_pure (fun _ => (Run_move (O rfl))) rfl rfl rfl rfl <| WD_pureG rfl rfl rfl rfl guard_neg (fun _ => (Run_move (O rfl))) rfl rfl rfl <| WD_pureG rfl rfl rfl rfl guard_neg (fun _ => (Run_move (O rfl))) rfl rfl rfl <| ?_
   obtain ⟨e34, he35, -, hm⟩ := callG_some hm
   refine WD_pureG rfl rfl rfl rfl guard_neg (fun _ => (Run_idxAddr (p := (elA (sl v1) i11 2)) Tryd.underlying25 ti72 (Opd.g rfl id) (Opd.g rfl id) (fun hg => (SRd.atA (A := (RP (RI .i64) (RI .i64))) (v := (sl v1)) (hs.sl (i := 0) rfl) (he35 hg)).1))) rfl rfl rfl <| WD_pureG rfl rfl rfl rfl guard_neg (fun _ => (Run_fieldAddr fo72_1 (Opd.g rfl id))) rfl rfl rfl <| WD_opG (fun w => (!b32) = true → CellsAt w ((elA (sl v1) i11 2).add 1) [(.int .i64 e34.2)]) (fun hg => ((SRd.cellsF (A := (RP (RI .i64) (RI .i64))) (v := (sl v1)) (hs.sl (i := 0) rfl) (he35 hg) (fun _ h => openT72 h)).sub (us := [(.int .i64 e34.2)]) 1 rfl).sub 0 rfl) rfl rfl rfl rfl guard_neg (fun _ hJ => (Run_load1 (v := (.int .i64 e34.2)) Tryd.underlying3 rfl (Opd.g rfl id) hJ)) rfl rfl rfl <| WD_pureG rfl rfl rfl rfl guard_neg (fun _ => (Run_move (O rfl))) rfl rfl rfl <| WD_pureG rfl rfl rfl rfl guard_neg (fun _ => (Run_move (O rfl))) rfl rfl rfl <| ?_
   obtain ⟨e36, he37, -, hm⟩ := callG_some hm
   refine WD_pureG rfl rfl rfl rfl guard_neg (fun _ => (Run_idxAddr (p := (elA (sl v1) i11 2)) Tryd.underlying25 ti72 (Opd.g rfl id) (Opd.g rfl id) (fun hg => (SRd.atA (A := (RP (RI .i64) (RI .i64))) (v := (sl v1)) (hs.sl (i := 0) rfl) (he37 hg)).1))) rfl rfl rfl <| WD_pureG rfl rfl rfl rfl guard_neg (fun _ => (Run_fieldAddr fo72_0 (Opd.g rfl id))) rfl rfl rfl <| WD_opG (fun w => (!b32) = true → CellsAt w ((elA (sl v1) i11 2).add 0) [(.int .i64 e36.1)]) (fun hg => ((SRd.cellsF (A := (RP (RI .i64) (RI .i64))) (v := (sl v1)) (hs.sl (i := 0) rfl) (he37 hg) (fun _ h => openT72 h)).sub (us := [(.int .i64 e36.1)]) 0 rfl).sub 0 rfl) rfl rfl rfl rfl guard_neg (fun _ hJ => (Run_load1 (v := (.int .i64 e36.1)) Tryd.underlying3 rfl (Opd.g rfl id) hJ)) rfl rfl rfl <| WD_pureG rfl rfl rfl rfl guard_neg (fun _ => (Run_sub (Opd.g rfl id) (Opd.g rfl id))) rfl rfl rfl <| ?_
   obtain ⟨b38, e39, hm⟩ := letv_some hm
   refine WD_pureG rfl rfl rfl rfl guard_neg (fun _ => (Run.eqB (Run_gtI (Opd.g rfl id) Opd.c) e39)) rfl rfl rfl <| ?_
   obtain ⟨b40, e41, hm⟩ := letv_some hm
   refine WD_pure (fun _ => (Run.eqB (Run_or (O rfl) (Opd.g rfl id)) e41)) rfl rfl rfl rfl <| ?_
   refine WD_nil ?_
   refine At_then ?_
   refine WC_cond (O rfl) (fun hc42 => ?_) (fun hc42 => ?_)
   ·
    replace hm := bif_t hc42 hm
    refine WC_seq <| WC_region ?_
    refine Wo (Run_assign Opd.c) rfl <| ?_
    refine WL_nil <| At_then ?_
    refine WC_ret ?_
    refine At_blk_ret <| At_then_ret <| At_then_ret <| At_blk_ret <| At_then_ret <| ?_
    refine At_r1 rfl (ResIs.t rfl) ?_
    cases hm
    exact ⟨rfl, (hs.re 1 [] rfl)⟩
   ·
    replace hm := bif_f hc42 hm
    refine WC_skip ?_
    refine At_blk_normal ?_
    refine At_then <| WC_region ?_
    refine Wo (Run_move (O rfl)) rfl <| Wo (Run_add (O rfl) Opd.c) rfl <| Wo (Run_assign (O rfl)) rfl <| ?_
    refine WL_nil ?_
    exact At_again (IntKind.i64.wrap (i11 + 1)) () hm (hs.re 1 [0] rfl) rfl
  ·
   replace hm := bif_f hc13 hm
   refine WC_exit ?_
   refine At_then_exit <| At_then_exit <| At_blk_here <| ?_
   refine At_then <| WC_seq <| WC_region ?_
   refine Wo (Run_assign Opd.c) rfl <| ?_
   refine WL_nil <| At_then ?_
   refine WC_ret ?_
   refine At_r1 rfl (ResIs.t rfl) ?_
   cases hm
   exact ⟨rfl, (hs.re 1 [] rfl)⟩
set_option maxRecDepth 100000 in
set_option maxHeartbeats 4000000 in
theorem scrutinyref14_look_variable_ok {Φ : Ctx} {w : World} {l : (List (Int × Str × Int × Int))} {at_ : Int} {Names : (List Str)} {Schema : (List (Int × Int))} {Init : (List Int)} {Procs : (List Str)} {Cmd : (List (Int × Ex × (List (Int × Ex))))} {bad : Int} {place : Int} {b : Nat} {v2 : SLV} {R : List Nat} {v4 : SLV} {R5 : List Nat} {v7 : SLV} {R8 : List Nat} {v10 : SLV} {R11 : List Nat} {v13 : SLV} {R14 : List Nat} {v16 : SLV} {R17 : List Nat} {r : (Int × (List Str) × (List (Int × Int)) × (List Int) × Int × Int)} (hs : Sat (box b 86 [(sl v2), (.int .i64 at_), (sl v4), (sl v7), (sl v10), (sl v13), (sl v16), (.int .i64 bad), (.int .i64 place)] :: osl (RP (RI .i64) (RP RS (RP (RI .i64) (RI .i64)))) 88 (sl v2) l R :: osl RS 9 (sl v4) Names R5 :: osl (RP (RI .i64) (RI .i64)) 72 (sl v7) Schema R8 :: osl (RI .i64) 3 (sl v10) Init R11 :: osl RS 9 (sl v13) Procs R14 :: osl (RP (RI .i64) (RP RExpr (RSl (RP (RI .i64) RExpr)))) 60 (sl v16) Cmd R17 :: Φ) w) (hm : scrutinyref14_look_variable l at_ Names Schema Init Procs Cmd bad place = some r) :
  CallsR Tryd.prog 39 [(.pointer (some ⟨b, 0, none⟩))] w (fun v w' => ∃ v5 : SLV, ∃ R6 : List Nat, ∃ v8 : SLV, ∃ R9 : List Nat, ∃ v11 : SLV, ∃ R12 : List Nat, v = (.tuple #[]) ∧ Sat (box b 86 [(sl v2), (.int .i64 r.1), (sl v5), (sl v8), (sl v11), (sl v13), (sl v16), (.int .i64 r.2.2.2.2.1), (.int .i64 r.2.2.2.2.2)] :: osl (RP (RI .i64) (RP RS (RP (RI .i64) (RI .i64)))) 88 (sl v2) l R :: osl RS 9 (sl v5) r.2.1 R6 :: osl (RP (RI .i64) (RI .i64)) 72 (sl v8) r.2.2.1 R9 :: osl (RI .i64) 3 (sl v11) r.2.2.2.1 R12 :: osl RS 9 (sl v13) Procs R14 :: osl (RP (RI .i64) (RP RExpr (RSl (RP (RI .i64) RExpr)))) 60 (sl v16) Cmd R17 :: Φ) w') := by
 refine CallsX_enter Tryd.func39 rfl Tryd.ntmps39 rfl ?_
 unfold scrutinyref14_look_variable at hm
 refine WC_seq <| WC_region ?_
 refine Wo (Run_move (O rfl)) rfl <| Wo (Run_move (O rfl)) rfl <| Wo (Run_nilP (O rfl)) rfl <| Wo (Run_fieldAddr fo86_2 (O rfl)) rfl <| Wo (Run_fieldAddr fo28_0 (O rfl)) rfl <| Wo (Run_load1 (v := (sl v4)) Tryd.underlying24 rfl (O rfl) (fun _ => (hs.box (i := 0) rfl).part 2 rfl)) rfl <| Wo (Run_lenSlG Tryd.underlying24 (O rfl) (fun _ => (hs.own (i := 2) rfl).len)) rfl <| Wo (Run_geI (O rfl) Opd.c) rfl <| ?_
 obtain ⟨r15, hr16, hm⟩ := bind_some' hm
 refine WL_call (f := 40) (first := []) (cap := []) (xs := [(.tmp 9), (.tmp 16)]) (vs := [(.pointer (some ⟨b, 0, none⟩)), (.bool (decide (16 ≤ (List.length Names : Int))))]) (args := [(.pointer (some ⟨b, 0, none⟩)), (.bool (decide (16 ≤ (List.length Names : Int))))]) Tryd.call40 Opd.f (.cons (O rfl) (.cons (O rfl) .nil)) rfl rfl (scrutinyref14_look_name_ok (hs.re 7 [0, 1, 2, 3, 4, 5, 6] rfl) hr16) ?_
 rintro _ w17 ⟨rfl, hs⟩
 replace hs := Sat.n7 (Γ := Φ) hs rfl
 refine Wo (Run_assign (O rfl)) rfl <| ?_
 refine WL_nil <| At_then <| WC_seq <| WC_region ?_
 refine Wo (Run_move (O rfl)) rfl <| ?_
 obtain ⟨r18, hr19, hm⟩ := bind_some' hm
 refine WL_call (f := 38) (first := []) (cap := []) (xs := [(.tmp 18)]) (vs := [(.pointer (some ⟨b, 0, none⟩))]) (args := [(.pointer (some ⟨b, 0, none⟩))]) Tryd.call38 Opd.f (.cons (O rfl) .nil) rfl rfl (scrutinyref14_look_here_ok (hs.re 7 [0, 1, 2, 3, 4, 5, 6] rfl) hr19) ?_
 rintro _ w20 ⟨rfl, hs⟩
 replace hs := Sat.n7 (Γ := Φ) hs rfl
 refine Wo (Run_assign (O rfl)) rfl <| ?_
 refine WL_nil <| At_then <| WC_seq <| WC_region ?_
 refine Wo (Run_move (O rfl)) rfl <| ?_
 obtain ⟨r21, hr22, hm⟩ := bind_some' hm
 refine WL_call (f := 49) (first := []) (cap := []) (xs := [(.tmp 20)]) (vs := [(.pointer (some ⟨b, 0, none⟩))]) (args := [(.pointer (some ⟨b, 0, none⟩))]) Tryd.call49 Opd.f (.cons (O rfl) .nil) rfl rfl (scrutinyref14_look_number_ok (hs.re 7 [0, 1, 2, 3, 4, 5, 6] rfl) hr22) ?_
 rintro _ w23 ⟨rfl, hs⟩
 replace hs := Sat.n7 (Γ := Φ) hs rfl
 refine Wo (Run_assign (O rfl)) rfl <| ?_
 refine WL_nil <| At_then <| WC_seq <| WC_region ?_
 refine Wo (Run_move (O rfl)) rfl <| ?_
 obtain ⟨r24, hr25, hm⟩ := bind_some' hm
 refine WL_call (f := 49) (first := []) (cap := []) (xs := [(.tmp 22)]) (vs := [(.pointer (some ⟨b, 0, none⟩))]) (args := [(.pointer (some ⟨b, 0, none⟩))]) Tryd.call49 Opd.f (.cons (O rfl) .nil) rfl rfl (scrutinyref14_look_number_ok (hs.re 7 [0, 1, 2, 3, 4, 5, 6] rfl) hr25) ?_
 rintro _ w26 ⟨rfl, hs⟩
 replace hs := Sat.n7 (Γ := Φ) hs rfl
 refine Wo (Run_assign (O rfl)) rfl <| ?_
 refine WL_nil <| At_then <| WC_seq <| WC_region ?_
 refine Wo (Run_move (O rfl)) rfl <| ?_
 obtain ⟨r27, hr28, hm⟩ := bind_some' hm
 refine WL_call (f := 49) (first := []) (cap := []) (xs := [(.tmp 24)]) (vs := [(.pointer (some ⟨b, 0, none⟩))]) (args := [(.pointer (some ⟨b, 0, none⟩))]) Tryd.call49 Opd.f (.cons (O rfl) .nil) rfl rfl (scrutinyref14_look_number_ok (hs.re 7 [0, 1, 2, 3, 4, 5, 6] rfl) hr28) ?_
 rintro _ w29 ⟨rfl, hs⟩
 replace hs := Sat.n7 (Γ := Φ) hs rfl
 refine Wo (Run_assign (O rfl)) rfl <| ?_
 refine WL_nil <| At_then <| WC_seq <| WC_region ?_
 refine Wo (Run_move (O rfl)) rfl <| ?_
 obtain ⟨r30, hr31, hm⟩ := bind_some' hm
 refine WL_call (f := 41) (first := []) (cap := []) (xs := [(.tmp 26), (.const (.string ⟨#[59]⟩))]) (vs := [(.pointer (some ⟨b, 0, none⟩)), (S [59])]) (args := [(.pointer (some ⟨b, 0, none⟩)), (S [59])]) Tryd.call41 Opd.f (.cons (O rfl) (.cons Opd.c .nil)) rfl rfl (scrutinyref14_look_sign_ok (hs.re 7 [0, 1, 2, 3, 4, 5, 6] rfl) hr31) ?_
 rintro _ w32 ⟨rfl, hs⟩
 replace hs := Sat.n7 (Γ := Φ) hs rfl
 refine WL_nil <| At_then <| WC_seq <| WC_region ?_
 refine Wo (Run_move (O rfl)) rfl <| Wo (Run_move (O rfl)) rfl <| Wo (Run_build (parts := [(0, (.tmp 28)), (1, (.tmp 29))]) (v := (.agg #[(.int .i64 r21.1), (.int .i64 r24.1)])) (.cons (O rfl) (.cons (O rfl) .nil)) (fun _ => by kernel_rfl)) rfl <| ?_
 refine WS_alloc (zs := [(.int .i64 0), (.int .i64 0)]) hs ti72 rfl rfl ?_
 intro b33 w34 hs
 replace hs := Sat.n8 (Γ := Φ) hs rfl
 refine WS_store (us := [(.int .i64 r21.1), (.int .i64 r24.1)]) (vs' := [(.int .i64 r21.1), (.int .i64 r24.1)]) hs 0 rfl ti72 (O rfl) (O rfl) rfl rfl rfl rfl rfl ?_
 intro w35 hs
 replace hs := Sat.n8 (Γ := Φ) hs rfl
 refine WL_nil <| At_then <| WC_seq <| WC_region ?_
 refine Wo (Run_loadA (vs := [(.int .i64 r21.1), (.int .i64 r24.1)]) Tryd.underlying72 rfl ti72 (O rfl) (fun _ => (hs.box (i := 0) rfl).part 0 rfl) rfl) rfl <| ?_
 refine WS_lit (A := (RP (RI .i64) (RI .i64))) (xs := [(r21.1, r24.1)]) (zs := [(.int .i64 0), (.int .i64 0)]) (cells := [(.int .i64 r21.1), (.int .i64 r24.1)]) (parts := [(0, (.tmp 31))]) hs Tryd.underlying25 ti72 rfl rfl rfl (.cons (O rfl) .nil) (by kernel_rfl) rfl (ARd.cons (A := (RP (RI .i64) (RI .i64))) (c := [(.int .i64 r21.1), (.int .i64 r24.1)]) (x := (r21.1, r24.1)) ⟨_, _, rfl, rfl, rfl⟩ ARd.nil) rfl ?_
 intro b36 w37 hs
 replace hs := Sat.n9 (Γ := Φ) hs rfl
 replace hs := hs.freeze (i := 0) rfl
 obtain ⟨r38, hr39, hm⟩ := bind_some' hm
 refine WL_call (f := 50) (first := []) (cap := []) (xs := [(.tmp 32)]) (vs := [(sl (some ⟨b36, 0, none⟩, 1, 1))]) (args := [(sl (some ⟨b36, 0, none⟩, 1, 1))]) Tryd.call50 Opd.f (.cons (O rfl) .nil) rfl rfl (scrutinyref02_Right_ok (s := ([(r21.1, r24.1)] : List (Int × Int))) (hs.re 9 [0, 0, 1, 2, 3, 4, 5, 6, 7, 8] rfl) hr39) ?_
 rintro _ w40 ⟨rfl, hs⟩
 replace hs := Sat.n9 (Γ := Φ) hs rfl
 refine Wo (Run_assign (O rfl)) rfl <| ?_
 refine WL_nil <| At_then ?_
 refine WC_seq_cut (γ := Int × Int) (fun ⟨c42, c43⟩ w41 => scrutinyref14_look_variable_K1 Names Schema Init r15 r21 r24 r27 r30 c42 c43 = some r ∧ Sat (box b 86 [(sl v2), (.int .i64 r30.1), (sl v4), (sl v7), (sl v10), (sl v13), (sl v16), (.int .i64 c42), (.int .i64 c43)] :: osl (RP (RI .i64) (RP RS (RP (RI .i64) (RI .i64)))) 88 (sl v2) l R :: osl RS 9 (sl v4) Names R5 :: osl (RP (RI .i64) (RI .i64)) 72 (sl v7) Schema R8 :: osl (RI .i64) 3 (sl v10) Init R11 :: osl RS 9 (sl v13) Procs R14 :: osl (RP (RI .i64) (RP RExpr (RSl (RP (RI .i64) RExpr)))) 60 (sl v16) Cmd R17 :: box b33 72 [(.int .i64 r21.1), (.int .i64 r24.1)] :: Φ) w41) (fun ⟨c42, c43⟩ => [(0, true, (.pointer (some ⟨b, 0, none⟩))), (2, true, (S r15.1)), (6, true, (.int .i64 r27.1)), (7, true, (.pointer (some ⟨b33, 0, none⟩)))]) ?_ ?_
 ·
  rintro ⟨c42, c43⟩ w41 ⟨hm, hs⟩
  unfold scrutinyref14_look_variable_K1 at hm
  refine WC_seq <| WC_region ?_
  refine Wo (Run_move (O rfl)) rfl <| Wo (Run_move (O rfl)) rfl <| Wo (Run_nilP (O rfl)) rfl <| Wo (Run_fieldAddr fo86_2 (O rfl)) rfl <| Wo (Run_fieldAddr fo28_0 (O rfl)) rfl <| Wo (Run_load1 (v := (sl v4)) Tryd.underlying24 rfl (O rfl) (fun _ => (hs.box (i := 0) rfl).part 2 rfl)) rfl <| Wo (Run_move (O rfl)) rfl <| ?_
  refine WS_lit (A := RS) (xs := [r15.1]) (zs := [(S [])]) (cells := [(S r15.1)]) (parts := [(0, (.tmp 55))]) hs Tryd.underlying24 ti9 rfl rfl rfl (.cons (O rfl) .nil) (by kernel_rfl) rfl (ARd.cons (A := RS) (c := [(S r15.1)]) (x := r15.1) rfl ARd.nil) rfl ?_
  intro b44 w45 hs
  replace hs := Sat.n9 (Γ := Φ) hs rfl
  replace hs := hs.freeze (i := 0) rfl
  obtain ⟨k46, hm⟩ := chk_some hm
  refine WS_append (A := RS) hs 3 rfl Tryd.underlying24 ti9 rfl rfl (O rfl) (O rfl) (hs.sl (i := 0) rfl) k46 rfl ?_
  intro v47 R48 w49 hs
  replace hs := Sat.n9 (Γ := Φ) hs rfl
  refine Wo (Run_nilP (O rfl)) rfl <| Wo (Run_fieldAddr fo86_2 (O rfl)) rfl <| Wo (Run_fieldAddr fo28_0 (O rfl)) rfl <| ?_
  refine WS_store (us := [(sl v47)]) (vs' := [(sl v2), (.int .i64 r30.1), (sl v47), (sl v7), (sl v10), (sl v13), (sl v16), (.int .i64 c42), (.int .i64 c43)]) hs 1 rfl ti24 (O rfl) (O rfl) rfl rfl rfl rfl rfl ?_
  intro w50 hs
  replace hs := Sat.n9 (Γ := Φ) hs rfl
  refine WL_nil <| At_then <| WC_seq ?_
  refine WC_region_mixed [0, 0, 2, 4, 8, 16, 0, 64, 160, 511, 1023, 1535, 2559] (.q 0 0 (.q 1 1 (.q 2 3 (.q 3 7 (.q 4 15 (.q 5 31 (.q 6 63 (.l 7 127 (.l 8 255 (.q 9 511 (.q 10 1023 (.q 11 2047 (.l 12 4095 .nil))))))))))))) (by kernel_rfl) (by kernel_rfl) ?_
  intro w51 hx52
  replace hs := hs.ext hx52
  refine WD_pure (fun _ => (Run_move (O rfl))) rfl rfl rfl rfl <| WD_pure (fun _ => (Run_move (O rfl))) rfl rfl rfl rfl <| WD_pure (fun _ => (Run_nilP (O rfl))) rfl rfl rfl rfl <| WD_pure (fun _ => (Run_fieldAddr fo86_2 (O rfl))) rfl rfl rfl rfl <| WD_pure (fun _ => (Run_fieldAddr fo28_1 (O rfl))) rfl rfl rfl rfl <| WD_op (fun w => CellsAt w ⟨b, 3, none⟩ [(sl v7)]) ((hs.box (i := 1) rfl).part 3 rfl) (fun _ hJ => (Run_load1 (v := (sl v7)) Tryd.underlying25 rfl (O rfl) (fun _ => hJ))) rfl rfl rfl rfl <| WD_op (fun w => CellsAt w ⟨b33, 0, none⟩ [(.int .i64 r21.1), (.int .i64 r24.1)]) ((hs.box (i := 8) rfl).part 0 rfl) (fun _ hJ => (Run_loadA (vs := [(.int .i64 r21.1), (.int .i64 r24.1)]) Tryd.underlying72 rfl ti72 (O rfl) (fun _ => hJ) rfl)) rfl rfl rfl rfl <| ?_
  refine WD_loud (pend' := [(5, fun w => CellsAt w ⟨b, 3, none⟩ [(sl v7)])]) rfl (by kernel_rfl) ?_
  refine WS_lit (A := (RP (RI .i64) (RI .i64))) (xs := [(r21.1, r24.1)]) (zs := [(.int .i64 0), (.int .i64 0)]) (cells := [(.int .i64 r21.1), (.int .i64 r24.1)]) (parts := [(0, (.tmp 67))]) hs Tryd.underlying25 ti72 rfl rfl rfl (.cons (O rfl) .nil) (by kernel_rfl) rfl (ARd.cons (A := (RP (RI .i64) (RI .i64))) (c := [(.int .i64 r21.1), (.int .i64 r24.1)]) (x := (r21.1, r24.1)) ⟨_, _, rfl, rfl, rfl⟩ ARd.nil) rfl ?_
  intro b53 w54 hs
  replace hs := Sat.n10 (Γ := Φ) hs rfl
  refine WL_nil ?_
  refine At_QK (allJ_cons ((hs.box (i := 2) rfl).part 3 rfl) allJ_nil) ?_
  refine WD_loud (pend' := []) rfl (by kernel_rfl) ?_
  replace hs := hs.freeze (i := 0) rfl
  obtain ⟨k55, hm⟩ := chk_some hm
  refine WS_append (A := (RP (RI .i64) (RI .i64))) hs 5 rfl Tryd.underlying25 ti72 rfl rfl (O rfl) (O rfl) (hs.sl (i := 0) rfl) k55 rfl ?_
  intro v56 R57 w58 hs
  replace hs := Sat.n10 (Γ := Φ) hs rfl
  refine WL_nil ?_
  refine At_QK allJ_nil ?_
  refine WD_pure (fun _ => (Run_nilP (O rfl))) rfl rfl rfl rfl <| WD_pure (fun _ => (Run_fieldAddr fo86_2 (O rfl))) rfl rfl rfl rfl <| WD_pure (fun _ => (Run_fieldAddr fo28_1 (O rfl))) rfl rfl rfl rfl <| ?_
  refine WD_loud (pend' := []) rfl (by kernel_rfl) ?_
  refine WS_store (us := [(sl v56)]) (vs' := [(sl v2), (.int .i64 r30.1), (sl v47), (sl v56), (sl v10), (sl v13), (sl v16), (.int .i64 c42), (.int .i64 c43)]) hs 2 rfl ti25 (O rfl) (O rfl) rfl rfl rfl rfl rfl ?_
  intro w59 hs
  replace hs := Sat.n10 (Γ := Φ) hs rfl
  refine WL_nil ?_
  refine At_QK allJ_nil ?_
  refine WD_nil ?_
  refine At_then <| WC_region ?_
  refine Wo (Run_move (O rfl)) rfl <| Wo (Run_move (O rfl)) rfl <| Wo (Run_nilP (O rfl)) rfl <| Wo (Run_fieldAddr fo86_2 (O rfl)) rfl <| Wo (Run_fieldAddr fo28_2 (O rfl)) rfl <| Wo (Run_load1 (v := (sl v10)) Tryd.underlying22 rfl (O rfl) (fun _ => (hs.box (i := 2) rfl).part 4 rfl)) rfl <| Wo (Run_move (O rfl)) rfl <| ?_
  refine WS_lit (A := (RI .i64)) (xs := [r27.1]) (zs := [(.int .i64 0)]) (cells := [(.int .i64 r27.1)]) (parts := [(0, (.tmp 79))]) hs Tryd.underlying22 ti3 rfl rfl rfl (.cons (O rfl) .nil) (by kernel_rfl) rfl (ARd.cons (A := (RI .i64)) (c := [(.int .i64 r27.1)]) (x := r27.1) rfl ARd.nil) rfl ?_
  intro b60 w61 hs
  replace hs := Sat.n11 (Γ := Φ) hs rfl
  replace hs := hs.freeze (i := 0) rfl
  obtain ⟨k62, hm⟩ := chk_some hm
  refine WS_append (A := (RI .i64)) hs 7 rfl Tryd.underlying22 ti3 rfl rfl (O rfl) (O rfl) (hs.sl (i := 0) rfl) k62 rfl ?_
  intro v63 R64 w65 hs
  replace hs := Sat.n11 (Γ := Φ) hs rfl
  refine Wo (Run_nilP (O rfl)) rfl <| Wo (Run_fieldAddr fo86_2 (O rfl)) rfl <| Wo (Run_fieldAddr fo28_2 (O rfl)) rfl <| ?_
  refine WS_store (us := [(sl v63)]) (vs' := [(sl v2), (.int .i64 r30.1), (sl v47), (sl v56), (sl v63), (sl v13), (sl v16), (.int .i64 c42), (.int .i64 c43)]) hs 3 rfl ti22 (O rfl) (O rfl) rfl rfl rfl rfl rfl ?_
  intro w66 hs
  replace hs := Sat.n11 (Γ := Φ) hs rfl
  refine WL_nil ?_
  refine At_e0 rfl  ?_
  cases hm
  exact ⟨v47, R48, v56, R57, v63, R64, rfl, (hs.re 11 [3, 4, 5, 6, 7, 8, 9] rfl)⟩
 ·
  refine WC_seq <| WC_region ?_
  refine Wo (Run_move (O rfl)) rfl <| ?_
  obtain ⟨b67, e68, hm⟩ := letv_some hm
  refine Wo (Run.eqB (Run_notB (O rfl)) e68) rfl <| Wo (Run_move (O rfl)) rfl <| Wg rfl guard_neg (Run_move (O rfl)) rfl <| Wg rfl guard_neg (Run_move (O rfl)) rfl <| ?_
  obtain ⟨b69, e70, hm⟩ := letv_some hm
  refine Wg rfl guard_neg (Run.eqB (Run_ltI (Opd.g rfl id) (Opd.g rfl id)) e70) rfl <| ?_
  obtain ⟨b71, e72, hm⟩ := letv_some hm
  refine Wo (Run.eqB (Run_or (O rfl) (Opd.g rfl id)) e72) rfl <| Wo (Run_move (O rfl)) rfl <| Wg rfl guard_neg (Run_move (O rfl)) rfl <| Wg rfl guard_neg (Run_move (O rfl)) rfl <| ?_
  obtain ⟨b73, e74, hm⟩ := letv_some hm
  refine Wg rfl guard_neg (Run.eqB (Run_gtI (Opd.g rfl id) (Opd.g rfl id)) e74) rfl <| ?_
  obtain ⟨b75, e76, hm⟩ := letv_some hm
  refine Wo (Run.eqB (Run_or (O rfl) (Opd.g rfl id)) e76) rfl <| ?_
  refine WL_nil <| At_then ?_
  refine WC_cond (O rfl) (fun hc77 => ?_) (fun hc77 => ?_)
  ·
   replace hm := bif_t hc77 hm
   refine WC_region ?_
   refine Wo (Run_move (O rfl)) rfl <| Wo (Run_move (O rfl)) rfl <| ?_
   obtain ⟨r78, hr79, hm⟩ := bind_some' hm
   refine WL_call (f := 37) (first := []) (cap := []) (xs := [(.tmp 46), (.const (.int .i64 5)), (.tmp 47)]) (vs := [(.pointer (some ⟨b, 0, none⟩)), (.int .i64 5), (.int .i64 r18)]) (args := [(.pointer (some ⟨b, 0, none⟩)), (.int .i64 5), (.int .i64 r18)]) Tryd.call37 Opd.f (.cons (O rfl) (.cons Opd.c (.cons (O rfl) .nil))) rfl rfl (scrutinyref14_look_fail_ok (hs.re 9 [2, 3, 4, 5, 6, 7, 8, 0, 1] rfl) hr79) ?_
   rintro _ w80 ⟨rfl, hs⟩
   replace hs := Sat.n9 (Γ := Φ) hs rfl
   refine WL_nil ?_
   exact At_join (r78.1, r78.2) ⟨hm, (hs.re 9 [0, 1, 2, 3, 4, 5, 6, 8] rfl)⟩ rfl
  ·
   replace hm := bif_f hc77 hm
   refine WC_skip ?_
   exact At_join (r30.2.1, r30.2.2) ⟨hm, (hs.re 9 [2, 3, 4, 5, 6, 7, 8, 1] rfl)⟩ rfl
end Go.Proofs.YtjdabjpjafkogaaDoor
namespace Go.Proofs.YtjdabjpjafkogaaDoor
open Go.Proofs
set_option maxRecDepth 100000 in
set_option maxHeartbeats 4000000 in
theorem scrutinyref14_Parse_ok {Φ : Ctx} {w : World} {text : Str} {r : (((List Str) × (List (Int × Int)) × (List Int) × (List Str) × (List (Int × Ex × (List (Int × Ex))))) × Int × Int)} (hs : Sat (Φ) w) (hm : scrutinyref14_Parse text = some r) :
  CallsR Tryd.prog 25 [(S text)] w (fun v w' => ∃ v3 : SLV, ∃ R4 : List Nat, ∃ v5 : SLV, ∃ R6 : List Nat, ∃ v7 : SLV, ∃ R8 : List Nat, ∃ v9 : SLV, ∃ R10 : List Nat, ∃ v11 : SLV, ∃ R12 : List Nat, v = (.tuple #[(.agg #[(sl v3), (sl v5), (sl v7), (sl v9), (sl v11)]), (.int .i64 r.2.1), (.int .i64 r.2.2)]) ∧ Sat (osl RS 9 (sl v3) r.1.1 R4 :: osl (RP (RI .i64) (RI .i64)) 72 (sl v5) r.1.2.1 R6 :: osl (RI .i64) 3 (sl v7) r.1.2.2.1 R8 :: osl RS 9 (sl v9) r.1.2.2.2.1 R10 :: osl (RP (RI .i64) (RP RExpr (RSl (RP (RI .i64) RExpr)))) 60 (sl v11) r.1.2.2.2.2 R12 :: Φ) w') := by
 refine CallsX_enter Tryd.func25 rfl Tryd.ntmps25 rfl ?_
 unfold scrutinyref14_Parse at hm
 refine WC_seq <| WC_region ?_
 refine WS_alloc (zs := [(sl (none, 0, 0)), (sl (none, 0, 0)), (sl (none, 0, 0)), (sl (none, 0, 0)), (sl (none, 0, 0))]) hs ti28 rfl rfl ?_
 intro b15 w16 hs
 replace hs := Sat.n1 (Γ := Φ) hs rfl
 refine Wo (Run_assign Opd.c) rfl <| Wo (Run_assign Opd.c) rfl <| ?_
 refine WL_nil <| At_then <| WC_seq <| WC_region ?_
 refine Wo (Run_move (O rfl)) rfl <| ?_
 obtain ⟨r17, hr18, hm⟩ := bind_some' hm
 refine WL_call (f := 35) (first := []) (cap := []) (xs := [(.tmp 14)]) (vs := [(S text)]) (args := [(S text)]) Tryd.call35 Opd.f (.cons (O rfl) .nil) rfl rfl (scrutinyref12_Tokens_ok (hs.re 1 [0] rfl) hr18) ?_
 rintro _ w21 ⟨v19, R20, rfl, hs⟩
 replace hs := Sat.n2 (Γ := Φ) hs rfl
 refine Wo (Run_move (O rfl)) rfl <| Wo (Run_extract (vs := [(sl v19), (.int .i64 r17.2.1), (.int .i64 r17.2.2)]) (O rfl) rfl) rfl <| Wo (Run_extract (vs := [(sl v19), (.int .i64 r17.2.1), (.int .i64 r17.2.2)]) (O rfl) rfl) rfl <| Wo (Run_extract (vs := [(sl v19), (.int .i64 r17.2.1), (.int .i64 r17.2.2)]) (O rfl) rfl) rfl <| Wo (Run_assign (O rfl)) rfl <| Wo (Run_assign (O rfl)) rfl <| Wo (Run_assign (O rfl)) rfl <| ?_
 refine WL_nil <| At_then <| WC_seq <| WC_seq <| WC_region ?_
 refine Wo (Run_move (O rfl)) rfl <| Wo (Run_neI (O rfl) Opd.c) rfl <| ?_
 refine WL_nil <| At_then ?_
 refine WC_cond (O rfl) (fun hc22 => ?_) (fun hc22 => ?_)
 ·
  replace hm := bif_t hc22 hm
  refine WC_seq <| WC_region ?_
  refine Wo (Run_build (parts := []) (v := (.agg #[(sl (none, 0, 0)), (sl (none, 0, 0)), (sl (none, 0, 0)), (sl (none, 0, 0)), (sl (none, 0, 0))])) .nil (fun _ => by kernel_rfl)) rfl <| Wo (Run_move (O rfl)) rfl <| Wo (Run_move (O rfl)) rfl <| ?_
  refine WS_store (us := [(sl (none, 0, 0)), (sl (none, 0, 0)), (sl (none, 0, 0)), (sl (none, 0, 0)), (sl (none, 0, 0))]) (vs' := [(sl (none, 0, 0)), (sl (none, 0, 0)), (sl (none, 0, 0)), (sl (none, 0, 0)), (sl (none, 0, 0))]) hs 1 rfl ti28 (O rfl) (O rfl) rfl rfl rfl rfl rfl ?_
  intro w23 hs
  replace hs := Sat.n2 (Γ := Φ) hs rfl
  refine Wo (Run_assign (O rfl)) rfl <| Wo (Run_assign (O rfl)) rfl <| ?_
  refine WL_nil <| At_then ?_
  refine WC_ret ?_
  refine At_then_ret <| ?_
  refine At_r3 rfl (ResIs.cA (vs := [(sl (none, 0, 0)), (sl (none, 0, 0)), (sl (none, 0, 0)), (sl (none, 0, 0)), (sl (none, 0, 0))]) rfl Tryd.underlying28 rfl ti28 ((hs.box (i := 1) rfl).part 0 rfl) rfl) (ResIs.t rfl) (ResIs.t rfl) ?_
  replace hs := hs.addNil RS 9
  replace hs := hs.addNil (RP (RI .i64) (RI .i64)) 72
  replace hs := hs.addNil (RI .i64) 3
  replace hs := hs.addNil RS 9
  replace hs := hs.addNil (RP (RI .i64) (RP RExpr (RSl (RP (RI .i64) RExpr)))) 60
  cases hm
  exact ⟨(none, 0, 0), [], (none, 0, 0), [], (none, 0, 0), [], (none, 0, 0), [], (none, 0, 0), [], rfl, (hs.re 7 [4, 3, 2, 1, 0] rfl)⟩
 ·
  replace hm := bif_f hc22 hm
  refine WC_skip ?_
  refine At_then <| WC_seq <| WC_region ?_
  refine Wo (Run_move (O rfl)) rfl <| Wo (Run_build (parts := [(0, (.tmp 24))]) (v := (.agg #[(sl v19), (.int .i64 0), (sl (none, 0, 0)), (sl (none, 0, 0)), (sl (none, 0, 0)), (sl (none, 0, 0)), (sl (none, 0, 0)), (.int .i64 0), (.int .i64 0)])) (.cons (O rfl) .nil) (fun _ => by kernel_rfl)) rfl <| ?_
  refine WS_alloc (zs := [(sl (none, 0, 0)), (.int .i64 0), (sl (none, 0, 0)), (sl (none, 0, 0)), (sl (none, 0, 0)), (sl (none, 0, 0)), (sl (none, 0, 0)), (.int .i64 0), (.int .i64 0)]) hs ti86 rfl rfl ?_
  intro b24 w25 hs
  replace hs := Sat.n3 (Γ := Φ) hs rfl
  refine WS_store (us := [(sl v19), (.int .i64 0), (sl (none, 0, 0)), (sl (none, 0, 0)), (sl (none, 0, 0)), (sl (none, 0, 0)), (sl (none, 0, 0)), (.int .i64 0), (.int .i64 0)]) (vs' := [(sl v19), (.int .i64 0), (sl (none, 0, 0)), (sl (none, 0, 0)), (sl (none, 0, 0)), (sl (none, 0, 0)), (sl (none, 0, 0)), (.int .i64 0), (.int .i64 0)]) hs 0 rfl ti86 (O rfl) (O rfl) rfl rfl rfl rfl rfl ?_
  intro w26 hs
  replace hs := Sat.n3 (Γ := Φ) hs rfl
  refine WL_nil <| At_then <| WC_seq ?_
  refine WC_block ?_
  replace hs := hs.addNil RS 9
  replace hs := hs.addNil (RP (RI .i64) (RI .i64)) 72
  replace hs := hs.addNil (RI .i64) 3
  replace hs := hs.addNil RS 9
  replace hs := hs.addNil (RP (RI .i64) (RP RExpr (RSl (RP (RI .i64) RExpr)))) 60
  refine WC_loop (σ := Int × (List Str) × (List (Int × Int)) × (List Int) × (List Str) × (List (Int × Ex × (List (Int × Ex)))) × Int × Int) (γ := SLV × List Nat × SLV × List Nat × SLV × List Nat × SLV × List Nat × SLV × List Nat) (F := (scrutinyref14_Parse_L1 r17)) (N := FUEL) (s0 := (0, [], [], [], [], [], 0, 0)) (r := r) (fun ⟨c28, l29, l32, l35, l38, l41, c44, c45⟩ ⟨v30, R31, v33, R34, v36, R37, v39, R40, v42, R43⟩ w27 => Sat (box b15 28 [(sl (none, 0, 0)), (sl (none, 0, 0)), (sl (none, 0, 0)), (sl (none, 0, 0)), (sl (none, 0, 0))] :: box b24 86 [(sl v19), (.int .i64 c28), (sl v30), (sl v33), (sl v36), (sl v39), (sl v42), (.int .i64 c44), (.int .i64 c45)] :: osl (RP (RI .i64) (RP RS (RP (RI .i64) (RI .i64)))) 88 (sl v19) r17.1 R20 :: osl RS 9 (sl v30) l29 R31 :: osl (RP (RI .i64) (RI .i64)) 72 (sl v33) l32 R34 :: osl (RI .i64) 3 (sl v36) l35 R37 :: osl RS 9 (sl v39) l38 R40 :: osl (RP (RI .i64) (RP RExpr (RSl (RP (RI .i64) RExpr)))) 60 (sl v42) l41 R43 :: Φ) w27) (fun ⟨c28, l29, l32, l35, l38, l41, c44, c45⟩ ⟨v30, R31, v33, R34, v36, R37, v39, R40, v42, R43⟩ => [(2, true, (.pointer (some ⟨b15, 0, none⟩))), (8, true, (.pointer (some ⟨b24, 0, none⟩)))]) hm ((none, 0, 0), [], (none, 0, 0), [], (none, 0, 0), [], (none, 0, 0), [], (none, 0, 0), []) (hs.re 8 [7, 5, 6, 4, 3, 2, 1, 0] rfl) rfl ?_
  rintro again46 ⟨c28, l29, l32, l35, l38, l41, c44, c45⟩ ⟨v30, R31, v33, R34, v36, R37, v39, R40, v42, R43⟩ w27 hm hs
  unfold scrutinyref14_Parse_L1 at hm
  dsimp only at hm
  refine WC_seq <| WC_seq <| WC_region ?_
  refine Wo (Run_fieldAddr fo86_3 (O rfl)) rfl <| Wo (Run_load1 (v := (.int .i64 c44)) Tryd.underlying3 rfl (O rfl) (fun _ => (hs.box (i := 1) rfl).part 7 rfl)) rfl <| ?_
  obtain ⟨b47, e48, hm⟩ := letv_some hm
  refine Wo (Run.eqB (Run_eqI (O rfl) Opd.c) e48) rfl <| Wo (Run_move (O rfl)) rfl <| WL_opG rfl rfl rfl rfl guard_pos (Run_fieldAddr fo86_0 (O rfl)) rfl rfl rfl <| WL_opG rfl rfl rfl rfl guard_pos (Run_load1 (v := (sl v19)) Tryd.underlying82 rfl (Opd.g rfl id) (fun _ => (hs.box (i := 1) rfl).part 0 rfl)) rfl rfl rfl <| WL_opG rfl rfl rfl rfl guard_pos (Run_fieldAddr fo86_1 (O rfl)) rfl rfl rfl <| WL_opG rfl rfl rfl rfl guard_pos (Run_load1 (v := (.int .i64 c28)) Tryd.underlying3 rfl (Opd.g rfl id) (fun _ => (hs.box (i := 1) rfl).part 1 rfl)) rfl rfl rfl <| ?_
  obtain ⟨e49, he50, -, hm⟩ := callG_some hm
  refine WL_opG rfl rfl rfl rfl guard_pos (Run_idxAddr (p := (elA (sl v19) c28 4)) Tryd.underlying82 ti88 (Opd.g rfl id) (Opd.g rfl id) (fun hg => (Own.atA (A := (RP (RI .i64) (RP RS (RP (RI .i64) (RI .i64))))) (v := (sl v19)) (hs.own (i := 2) rfl) (he50 hg)).1)) rfl rfl rfl <| WL_opG rfl rfl rfl rfl guard_pos (Run_fieldAddr fo88_0 (Opd.g rfl id)) rfl rfl rfl <| WL_opG rfl rfl rfl rfl guard_pos (Run_load1 (v := (.int .i64 e49.1)) Tryd.underlying3 rfl (Opd.g rfl id) (fun hg => ((Own.cellsF (A := (RP (RI .i64) (RP RS (RP (RI .i64) (RI .i64))))) (v := (sl v19)) (hs.own (i := 2) rfl) (he50 hg) (fun _ h => openT88 h)).sub (us := [(.int .i64 e49.1)]) 0 rfl).sub 0 rfl)) rfl rfl rfl <| ?_
  obtain ⟨b51, e52, hm⟩ := letv_some hm
  refine WL_opG rfl rfl rfl rfl guard_pos (Run.eqB (Run_neI (Opd.g rfl id) Opd.c) e52) rfl rfl rfl <| ?_
  obtain ⟨b53, e54, hm⟩ := letv_some hm
  refine Wo (Run.eqB (Run_and (O rfl) (Opd.g rfl id)) e54) rfl <| ?_
  refine WL_nil <| At_then ?_
  refine WC_cond (O rfl) (fun hc55 => ?_) (fun hc55 => ?_)
  ·
   replace hm := bif_t hc55 hm
   refine WC_skip ?_
   refine At_then ?_
   refine WC_block ?_
   refine WC_seq <| WC_region ?_
   obtain ⟨r56, hr57, hm⟩ := bind_some' hm
   refine WL_call (f := 36) (first := []) (cap := []) (xs := [(.tmp 8), (.const (.int .i64 1)), (.const (.string ⟨#[118, 97, 114]⟩))]) (vs := [(.pointer (some ⟨b24, 0, none⟩)), (.int .i64 1), (S [118, 97, 114])]) (args := [(.pointer (some ⟨b24, 0, none⟩)), (.int .i64 1), (S [118, 97, 114])]) Tryd.call36 Opd.f (.cons (O rfl) (.cons Opd.c (.cons Opd.c .nil))) rfl rfl (scrutinyref14_look_is_ok (hs.re 8 [1, 2, 3, 4, 5, 6, 7, 0] rfl) hr57) ?_
   rintro _ w58 ⟨rfl, hs⟩
   replace hs := Sat.n8 (Γ := Φ) hs rfl
   refine Wo (Run_assign (O rfl)) rfl <| ?_
   refine WL_nil <| At_then <| WC_seq <| WC_region ?_
   obtain ⟨r59, hr60, hm⟩ := bind_some' hm
   refine WL_call (f := 36) (first := []) (cap := []) (xs := [(.tmp 8), (.const (.int .i64 1)), (.const (.string ⟨#[112, 114, 111, 99]⟩))]) (vs := [(.pointer (some ⟨b24, 0, none⟩)), (.int .i64 1), (S [112, 114, 111, 99])]) (args := [(.pointer (some ⟨b24, 0, none⟩)), (.int .i64 1), (S [112, 114, 111, 99])]) Tryd.call36 Opd.f (.cons (O rfl) (.cons Opd.c (.cons Opd.c .nil))) rfl rfl (scrutinyref14_look_is_ok (hs.re 8 [0, 1, 2, 3, 4, 5, 6, 7] rfl) hr60) ?_
   rintro _ w61 ⟨rfl, hs⟩
   replace hs := Sat.n8 (Γ := Φ) hs rfl
   refine Wo (Run_assign (O rfl)) rfl <| ?_
   refine WL_nil <| At_then ?_
   refine WC_seq_cut (γ := Int × Int) (fun ⟨c63, c64⟩ w62 => scrutinyref14_Parse_K2 r17 c28 l29 l32 l35 l38 l41 again46 r56 r59 c63 c64 = some r ∧ Sat (box b15 28 [(sl (none, 0, 0)), (sl (none, 0, 0)), (sl (none, 0, 0)), (sl (none, 0, 0)), (sl (none, 0, 0))] :: box b24 86 [(sl v19), (.int .i64 c28), (sl v30), (sl v33), (sl v36), (sl v39), (sl v42), (.int .i64 c63), (.int .i64 c64)] :: osl (RP (RI .i64) (RP RS (RP (RI .i64) (RI .i64)))) 88 (sl v19) r17.1 R20 :: osl RS 9 (sl v30) l29 R31 :: osl (RP (RI .i64) (RI .i64)) 72 (sl v33) l32 R34 :: osl (RI .i64) 3 (sl v36) l35 R37 :: osl RS 9 (sl v39) l38 R40 :: osl (RP (RI .i64) (RP RExpr (RSl (RP (RI .i64) RExpr)))) 60 (sl v42) l41 R43 :: Φ) w62) (fun ⟨c63, c64⟩ => [(2, true, (.pointer (some ⟨b15, 0, none⟩))), (8, true, (.pointer (some ⟨b24, 0, none⟩))), (9, true, (.bool r56)), (10, true, (.bool r59))]) ?_ ?_
   ·
    rintro ⟨c63, c64⟩ w62 ⟨hm, hs⟩
    unfold scrutinyref14_Parse_K2 at hm
    refine WC_seq_cut (γ := Int) (fun c66 w65 => scrutinyref14_Parse_K3 r17 l29 l32 l35 l38 l41 again46 r56 r59 c63 c64 c66 = some r ∧ Sat (box b15 28 [(sl (none, 0, 0)), (sl (none, 0, 0)), (sl (none, 0, 0)), (sl (none, 0, 0)), (sl (none, 0, 0))] :: box b24 86 [(sl v19), (.int .i64 c66), (sl v30), (sl v33), (sl v36), (sl v39), (sl v42), (.int .i64 c63), (.int .i64 c64)] :: osl (RP (RI .i64) (RP RS (RP (RI .i64) (RI .i64)))) 88 (sl v19) r17.1 R20 :: osl RS 9 (sl v30) l29 R31 :: osl (RP (RI .i64) (RI .i64)) 72 (sl v33) l32 R34 :: osl (RI .i64) 3 (sl v36) l35 R37 :: osl RS 9 (sl v39) l38 R40 :: osl (RP (RI .i64) (RP RExpr (RSl (RP (RI .i64) RExpr)))) 60 (sl v42) l41 R43 :: Φ) w65) (fun c66 => [(2, true, (.pointer (some ⟨b15, 0, none⟩))), (8, true, (.pointer (some ⟨b24, 0, none⟩))), (9, true, (.bool r56)), (10, true, (.bool r59))]) ?_ ?_
    ·
     rintro c66 w65 ⟨hm, hs⟩
     unfold scrutinyref14_Parse_K3 at hm
     refine WC_seq_cut (γ := Int × (List Str) × SLV × List Nat × (List (Int × Int)) × SLV × List Nat × (List Int) × SLV × List Nat × Int × Int) (fun ⟨c68, c69, v70, R71, c72, v73, R74, c75, v76, R77, c78, c79⟩ w67 => scrutinyref14_Parse_K4 r17 l38 l41 again46 r59 c68 c69 c72 c75 c78 c79 = some r ∧ Sat (box b15 28 [(sl (none, 0, 0)), (sl (none, 0, 0)), (sl (none, 0, 0)), (sl (none, 0, 0)), (sl (none, 0, 0))] :: box b24 86 [(sl v19), (.int .i64 c68), (sl v70), (sl v73), (sl v76), (sl v39), (sl v42), (.int .i64 c78), (.int .i64 c79)] :: osl (RP (RI .i64) (RP RS (RP (RI .i64) (RI .i64)))) 88 (sl v19) r17.1 R20 :: osl RS 9 (sl v70) c69 R71 :: osl (RP (RI .i64) (RI .i64)) 72 (sl v73) c72 R74 :: osl (RI .i64) 3 (sl v76) c75 R77 :: osl RS 9 (sl v39) l38 R40 :: osl (RP (RI .i64) (RP RExpr (RSl (RP (RI .i64) RExpr)))) 60 (sl v42) l41 R43 :: Φ) w67) (fun ⟨c68, c69, v70, R71, c72, v73, R74, c75, v76, R77, c78, c79⟩ => [(2, true, (.pointer (some ⟨b15, 0, none⟩))), (8, true, (.pointer (some ⟨b24, 0, none⟩))), (10, true, (.bool r59))]) ?_ ?_
     ·
      rintro ⟨c68, c69, v70, R71, c72, v73, R74, c75, v76, R77, c78, c79⟩ w67 ⟨hm, hs⟩
      unfold scrutinyref14_Parse_K4 at hm
      refine WC_seq <| WC_region ?_
      refine Wo (Run_move (O rfl)) rfl <| ?_
      refine WL_nil <| At_then ?_
      refine WC_cond (O rfl) (fun hc80 => ?_) (fun hc80 => ?_)
      ·
       replace hm := bif_t hc80 hm
       refine WC_seq <| WC_region ?_
       obtain ⟨r81, hr82, hm⟩ := bind_some' hm
       refine WL_call (f := 40) (first := []) (cap := []) (xs := [(.tmp 8), (.const (.bool false))]) (vs := [(.pointer (some ⟨b24, 0, none⟩)), (.bool false)]) (args := [(.pointer (some ⟨b24, 0, none⟩)), (.bool false)]) Tryd.call40 Opd.f (.cons (O rfl) (.cons Opd.c .nil)) rfl rfl (scrutinyref14_look_name_ok (hs.re 8 [1, 2, 3, 4, 5, 6, 7, 0] rfl) hr82) ?_
       rintro _ w83 ⟨rfl, hs⟩
       replace hs := Sat.n8 (Γ := Φ) hs rfl
       refine Wo (Run_assign (O rfl)) rfl <| ?_
       refine WL_nil <| At_then <| WC_seq <| WC_region ?_
       refine Wo (Run_fieldAddr fo86_2 (O rfl)) rfl <| Wo (Run_fieldAddr fo28_3 (O rfl)) rfl <| Wo (Run_load1 (v := (sl v39)) Tryd.underlying24 rfl (O rfl) (fun _ => (hs.box (i := 0) rfl).part 5 rfl)) rfl <| Wo (Run_move (O rfl)) rfl <| ?_
       refine WS_lit (A := RS) (xs := [r81.1]) (zs := [(S [])]) (cells := [(S r81.1)]) (parts := [(0, (.tmp 63))]) hs Tryd.underlying24 ti9 rfl rfl rfl (.cons (O rfl) .nil) (by kernel_rfl) rfl (ARd.cons (A := RS) (c := [(S r81.1)]) (x := r81.1) rfl ARd.nil) rfl ?_
       intro b84 w85 hs
       replace hs := Sat.n9 (Γ := Φ) hs rfl
       replace hs := hs.freeze (i := 0) rfl
       obtain ⟨k86, hm⟩ := chk_some hm
       refine WS_append (A := RS) hs 6 rfl Tryd.underlying24 ti9 rfl rfl (O rfl) (O rfl) (hs.sl (i := 0) rfl) k86 rfl ?_
       intro v87 R88 w89 hs
       replace hs := Sat.n9 (Γ := Φ) hs rfl
       refine Wo (Run_fieldAddr fo86_2 (O rfl)) rfl <| Wo (Run_fieldAddr fo28_3 (O rfl)) rfl <| ?_
       refine WS_store (us := [(sl v87)]) (vs' := [(sl v19), (.int .i64 r81.2.1), (sl v70), (sl v73), (sl v76), (sl v87), (sl v42), (.int .i64 r81.2.2.1), (.int .i64 r81.2.2.2)]) hs 1 rfl ti24 (O rfl) (O rfl) rfl rfl rfl rfl rfl ?_
       intro w90 hs
       replace hs := Sat.n9 (Γ := Φ) hs rfl
       refine WL_nil <| At_then <| WC_seq <| WC_region ?_
       obtain ⟨r91, hr92, hm⟩ := bind_some' hm
       refine WL_call (f := 41) (first := []) (cap := []) (xs := [(.tmp 8), (.const (.string ⟨#[123]⟩))]) (vs := [(.pointer (some ⟨b24, 0, none⟩)), (S [123])]) (args := [(.pointer (some ⟨b24, 0, none⟩)), (S [123])]) Tryd.call41 Opd.f (.cons (O rfl) (.cons Opd.c .nil)) rfl rfl (scrutinyref14_look_sign_ok (hs.re 9 [1, 2, 3, 4, 5, 6, 7, 0, 8] rfl) hr92) ?_
       rintro _ w93 ⟨rfl, hs⟩
       replace hs := Sat.n9 (Γ := Φ) hs rfl
       refine WL_nil <| At_then <| WC_seq <| WC_region ?_
       obtain ⟨r94, hr95, hm⟩ := bind_some' hm
       refine WL_call (f := 36) (first := []) (cap := []) (xs := [(.tmp 8), (.const (.int .i64 3)), (.const (.string ⟨#[125]⟩))]) (vs := [(.pointer (some ⟨b24, 0, none⟩)), (.int .i64 3), (S [125])]) (args := [(.pointer (some ⟨b24, 0, none⟩)), (.int .i64 3), (S [125])]) Tryd.call36 Opd.f (.cons (O rfl) (.cons Opd.c (.cons Opd.c .nil))) rfl rfl (scrutinyref14_look_is_ok (hs.re 9 [0, 1, 2, 3, 4, 5, 6, 7, 8] rfl) hr95) ?_
       rintro _ w96 ⟨rfl, hs⟩
       replace hs := Sat.n9 (Γ := Φ) hs rfl
       refine Wo (Run_assign (O rfl)) rfl <| ?_
       refine WL_nil <| At_then <| WC_seq ?_
       refine WC_block ?_
       refine WC_loop (σ := Int × (List (Int × Ex × (List (Int × Ex)))) × Int × Int × Bool) (γ := SLV × List Nat) (F := (scrutinyref14_Parse_L5 r17 l38 again46 c69 c72 c75 r81)) (N := FUEL) (s0 := (r91.1, l41, r91.2.1, r91.2.2, r94)) (r := r) (fun ⟨c98, c99, c102, c103, end104⟩ ⟨v100, R101⟩ w97 => Sat (box b15 28 [(sl (none, 0, 0)), (sl (none, 0, 0)), (sl (none, 0, 0)), (sl (none, 0, 0)), (sl (none, 0, 0))] :: box b24 86 [(sl v19), (.int .i64 c98), (sl v70), (sl v73), (sl v76), (sl v87), (sl v100), (.int .i64 c102), (.int .i64 c103)] :: osl (RP (RI .i64) (RP RS (RP (RI .i64) (RI .i64)))) 88 (sl v19) r17.1 R20 :: osl RS 9 (sl v70) c69 R71 :: osl (RP (RI .i64) (RI .i64)) 72 (sl v73) c72 R74 :: osl (RI .i64) 3 (sl v76) c75 R77 :: osl RS 9 (sl v87) (l38 ++ ([r81.1] : List Str)) R88 :: osl (RP (RI .i64) (RP RExpr (RSl (RP (RI .i64) RExpr)))) 60 (sl v100) c99 R101 :: Φ) w97) (fun ⟨c98, c99, c102, c103, end104⟩ ⟨v100, R101⟩ => [(2, true, (.pointer (some ⟨b15, 0, none⟩))), (8, true, (.pointer (some ⟨b24, 0, none⟩))), (12, true, (.bool end104))]) hm (v42, R43) (hs.re 9 [8, 0, 1, 2, 3, 4, 5, 6] rfl) rfl ?_
       rintro again105 ⟨c98, c99, c102, c103, end104⟩ ⟨v100, R101⟩ w97 hm hs
       unfold scrutinyref14_Parse_L5 at hm
       dsimp only at hm
       refine WC_seq <| WC_seq <| WC_region ?_
       refine Wo (Run_fieldAddr fo86_3 (O rfl)) rfl <| Wo (Run_load1 (v := (.int .i64 c102)) Tryd.underlying3 rfl (O rfl) (fun _ => (hs.box (i := 1) rfl).part 7 rfl)) rfl <| ?_
       obtain ⟨b106, e107, hm⟩ := letv_some hm
       refine Wo (Run.eqB (Run_eqI (O rfl) Opd.c) e107) rfl <| Wo (Run_move (O rfl)) rfl <| WL_opG rfl rfl rfl rfl guard_pos (Run_move (O rfl)) rfl rfl rfl <| ?_
       obtain ⟨b108, e109, hm⟩ := letv_some hm
       refine WL_opG rfl rfl rfl rfl guard_pos (Run.eqB (Run_notB (Opd.g rfl id)) e109) rfl rfl rfl <| ?_
       obtain ⟨b110, e111, hm⟩ := letv_some hm
       refine Wo (Run.eqB (Run_and (O rfl) (Opd.g rfl id)) e111) rfl <| ?_
       refine WL_nil <| At_then ?_
       refine WC_cond (O rfl) (fun hc112 => ?_) (fun hc112 => ?_)
       ·
        replace hm := bif_t hc112 hm
        refine WC_skip ?_
        refine At_then ?_
        refine WC_block ?_
        refine WC_seq <| WC_region ?_
        obtain ⟨r113, hr114, hm⟩ := bind_some' hm
        refine WL_call (f := 42) (first := []) (cap := []) (xs := [(.tmp 8)]) (vs := [(.pointer (some ⟨b24, 0, none⟩))]) (args := [(.pointer (some ⟨b24, 0, none⟩))]) Tryd.call42 Opd.f (.cons (O rfl) .nil) rfl rfl (scrutinyref14_look_command_ok (hs.re 8 [1, 2, 3, 4, 5, 6, 7, 0] rfl) hr114) ?_
        rintro _ w117 ⟨v115, R116, rfl, hs⟩
        replace hs := Sat.n8 (Γ := Φ) hs rfl
        refine WL_nil <| At_then <| WC_region ?_
        obtain ⟨r118, hr119, hm⟩ := bind_some' hm
        refine WL_call (f := 36) (first := []) (cap := []) (xs := [(.tmp 8), (.const (.int .i64 3)), (.const (.string ⟨#[125]⟩))]) (vs := [(.pointer (some ⟨b24, 0, none⟩)), (.int .i64 3), (S [125])]) (args := [(.pointer (some ⟨b24, 0, none⟩)), (.int .i64 3), (S [125])]) Tryd.call36 Opd.f (.cons (O rfl) (.cons Opd.c (.cons Opd.c .nil))) rfl rfl (scrutinyref14_look_is_ok (hs.re 8 [0, 1, 2, 3, 4, 5, 6, 7] rfl) hr119) ?_
        rintro _ w120 ⟨rfl, hs⟩
        replace hs := Sat.n8 (Γ := Φ) hs rfl
        refine Wo (Run_assign (O rfl)) rfl <| ?_
        refine WL_nil ?_
        refine At_blk_normal ?_
        exact At_again (r113.1, r113.2.1, r113.2.2.1, r113.2.2.2, r118) (v115, R116) hm (hs.re 8 [7, 0, 1, 2, 3, 4, 5, 6] rfl) rfl
       ·
        replace hm := bif_f hc112 hm
        refine WC_exit ?_
        refine At_then_exit <| At_then_exit <| At_blk_here <| ?_
        refine At_then <| WC_region ?_
        obtain ⟨r121, hr122, hm⟩ := bind_some' hm
        refine WL_call (f := 41) (first := []) (cap := []) (xs := [(.tmp 8), (.const (.string ⟨#[125]⟩))]) (vs := [(.pointer (some ⟨b24, 0, none⟩)), (S [125])]) (args := [(.pointer (some ⟨b24, 0, none⟩)), (S [125])]) Tryd.call41 Opd.f (.cons (O rfl) (.cons Opd.c .nil)) rfl rfl (scrutinyref14_look_sign_ok (hs.re 8 [1, 2, 3, 4, 5, 6, 7, 0] rfl) hr122) ?_
        rintro _ w123 ⟨rfl, hs⟩
        replace hs := Sat.n8 (Γ := Φ) hs rfl
        refine WL_nil ?_
        refine At_blk_normal ?_
        exact At_again (r121.1, c69, c72, c75, (l38 ++ ([r81.1] : List Str)), c99, r121.2.1, r121.2.2) (v70, R71, v73, R74, v76, R77, v87, R88, v100, R101) hm (hs.re 8 [7, 0, 1, 2, 3, 4, 5, 6] rfl) rfl
      ·
       replace hm := bif_f hc80 hm
       refine WC_skip ?_
       refine At_blk_normal ?_
       exact At_again (c68, c69, c72, c75, l38, l41, c78, c79) (v70, R71, v73, R74, v76, R77, v39, R40, v42, R43) hm (hs.re 8 [0, 1, 2, 3, 4, 5, 6, 7] rfl) rfl
     ·
      refine WC_seq <| WC_region ?_
      refine Wo (Run_move (O rfl)) rfl <| ?_
      refine WL_nil <| At_then ?_
      refine WC_cond (O rfl) (fun hc124 => ?_) (fun hc124 => ?_)
      ·
       replace hm := bif_t hc124 hm
       refine WC_region ?_
       obtain ⟨r125, hr126, hm⟩ := bind_some' hm
       refine WL_call (f := 39) (first := []) (cap := []) (xs := [(.tmp 8)]) (vs := [(.pointer (some ⟨b24, 0, none⟩))]) (args := [(.pointer (some ⟨b24, 0, none⟩))]) Tryd.call39 Opd.f (.cons (O rfl) .nil) rfl rfl (scrutinyref14_look_variable_ok (hs.re 8 [1, 2, 3, 4, 5, 6, 7, 0] rfl) hr126) ?_
       rintro _ w133 ⟨v127, R128, v129, R130, v131, R132, rfl, hs⟩
       replace hs := Sat.n8 (Γ := Φ) hs rfl
       refine WL_nil ?_
       exact At_join (r125.1, r125.2.1, v127, R128, r125.2.2.1, v129, R130, r125.2.2.2.1, v131, R132, r125.2.2.2.2.1, r125.2.2.2.2.2) ⟨hm, (hs.re 8 [7, 0, 1, 2, 3, 4, 5, 6] rfl)⟩ rfl
      ·
       replace hm := bif_f hc124 hm
       refine WC_skip ?_
       exact At_join (c66, l29, v30, R31, l32, v33, R34, l35, v36, R37, c63, c64) ⟨hm, (hs.re 8 [0, 1, 2, 3, 4, 5, 6, 7] rfl)⟩ rfl
    ·
     refine WC_seq <| WC_region ?_
     refine Wo (Run_fieldAddr fo86_3 (O rfl)) rfl <| Wo (Run_load1 (v := (.int .i64 c63)) Tryd.underlying3 rfl (O rfl) (fun _ => (hs.box (i := 1) rfl).part 7 rfl)) rfl <| Wo (Run_eqI (O rfl) Opd.c) rfl <| ?_
     refine WL_nil <| At_then ?_
     refine WC_cond (O rfl) (fun hc134 => ?_) (fun hc134 => ?_)
     ·
      replace hm := bif_t hc134 hm
      refine WC_region ?_
      refine Wo (Run_fieldAddr fo86_1 (O rfl)) rfl <| Wo (Run_load1 (v := (.int .i64 c28)) Tryd.underlying3 rfl (O rfl) (fun _ => (hs.box (i := 1) rfl).part 1 rfl)) rfl <| Wo (Run_add (O rfl) Opd.c) rfl <| Wo (Run_fieldAddr fo86_1 (O rfl)) rfl <| ?_
      refine WS_store (us := [(.int .i64 (IntKind.i64.wrap (c28 + 1)))]) (vs' := [(sl v19), (.int .i64 (IntKind.i64.wrap (c28 + 1))), (sl v30), (sl v33), (sl v36), (sl v39), (sl v42), (.int .i64 c63), (.int .i64 c64)]) hs 1 rfl ti3 (O rfl) (O rfl) rfl rfl rfl rfl rfl ?_
      intro w135 hs
      replace hs := Sat.n8 (Γ := Φ) hs rfl
      refine WL_nil ?_
      exact At_join (IntKind.i64.wrap (c28 + 1)) ⟨hm, (hs.re 8 [0, 1, 2, 3, 4, 5, 6, 7] rfl)⟩ rfl
     ·
      replace hm := bif_f hc134 hm
      refine WC_skip ?_
      exact At_join c28 ⟨hm, (hs.re 8 [0, 1, 2, 3, 4, 5, 6, 7] rfl)⟩ rfl
   ·
    refine WC_seq <| WC_region ?_
    refine Wo (Run_move (O rfl)) rfl <| ?_
    obtain ⟨b136, e137, hm⟩ := letv_some hm
    refine Wo (Run.eqB (Run_notB (O rfl)) e137) rfl <| Wo (Run_move (O rfl)) rfl <| WL_opG rfl rfl rfl rfl guard_pos (Run_move (O rfl)) rfl rfl rfl <| ?_
    obtain ⟨b138, e139, hm⟩ := letv_some hm
    refine WL_opG rfl rfl rfl rfl guard_pos (Run.eqB (Run_notB (Opd.g rfl id)) e139) rfl rfl rfl <| ?_
    obtain ⟨b140, e141, hm⟩ := letv_some hm
    refine Wo (Run.eqB (Run_and (O rfl) (Opd.g rfl id)) e141) rfl <| ?_
    refine WL_nil <| At_then ?_
    refine WC_cond (O rfl) (fun hc142 => ?_) (fun hc142 => ?_)
    ·
     replace hm := bif_t hc142 hm
     refine WC_region ?_
     obtain ⟨r143, hr144, hm⟩ := bind_some' hm
     refine WL_call (f := 38) (first := []) (cap := []) (xs := [(.tmp 8)]) (vs := [(.pointer (some ⟨b24, 0, none⟩))]) (args := [(.pointer (some ⟨b24, 0, none⟩))]) Tryd.call38 Opd.f (.cons (O rfl) .nil) rfl rfl (scrutinyref14_look_here_ok (hs.re 8 [0, 1, 2, 3, 4, 5, 6, 7] rfl) hr144) ?_
     rintro _ w145 ⟨rfl, hs⟩
     replace hs := Sat.n8 (Γ := Φ) hs rfl
     obtain ⟨r146, hr147, hm⟩ := bind_some' hm
     refine WL_call (f := 37) (first := []) (cap := []) (xs := [(.tmp 8), (.const (.int .i64 2)), (.tmp 47)]) (vs := [(.pointer (some ⟨b24, 0, none⟩)), (.int .i64 2), (.int .i64 r143)]) (args := [(.pointer (some ⟨b24, 0, none⟩)), (.int .i64 2), (.int .i64 r143)]) Tryd.call37 Opd.f (.cons (O rfl) (.cons Opd.c (.cons (O rfl) .nil))) rfl rfl (scrutinyref14_look_fail_ok (hs.re 8 [0, 1, 2, 3, 4, 5, 6, 7] rfl) hr147) ?_
     rintro _ w148 ⟨rfl, hs⟩
     replace hs := Sat.n8 (Γ := Φ) hs rfl
     refine WL_nil ?_
     exact At_join (r146.1, r146.2) ⟨hm, (hs.re 8 [7, 0, 1, 2, 3, 4, 5, 6] rfl)⟩ rfl
    ·
     replace hm := bif_f hc142 hm
     refine WC_skip ?_
     exact At_join (c44, c45) ⟨hm, (hs.re 8 [7, 0, 1, 2, 3, 4, 5, 6] rfl)⟩ rfl
  ·
   replace hm := bif_f hc55 hm
   refine WC_exit ?_
   refine At_then_exit <| At_then_exit <| At_blk_here <| ?_
   refine At_then ?_
   refine WC_seq_cut (γ := Int × Int) (fun ⟨c150, c151⟩ w149 => scrutinyref14_Parse_K6 l29 l32 l35 l38 l41 c150 c151 = some r ∧ Sat (box b15 28 [(sl (none, 0, 0)), (sl (none, 0, 0)), (sl (none, 0, 0)), (sl (none, 0, 0)), (sl (none, 0, 0))] :: box b24 86 [(sl v19), (.int .i64 c28), (sl v30), (sl v33), (sl v36), (sl v39), (sl v42), (.int .i64 c150), (.int .i64 c151)] :: osl (RP (RI .i64) (RP RS (RP (RI .i64) (RI .i64)))) 88 (sl v19) r17.1 R20 :: osl RS 9 (sl v30) l29 R31 :: osl (RP (RI .i64) (RI .i64)) 72 (sl v33) l32 R34 :: osl (RI .i64) 3 (sl v36) l35 R37 :: osl RS 9 (sl v39) l38 R40 :: osl (RP (RI .i64) (RP RExpr (RSl (RP (RI .i64) RExpr)))) 60 (sl v42) l41 R43 :: Φ) w149) (fun ⟨c150, c151⟩ => [(2, true, (.pointer (some ⟨b15, 0, none⟩))), (8, true, (.pointer (some ⟨b24, 0, none⟩)))]) ?_ ?_
   ·
    rintro ⟨c150, c151⟩ w149 ⟨hm, hs⟩
    unfold scrutinyref14_Parse_K6 at hm
    refine WC_seq <| WC_seq <| WC_region ?_
    refine Wo (Run_fieldAddr fo86_3 (O rfl)) rfl <| Wo (Run_load1 (v := (.int .i64 c150)) Tryd.underlying3 rfl (O rfl) (fun _ => (hs.box (i := 1) rfl).part 7 rfl)) rfl <| Wo (Run_neI (O rfl) Opd.c) rfl <| ?_
    refine WL_nil <| At_then ?_
    refine WC_cond (O rfl) (fun hc152 => ?_) (fun hc152 => ?_)
    ·
     replace hm := bif_t hc152 hm
     refine WC_seq ?_
     refine WC_region_mixed [0, 0, 2, 0, 8, 1, 39, 127] (.q 0 0 (.q 1 1 (.q 2 3 (.q 3 7 (.q 4 15 (.l 5 31 (.q 6 63 (.q 7 127 .nil)))))))) (by kernel_rfl) (by kernel_rfl) ?_
     intro w153 hx154
     replace hs := hs.ext hx154
     refine WD_pure (fun _ => (Run_build (parts := []) (v := (.agg #[(sl (none, 0, 0)), (sl (none, 0, 0)), (sl (none, 0, 0)), (sl (none, 0, 0)), (sl (none, 0, 0))])) .nil (fun _ => by kernel_rfl))) rfl rfl rfl rfl <| WD_pure (fun _ => (Run_fieldAddr fo86_3 (O rfl))) rfl rfl rfl rfl <| WD_op (fun w => CellsAt w ⟨b24, 7, none⟩ [(.int .i64 c150)]) ((hs.box (i := 1) rfl).part 7 rfl) (fun _ hJ => (Run_load1 (v := (.int .i64 c150)) Tryd.underlying3 rfl (O rfl) (fun _ => hJ))) rfl rfl rfl rfl <| WD_pure (fun _ => (Run_fieldAddr fo86_4 (O rfl))) rfl rfl rfl rfl <| WD_op (fun w => CellsAt w ⟨b24, 8, none⟩ [(.int .i64 c151)]) ((hs.box (i := 1) rfl).part 8 rfl) (fun _ hJ => (Run_load1 (v := (.int .i64 c151)) Tryd.underlying3 rfl (O rfl) (fun _ => hJ))) rfl rfl rfl rfl <| ?_
     refine WD_loud (pend' := [(4, fun w => CellsAt w ⟨b24, 8, none⟩ [(.int .i64 c151)]), (2, fun w => CellsAt w ⟨b24, 7, none⟩ [(.int .i64 c150)])]) rfl (by kernel_rfl) ?_
     refine WS_store (us := [(sl (none, 0, 0)), (sl (none, 0, 0)), (sl (none, 0, 0)), (sl (none, 0, 0)), (sl (none, 0, 0))]) (vs' := [(sl (none, 0, 0)), (sl (none, 0, 0)), (sl (none, 0, 0)), (sl (none, 0, 0)), (sl (none, 0, 0))]) hs 0 rfl ti28 (O rfl) (O rfl) rfl rfl rfl rfl rfl ?_
     intro w155 hs
     replace hs := Sat.n8 (Γ := Φ) hs rfl
     refine WL_nil ?_
     refine At_QK (allJ_cons ((hs.box (i := 1) rfl).part 8 rfl) (allJ_cons ((hs.box (i := 1) rfl).part 7 rfl) allJ_nil)) ?_
     refine WD_pure (fun _ => (Run_assign (O rfl))) rfl rfl rfl rfl <| WD_pure (fun _ => (Run_assign (O rfl))) rfl rfl rfl rfl <| ?_
     refine WD_nil ?_
     refine At_then ?_
     refine WC_ret ?_
     refine At_then_ret <| ?_
     refine At_r3 rfl (ResIs.cA (vs := [(sl (none, 0, 0)), (sl (none, 0, 0)), (sl (none, 0, 0)), (sl (none, 0, 0)), (sl (none, 0, 0))]) rfl Tryd.underlying28 rfl ti28 ((hs.box (i := 0) rfl).part 0 rfl) rfl) (ResIs.t rfl) (ResIs.t rfl) ?_
     replace hs := hs.addNil RS 9
     replace hs := hs.addNil (RP (RI .i64) (RI .i64)) 72
     replace hs := hs.addNil (RI .i64) 3
     replace hs := hs.addNil RS 9
     replace hs := hs.addNil (RP (RI .i64) (RP RExpr (RSl (RP (RI .i64) RExpr)))) 60
     cases hm
     exact ⟨(none, 0, 0), [], (none, 0, 0), [], (none, 0, 0), [], (none, 0, 0), [], (none, 0, 0), [], rfl, (hs.re 13 [4, 3, 2, 1, 0] rfl)⟩
    ·
     replace hm := bif_f hc152 hm
     refine WC_skip ?_
     refine At_then <| WC_seq <| WC_region ?_
     refine Wo (Run_fieldAddr fo86_2 (O rfl)) rfl <| Wo (Run_loadA (vs := [(sl v30), (sl v33), (sl v36), (sl v39), (sl v42)]) Tryd.underlying28 rfl ti28 (O rfl) (fun _ => (hs.box (i := 1) rfl).part 2 rfl) rfl) rfl <| ?_
     refine WS_store (us := [(sl v30), (sl v33), (sl v36), (sl v39), (sl v42)]) (vs' := [(sl v30), (sl v33), (sl v36), (sl v39), (sl v42)]) hs 0 rfl ti28 (O rfl) (O rfl) rfl rfl rfl rfl rfl ?_
     intro w156 hs
     replace hs := Sat.n8 (Γ := Φ) hs rfl
     refine Wo (Run_assign Opd.c) rfl <| Wo (Run_assign Opd.c) rfl <| ?_
     refine WL_nil <| At_then ?_
     refine WC_ret ?_
     refine At_r3 rfl (ResIs.cA (vs := [(sl v30), (sl v33), (sl v36), (sl v39), (sl v42)]) rfl Tryd.underlying28 rfl ti28 ((hs.box (i := 0) rfl).part 0 rfl) rfl) (ResIs.t rfl) (ResIs.t rfl) ?_
     cases hm
     exact ⟨v30, R31, v33, R34, v36, R37, v39, R40, v42, R43, rfl, (hs.re 8 [3, 4, 5, 6, 7] rfl)⟩
   ·
    refine WC_seq <| WC_region ?_
    refine Wo (Run_fieldAddr fo86_2 (O rfl)) rfl <| Wo (Run_fieldAddr fo28_0 (O rfl)) rfl <| Wo (Run_load1 (v := (sl v30)) Tryd.underlying24 rfl (O rfl) (fun _ => (hs.box (i := 1) rfl).part 2 rfl)) rfl <| Wo (Run_lenSlG Tryd.underlying24 (O rfl) (fun _ => (hs.own (i := 3) rfl).len)) rfl <| Wo (Run_eqI (O rfl) Opd.c) rfl <| ?_
    refine WL_nil <| At_then ?_
    refine WC_cond (O rfl) (fun hc157 => ?_) (fun hc157 => ?_)
    ·
     replace hm := bif_t hc157 hm
     refine WC_region ?_
     obtain ⟨r158, hr159, hm⟩ := bind_some' hm
     refine WL_call (f := 38) (first := []) (cap := []) (xs := [(.tmp 8)]) (vs := [(.pointer (some ⟨b24, 0, none⟩))]) (args := [(.pointer (some ⟨b24, 0, none⟩))]) Tryd.call38 Opd.f (.cons (O rfl) .nil) rfl rfl (scrutinyref14_look_here_ok (hs.re 8 [1, 2, 3, 4, 5, 6, 7, 0] rfl) hr159) ?_
     rintro _ w160 ⟨rfl, hs⟩
     replace hs := Sat.n8 (Γ := Φ) hs rfl
     obtain ⟨r161, hr162, hm⟩ := bind_some' hm
     refine WL_call (f := 37) (first := []) (cap := []) (xs := [(.tmp 8), (.const (.int .i64 2)), (.tmp 85)]) (vs := [(.pointer (some ⟨b24, 0, none⟩)), (.int .i64 2), (.int .i64 r158)]) (args := [(.pointer (some ⟨b24, 0, none⟩)), (.int .i64 2), (.int .i64 r158)]) Tryd.call37 Opd.f (.cons (O rfl) (.cons Opd.c (.cons (O rfl) .nil))) rfl rfl (scrutinyref14_look_fail_ok (hs.re 8 [0, 1, 2, 3, 4, 5, 6, 7] rfl) hr162) ?_
     rintro _ w163 ⟨rfl, hs⟩
     replace hs := Sat.n8 (Γ := Φ) hs rfl
     refine WL_nil ?_
     exact At_join (r161.1, r161.2) ⟨hm, (hs.re 8 [7, 0, 1, 2, 3, 4, 5, 6] rfl)⟩ rfl
    ·
     replace hm := bif_f hc157 hm
     refine WC_skip ?_
     exact At_join (c44, c45) ⟨hm, (hs.re 8 [0, 1, 2, 3, 4, 5, 6, 7] rfl)⟩ rfl
set_option maxRecDepth 100000 in
set_option maxHeartbeats 4000000 in
theorem scrutinyref15_Of_ok {Φ : Ctx} {w : World} {text : Str} {r : (((List Str) × (List (Int × Int)) × (List Int) × (List Str) × (List (Int × Ex × (List (Int × Ex))))) × Bool)} (hs : Sat (Φ) w) (hm : scrutinyref15_Of text = some r) :
  CallsR Tryd.prog 10 [(S text)] w (fun v w' => ∃ v3 : SLV, ∃ R4 : List Nat, ∃ v5 : SLV, ∃ R6 : List Nat, ∃ v7 : SLV, ∃ R8 : List Nat, ∃ v9 : SLV, ∃ R10 : List Nat, ∃ v11 : SLV, ∃ R12 : List Nat, v = (.tuple #[(.agg #[(sl v3), (sl v5), (sl v7), (sl v9), (sl v11)]), (.bool r.2)]) ∧ Sat (osl RS 9 (sl v3) r.1.1 R4 :: osl (RP (RI .i64) (RI .i64)) 72 (sl v5) r.1.2.1 R6 :: osl (RI .i64) 3 (sl v7) r.1.2.2.1 R8 :: osl RS 9 (sl v9) r.1.2.2.2.1 R10 :: osl (RP (RI .i64) (RP RExpr (RSl (RP (RI .i64) RExpr)))) 60 (sl v11) r.1.2.2.2.2 R12 :: Φ) w') := by
 refine CallsX_enter Tryd.func10 rfl Tryd.ntmps10 rfl ?_
 unfold scrutinyref15_Of at hm
 refine WC_seq <| WC_region ?_
 refine WS_alloc (zs := [(sl (none, 0, 0)), (sl (none, 0, 0)), (sl (none, 0, 0)), (sl (none, 0, 0)), (sl (none, 0, 0))]) hs ti28 rfl rfl ?_
 intro b14 w15 hs
 replace hs := Sat.n1 (Γ := Φ) hs rfl
 refine Wo (Run_assign Opd.c) rfl <| ?_
 refine WL_nil <| At_then <| WC_seq <| WC_seq <| WC_region ?_
 refine Wo (Run_move (O rfl)) rfl <| Wo (Run_lenS Tryd.underlying9 (O rfl)) rfl <| Wo (Run_gtI (O rfl) Opd.c) rfl <| ?_
 refine WL_nil <| At_then ?_
 refine WC_cond (O rfl) (fun hc16 => ?_) (fun hc16 => ?_)
 ·
  replace hm := bif_t hc16 hm
  refine WC_seq <| WC_region ?_
  refine Wo (Run_build (parts := []) (v := (.agg #[(sl (none, 0, 0)), (sl (none, 0, 0)), (sl (none, 0, 0)), (sl (none, 0, 0)), (sl (none, 0, 0))])) .nil (fun _ => by kernel_rfl)) rfl <| ?_
  refine WS_store (us := [(sl (none, 0, 0)), (sl (none, 0, 0)), (sl (none, 0, 0)), (sl (none, 0, 0)), (sl (none, 0, 0))]) (vs' := [(sl (none, 0, 0)), (sl (none, 0, 0)), (sl (none, 0, 0)), (sl (none, 0, 0)), (sl (none, 0, 0))]) hs 0 rfl ti28 (O rfl) (O rfl) rfl rfl rfl rfl rfl ?_
  intro w17 hs
  replace hs := Sat.n1 (Γ := Φ) hs rfl
  refine Wo (Run_assign Opd.c) rfl <| ?_
  refine WL_nil <| At_then ?_
  refine WC_ret ?_
  refine At_then_ret <| ?_
  refine At_r2 rfl (ResIs.cA (vs := [(sl (none, 0, 0)), (sl (none, 0, 0)), (sl (none, 0, 0)), (sl (none, 0, 0)), (sl (none, 0, 0))]) rfl Tryd.underlying28 rfl ti28 ((hs.box (i := 0) rfl).part 0 rfl) rfl) (ResIs.t rfl) ?_
  replace hs := hs.addNil RS 9
  replace hs := hs.addNil (RP (RI .i64) (RI .i64)) 72
  replace hs := hs.addNil (RI .i64) 3
  replace hs := hs.addNil RS 9
  replace hs := hs.addNil (RP (RI .i64) (RP RExpr (RSl (RP (RI .i64) RExpr)))) 60
  cases hm
  exact ⟨(none, 0, 0), [], (none, 0, 0), [], (none, 0, 0), [], (none, 0, 0), [], (none, 0, 0), [], rfl, (hs.re 6 [4, 3, 2, 1, 0] rfl)⟩
 ·
  replace hm := bif_f hc16 hm
  refine WC_skip ?_
  refine At_then <| WC_seq <| WC_region ?_
  refine Wo (Run_move (O rfl)) rfl <| ?_
  obtain ⟨r18, hr19, hm⟩ := bind_some' hm
  refine WL_call (f := 25) (first := []) (cap := []) (xs := [(.tmp 12)]) (vs := [(S text)]) (args := [(S text)]) Tryd.call25 Opd.f (.cons (O rfl) .nil) rfl rfl (scrutinyref14_Parse_ok (hs.re 1 [0] rfl) hr19) ?_
  rintro _ w30 ⟨v20, R21, v22, R23, v24, R25, v26, R27, v28, R29, rfl, hs⟩
  replace hs := Sat.n6 (Γ := Φ) hs rfl
  refine Wo (Run_move (O rfl)) rfl <| Wo (Run_extract (vs := [(.agg #[(sl v20), (sl v22), (sl v24), (sl v26), (sl v28)]), (.int .i64 r18.2.1), (.int .i64 r18.2.2)]) (O rfl) rfl) rfl <| Wo (Run_extract (vs := [(.agg #[(sl v20), (sl v22), (sl v24), (sl v26), (sl v28)]), (.int .i64 r18.2.1), (.int .i64 r18.2.2)]) (O rfl) rfl) rfl <| Wo (Run_extract (vs := [(.agg #[(sl v20), (sl v22), (sl v24), (sl v26), (sl v28)]), (.int .i64 r18.2.1), (.int .i64 r18.2.2)]) (O rfl) rfl) rfl <| ?_
  refine WS_alloc (zs := [(sl (none, 0, 0)), (sl (none, 0, 0)), (sl (none, 0, 0)), (sl (none, 0, 0)), (sl (none, 0, 0))]) hs ti28 rfl rfl ?_
  intro b31 w32 hs
  replace hs := Sat.n7 (Γ := Φ) hs rfl
  refine WS_store (us := [(sl v20), (sl v22), (sl v24), (sl v26), (sl v28)]) (vs' := [(sl v20), (sl v22), (sl v24), (sl v26), (sl v28)]) hs 0 rfl ti28 (O rfl) (O rfl) rfl rfl rfl rfl rfl ?_
  intro w33 hs
  replace hs := Sat.n7 (Γ := Φ) hs rfl
  refine Wo (Run_assign (O rfl)) rfl <| Wo (Run_assign (O rfl)) rfl <| ?_
  refine WL_nil <| At_then <| WC_seq <| WC_region ?_
  refine Wo (Run_loadA (vs := [(sl v20), (sl v22), (sl v24), (sl v26), (sl v28)]) Tryd.underlying28 rfl ti28 (O rfl) (fun _ => (hs.box (i := 0) rfl).part 0 rfl) rfl) rfl <| Wo (Run_move (O rfl)) rfl <| Wo (Run_eqI (O rfl) Opd.c) rfl <| ?_
  refine WS_store (us := [(sl v20), (sl v22), (sl v24), (sl v26), (sl v28)]) (vs' := [(sl v20), (sl v22), (sl v24), (sl v26), (sl v28)]) hs 6 rfl ti28 (O rfl) (O rfl) rfl rfl rfl rfl rfl ?_
  intro w34 hs
  replace hs := Sat.n7 (Γ := Φ) hs rfl
  refine Wo (Run_assign (O rfl)) rfl <| ?_
  refine WL_nil <| At_then ?_
  refine WC_ret ?_
  refine At_r2 rfl (ResIs.cA (vs := [(sl v20), (sl v22), (sl v24), (sl v26), (sl v28)]) rfl Tryd.underlying28 rfl ti28 ((hs.box (i := 6) rfl).part 0 rfl) rfl) (ResIs.t rfl) ?_
  cases hm
  exact ⟨v20, R21, v22, R23, v24, R25, v26, R27, v28, R29, rfl, (hs.re 7 [1, 2, 3, 4, 5] rfl)⟩
set_option maxRecDepth 100000 in
set_option maxHeartbeats 4000000 in
theorem slices_Clone_int_int_ok {Φ : Ctx} {w : World} {s : (List Int)} {v1 : SLV} {r : (List Int)} (hs : Sat (imm (RSl (RI .i64)) [sl v1] s :: Φ) w) (hm : slices_Clone_int_int s = some r) :
  CallsR Tryd.prog 27 [(sl v1)] w (fun v w' => ∃ v3 : SLV, ∃ R4 : List Nat, v = (sl v3) ∧ Sat (osl (RI .i64) 3 (sl v3) r R4 :: Φ) w') := by
 refine CallsX_enter Tryd.func27 rfl Tryd.ntmps27 rfl ?_
 unfold slices_Clone_int_int at hm
 refine WC_seq <| WC_region ?_
 refine Wo (Run_assign Opd.c) rfl <| ?_
 refine WL_nil <| At_then <| WC_seq <| WC_seq <| WC_region ?_
 refine Wo (Run_move (O rfl)) rfl <| ?_
 rcases srd_nilcase (hs.sl (i := 0) rfl) with ⟨rfl, rfl⟩ | hv5
 ·
  replace hm : (some []) = some r := hm
  refine Wo (Run.eqB (Run_eqNilSl Tryd.underlying22 (O rfl) ((hs.sl (i := 0) rfl).len) Opd.c) rfl) rfl <| ?_
  refine WL_nil <| At_then ?_
  refine WC_cond (O rfl) (fun _ => ?_) (fun h => by cases h)
  refine WC_seq <| WC_region ?_
  refine Wo (Run_assign Opd.c) rfl <| ?_
  refine WL_nil <| At_then ?_
  refine WC_ret ?_
  refine At_then_ret <| ?_
  refine At_r1 rfl (ResIs.t rfl) ?_
  replace hs := hs.addNil (RI .i64) 3
  cases hm
  exact ⟨(none, 0, 0), [], rfl, (hs.re 2 [0] rfl)⟩
 ·
  refine Wo (Run.eqB (Run_eqNilSl Tryd.underlying22 (O rfl) ((hs.sl (i := 0) rfl).len) Opd.c) hv5) rfl <| ?_
  refine WL_nil <| At_then ?_
  refine WC_cond (O rfl) (fun h => by cases h) (fun _ => ?_)
  refine WC_skip ?_
  refine At_then <| WC_seq <| WC_region ?_
  refine WS_lit0 (A := (RI .i64)) hs Tryd.underlying22 ti3 rfl ?_
  intro b6 w7 hs
  replace hs := Sat.n2 (Γ := Φ) hs rfl
  refine Wo (Run_move (O rfl)) rfl <| ?_
  obtain ⟨k8, hm⟩ := chk_some hm
  refine WS_append (A := (RI .i64)) hs 0 rfl Tryd.underlying22 ti3 rfl rfl (O rfl) (O rfl) (hs.sl (i := 1) rfl) k8 rfl ?_
  intro v9 R10 w11 hs
  replace hs := Sat.n2 (Γ := Φ) hs rfl
  refine Wo (Run_assign (O rfl)) rfl <| ?_
  refine WL_nil <| At_then ?_
  refine WC_ret ?_
  refine At_r1 rfl (ResIs.t rfl) ?_
  cases hm
  exact ⟨v9, R10, rfl, (hs.re 2 [0] rfl)⟩
set_option maxRecDepth 100000 in
set_option maxHeartbeats 4000000 in
theorem strings_Builder_copyCheck_ok {Φ : Ctx} {w : World} {addr : Bool} {buf : (List Int)} {b : Nat} {v2 : SLV} {R : List Nat} {r : Bool} (hs : Sat (box b 109 [(selfP addr b), (sl v2)] :: osl (RI .u8) 5 (sl v2) buf R :: Φ) w) (hm : strings_Builder_copyCheck addr buf = some r) :
  CallsR Tryd.prog 60 [(.pointer (some ⟨b, 0, none⟩))] w (fun v w' => v = (.tuple #[]) ∧ Sat (box b 109 [(selfP r b), (sl v2)] :: osl (RI .u8) 5 (sl v2) buf R :: Φ) w') := by
 refine CallsX_enter Tryd.func60 rfl Tryd.ntmps60 rfl ?_
 unfold strings_Builder_copyCheck at hm
 refine WC_seq <| WC_region ?_
 refine Wo (Run_move (O rfl)) rfl <| Wo (Run_nilP (O rfl)) rfl <| Wo (Run_fieldAddr fo109_0 (O rfl)) rfl <| Wo (Run_load1 (v := (selfP addr b)) Tryd.underlying106 rfl (O rfl) (fun _ => (hs.box (i := 0) rfl).part 0 rfl)) rfl <| Wo (Run_eqSelf Tryd.underlying106 (O rfl) Opd.c) rfl <| ?_
 refine WL_nil <| At_then ?_
 refine WC_cond (O rfl) (fun hc3 => ?_) (fun hc3 => ?_)
 ·
  replace hm := bif_t hc3 hm
  refine WC_region ?_
  refine Wo (Run_move (O rfl)) rfl <| Wo (Run_move (O rfl)) rfl <| Wo (Run_toUnsafe Tryd.underlying106 Tryd.underlying125 ti109 rfl (O rfl) (hs.box (i := 0) rfl) rfl) rfl <| Wo (Run_same same63 (O rfl)) rfl <| Wo (Run_fromUnsafe Tryd.underlying125 Tryd.underlying106 ti109 (O rfl) (hs.box (i := 0) rfl) (by kernel_rfl)) rfl <| Wo (Run_nilP (O rfl)) rfl <| Wo (Run_fieldAddr fo109_0 (O rfl)) rfl <| ?_
  refine WS_store (us := [(.pointer (some ⟨b, 0, none⟩))]) (vs' := [(selfP true b), (sl v2)]) hs 0 rfl ti106 (O rfl) (O rfl) rfl rfl rfl rfl rfl ?_
  intro w4 hs
  replace hs := Sat.n2 (Γ := Φ) hs rfl
  refine WL_nil ?_
  refine At_e0 rfl  ?_
  cases hm
  exact ⟨rfl, (hs.re 2 [0, 1] rfl)⟩
 ·
  replace hm := bif_f hc3 hm
  refine WC_seq <| WC_region ?_
  refine Wo (Run_move (O rfl)) rfl <| Wo (Run_nilP (O rfl)) rfl <| Wo (Run_fieldAddr fo109_0 (O rfl)) rfl <| Wo (Run_load1 (v := (selfP addr b)) Tryd.underlying106 rfl (O rfl) (fun _ => (hs.box (i := 0) rfl).part 0 rfl)) rfl <| Wo (Run_move (O rfl)) rfl <| Wo (Run_neSelf Tryd.underlying106 ti109 (O rfl) (O rfl)) rfl <| ?_
  refine WL_nil <| At_then ?_
  refine WC_cond (O rfl) (fun hc5 => ?_) (fun hc5 => ?_)
  ·
   replace hm := bif_t hc5 hm
   cases hm
  ·
   replace hm := bif_f hc5 hm
   refine WC_skip ?_
   refine At_e0 rfl  ?_
   cases hm
   exact ⟨rfl, (hs.re 2 [0, 1] rfl)⟩
end Go.Proofs.YtjdabjpjafkogaaDoor
namespace Go.Proofs.YtjdabjpjafkogaaDoor
open Go.Proofs
set_option maxRecDepth 100000 in
set_option maxHeartbeats 4000000 in
theorem strings_Builder_WriteString_ok {Φ : Ctx} {w : World} {s : Str} {addr : Bool} {buf : (List Int)} {b : Nat} {v2 : SLV} {R : List Nat} {r : (Int × Bool × (List Int))} (hs : Sat (box b 109 [(selfP addr b), (sl v2)] :: osl (RI .u8) 5 (sl v2) buf R :: Φ) w) (hm : strings_Builder_WriteString s addr buf = some r) :
  CallsR Tryd.prog 54 [(.pointer (some ⟨b, 0, none⟩)), (S s)] w (fun v w' => ∃ v13 : SLV, ∃ R14 : List Nat, v = (.tuple #[(.int .i64 r.1), .nilIface]) ∧ Sat (box b 109 [(selfP r.2.1 b), (sl v13)] :: osl (RI .u8) 5 (sl v13) r.2.2 R14 :: Φ) w') := by
 refine CallsX_enter Tryd.func54 rfl Tryd.ntmps54 rfl ?_
 unfold strings_Builder_WriteString at hm
 refine WC_seq <| WC_region ?_
 refine Wo (Run_assign Opd.c) rfl <| Wo (Run_assign Opd.c) rfl <| ?_
 refine WL_nil <| At_then <| WC_seq <| WC_region ?_
 refine Wo (Run_move (O rfl)) rfl <| ?_
 obtain ⟨r1, hr2, hm⟩ := bind_some' hm
 refine WL_call (f := 60) (first := []) (cap := []) (xs := [(.tmp 6)]) (vs := [(.pointer (some ⟨b, 0, none⟩))]) (args := [(.pointer (some ⟨b, 0, none⟩))]) Tryd.call60 Opd.f (.cons (O rfl) .nil) rfl rfl (strings_Builder_copyCheck_ok (hs.re 2 [0, 1] rfl) hr2) ?_
 rintro _ w3 ⟨rfl, hs⟩
 replace hs := Sat.n2 (Γ := Φ) hs rfl
 refine WL_nil <| At_then <| WC_seq <| WC_region ?_
 refine Wo (Run_move (O rfl)) rfl <| Wo (Run_move (O rfl)) rfl <| Wo (Run_nilP (O rfl)) rfl <| Wo (Run_fieldAddr fo109_1 (O rfl)) rfl <| Wo (Run_load1 (v := (sl v2)) Tryd.underlying107 rfl (O rfl) (fun _ => (hs.box (i := 0) rfl).part 1 rfl)) rfl <| Wo (Run_move (O rfl)) rfl <| ?_
 obtain ⟨k4, hm⟩ := chk_some hm
 refine WS_appendS hs 1 rfl Tryd.underlying107 Tryd.underlying9 ti5 (O rfl) (O rfl) k4 rfl ?_
 intro v5 R6 w7 hs
 replace hs := Sat.n2 (Γ := Φ) hs rfl
 refine Wo (Run_nilP (O rfl)) rfl <| Wo (Run_fieldAddr fo109_1 (O rfl)) rfl <| ?_
 refine WS_store (us := [(sl v5)]) (vs' := [(selfP r1 b), (sl v5)]) hs 0 rfl ti107 (O rfl) (O rfl) rfl rfl rfl rfl rfl ?_
 intro w8 hs
 replace hs := Sat.n2 (Γ := Φ) hs rfl
 refine WL_nil <| At_then <| WC_seq <| WC_region ?_
 refine Wo (Run_move (O rfl)) rfl <| Wo (Run_lenS Tryd.underlying9 (O rfl)) rfl <| Wo (Run_assign (O rfl)) rfl <| Wo (Run_assign Opd.c) rfl <| ?_
 refine WL_nil <| At_then ?_
 refine WC_ret ?_
 refine At_r2 rfl (ResIs.t rfl) (ResIs.t rfl) ?_
 cases hm
 exact ⟨v5, R6, rfl, (hs.re 2 [0, 1] rfl)⟩
set_option maxRecDepth 100000 in
set_option maxHeartbeats 4000000 in
theorem strings_Builder_WriteByte_ok {Φ : Ctx} {w : World} {c : Int} {addr : Bool} {buf : (List Int)} {b : Nat} {v2 : SLV} {R : List Nat} {r : (Bool × (List Int))} (hs : Sat (box b 109 [(selfP addr b), (sl v2)] :: osl (RI .u8) 5 (sl v2) buf R :: Φ) w) (hm : strings_Builder_WriteByte c addr buf = some r) :
  CallsR Tryd.prog 56 [(.pointer (some ⟨b, 0, none⟩)), (.int .u8 c)] w (fun v w' => ∃ v14 : SLV, ∃ R15 : List Nat, v = .nilIface ∧ Sat (box b 109 [(selfP r.1 b), (sl v14)] :: osl (RI .u8) 5 (sl v14) r.2 R15 :: Φ) w') := by
 refine CallsX_enter Tryd.func56 rfl Tryd.ntmps56 rfl ?_
 unfold strings_Builder_WriteByte at hm
 refine WC_seq <| WC_region ?_
 refine Wo (Run_assign Opd.c) rfl <| ?_
 refine WL_nil <| At_then <| WC_seq <| WC_region ?_
 refine Wo (Run_move (O rfl)) rfl <| ?_
 obtain ⟨r1, hr2, hm⟩ := bind_some' hm
 refine WL_call (f := 60) (first := []) (cap := []) (xs := [(.tmp 5)]) (vs := [(.pointer (some ⟨b, 0, none⟩))]) (args := [(.pointer (some ⟨b, 0, none⟩))]) Tryd.call60 Opd.f (.cons (O rfl) .nil) rfl rfl (strings_Builder_copyCheck_ok (hs.re 2 [0, 1] rfl) hr2) ?_
 rintro _ w3 ⟨rfl, hs⟩
 replace hs := Sat.n2 (Γ := Φ) hs rfl
 refine WL_nil <| At_then <| WC_seq <| WC_region ?_
 refine Wo (Run_move (O rfl)) rfl <| Wo (Run_move (O rfl)) rfl <| Wo (Run_nilP (O rfl)) rfl <| Wo (Run_fieldAddr fo109_1 (O rfl)) rfl <| Wo (Run_load1 (v := (sl v2)) Tryd.underlying107 rfl (O rfl) (fun _ => (hs.box (i := 0) rfl).part 1 rfl)) rfl <| Wo (Run_move (O rfl)) rfl <| ?_
 refine WS_lit (A := (RI .u8)) (xs := [c]) (zs := [(.int .u8 0)]) (cells := [(.int .u8 c)]) (parts := [(0, (.tmp 12))]) hs Tryd.underlying107 ti5 rfl rfl rfl (.cons (O rfl) .nil) (by kernel_rfl) rfl (ARd.cons (A := (RI .u8)) (c := [(.int .u8 c)]) (x := c) rfl ARd.nil) rfl ?_
 intro b4 w5 hs
 replace hs := Sat.n3 (Γ := Φ) hs rfl
 replace hs := hs.freeze (i := 0) rfl
 obtain ⟨k6, hm⟩ := chk_some hm
 refine WS_append (A := (RI .u8)) hs 2 rfl Tryd.underlying107 ti5 rfl rfl (O rfl) (O rfl) (hs.sl (i := 0) rfl) k6 rfl ?_
 intro v7 R8 w9 hs
 replace hs := Sat.n3 (Γ := Φ) hs rfl
 refine Wo (Run_nilP (O rfl)) rfl <| Wo (Run_fieldAddr fo109_1 (O rfl)) rfl <| ?_
 refine WS_store (us := [(sl v7)]) (vs' := [(selfP r1 b), (sl v7)]) hs 1 rfl ti107 (O rfl) (O rfl) rfl rfl rfl rfl rfl ?_
 intro w10 hs
 replace hs := Sat.n3 (Γ := Φ) hs rfl
 refine WL_nil <| At_then <| WC_seq <| WC_region ?_
 refine Wo (Run_assign Opd.c) rfl <| ?_
 refine WL_nil <| At_then ?_
 refine WC_ret ?_
 refine At_r1 rfl (ResIs.t rfl) ?_
 cases hm
 exact ⟨v7, R8, rfl, (hs.re 3 [1, 2] rfl)⟩
set_option maxRecDepth 100000 in
set_option maxHeartbeats 4000000 in
theorem strings_Builder_String_ok {Φ : Ctx} {w : World} {addr : Bool} {buf : (List Int)} {b : Nat} {v2 : SLV} {R : List Nat} {r : Str} (hs : Sat (box b 109 [(selfP addr b), (sl v2)] :: osl (RI .u8) 5 (sl v2) buf R :: Φ) w) (hm : strings_Builder_String addr buf = some r) :
  CallsR Tryd.prog 57 [(.pointer (some ⟨b, 0, none⟩))] w (fun v w' => v = (S r) ∧ Sat (box b 109 [(selfP addr b), (sl v2)] :: imm (RSl (RI .u8)) [sl v2] buf :: Φ) w') := by
 refine CallsX_enter Tryd.func57 rfl Tryd.ntmps57 rfl ?_
 unfold strings_Builder_String at hm
 refine WC_seq <| WC_region ?_
 refine Wo (Run_assign Opd.c) rfl <| ?_
 refine WL_nil <| At_then <| WC_seq ?_
 refine WC_region_mixed [0, 1, 2, 4, 8, 0, 32, 64, 128, 256, 528, 2047] (.q 0 0 (.q 1 1 (.q 2 3 (.q 3 7 (.q 4 15 (.q 5 31 (.q 6 63 (.q 7 127 (.q 8 255 (.q 9 511 (.l 10 1023 (.q 11 2047 .nil)))))))))))) (by kernel_rfl) (by kernel_rfl) ?_
 intro w3 hx4
 replace hs := hs.ext hx4
 refine WD_pure (fun _ => (Run_move (O rfl))) rfl rfl rfl rfl <| WD_pure (fun _ => (Run_nilP (O rfl))) rfl rfl rfl rfl <| WD_pure (fun _ => (Run_fieldAddr fo109_1 (O rfl))) rfl rfl rfl rfl <| WD_op (fun w => CellsAt w ⟨b, 1, none⟩ [(sl v2)]) ((hs.box (i := 0) rfl).part 1 rfl) (fun _ hJ => (Run_load1 (v := (sl v2)) Tryd.underlying107 rfl (O rfl) (fun _ => hJ))) rfl rfl rfl rfl <| ?_
 obtain ⟨k5, hm⟩ := chk_some hm
 have hr6 := (hs.own (i := 1) rfl).roomy k5
 refine WD_pure (fun _ => (Run_sdata (O rfl) (fun _ => hr6))) rfl rfl rfl rfl <| WD_pure (fun _ => (Run_move (O rfl))) rfl rfl rfl rfl <| WD_pure (fun _ => (Run_nilP (O rfl))) rfl rfl rfl rfl <| WD_pure (fun _ => (Run_fieldAddr fo109_1 (O rfl))) rfl rfl rfl rfl <| WD_op (fun w => CellsAt w ⟨b, 1, none⟩ [(sl v2)]) ((hs.box (i := 0) rfl).part 1 rfl) (fun _ hJ => (Run_load1 (v := (sl v2)) Tryd.underlying107 rfl (O rfl) (fun _ => hJ))) rfl rfl rfl rfl <| WD_pure (fun _ => (Run_lenSlG Tryd.underlying107 (O rfl) (fun _ => (hs.own (i := 1) rfl).len))) rfl rfl rfl rfl <| ?_
 refine WD_loud (pend' := [(8, fun w => CellsAt w ⟨b, 1, none⟩ [(sl v2)]), (3, fun w => CellsAt w ⟨b, 1, none⟩ [(sl v2)])]) rfl (by kernel_rfl) ?_
 refine WS_ustr (v := v2) hs 1 rfl Tryd.underlying121 (by kernel_rfl) (O rfl) (O rfl) k5 rfl ?_
 intro w7 hs
 replace hs := Sat.n2 (Γ := Φ) hs rfl
 refine WL_nil ?_
 refine At_QK (allJ_cons ((hs.box (i := 0) rfl).part 1 rfl) (allJ_cons ((hs.box (i := 0) rfl).part 1 rfl) allJ_nil)) ?_
 refine WD_pure (fun _ => (Run_assign (O rfl))) rfl rfl rfl rfl <| ?_
 refine WD_nil ?_
 refine At_then ?_
 refine WC_ret ?_
 refine At_r1 rfl (ResIs.t rfl) ?_
 cases hm
 exact ⟨rfl, (hs.re 2 [0, 1] rfl)⟩
set_option maxRecDepth 100000 in
set_option maxHeartbeats 4000000 in
theorem step_text_ok {Φ : Ctx} {w : World} {v1 : (List Int)} {v2 : SLV} {r : Str} (hs : Sat (imm (RSl (RI .i64)) [sl v2] v1 :: gl 0 (pow10L.map (Value.int .u64)) :: Φ) w) (hm : step_text v1 = some r) :
  CallsR Tryd.prog 46 [(sl v2)] w (fun v w' => v = (S r) ∧ Sat (Φ) w') := by
 refine CallsX_enter Tryd.func46 rfl Tryd.ntmps46 rfl ?_
 unfold step_text at hm
 refine WC_seq <| WC_region ?_
 refine Wo (Run_assign Opd.c) rfl <| ?_
 refine WL_nil <| At_then <| WC_seq <| WC_region ?_
 refine WS_alloc (zs := [(.pointer none), (sl (none, 0, 0))]) hs ti109 rfl rfl ?_
 intro b3 w4 hs
 replace hs := Sat.n3 (Γ := Φ) hs rfl
 refine WL_nil <| At_then <| WC_seq <| WC_seq <| WC_region ?_
 refine Wo (Run_move (O rfl)) rfl <| Wo (Run_lenSlG Tryd.underlying22 (O rfl) (fun hg => (hs.sl (i := 1) rfl).len)) rfl <| Wo (Run_move Opd.c) rfl <| ?_
 refine WL_nil <| At_then ?_
 refine WC_block ?_
 replace hs := hs.addNil (RI .u8) 5
 refine WC_loop (σ := Bool × (List Int) × Int) (γ := SLV × List Nat) (F := (step_text_L1 v1)) (N := FUEL) (s0 := (false, [], 0)) (r := r) (fun ⟨c6, l7, t10⟩ ⟨v8, R9⟩ w5 => Sat (box b3 109 [(selfP c6 b3), (sl v8)] :: osl (RI .u8) 5 (sl v8) l7 R9 :: imm (RSl (RI .i64)) [sl v2] v1 :: gl 0 (pow10L.map (Value.int .u64)) :: Φ) w5) (fun ⟨c6, l7, t10⟩ ⟨v8, R9⟩ => [(3, true, (.pointer (some ⟨b3, 0, none⟩))), (6, true, (sl v2)), (7, true, (.int .i64 (List.length v1 : Int))), (8, true, (.int .i64 t10))]) hm ((none, 0, 0), []) (hs.re 4 [1, 0, 2, 3] rfl) rfl ?_
 rintro again11 ⟨c6, l7, t10⟩ ⟨v8, R9⟩ w5 hm hs
 unfold step_text_L1 at hm
 dsimp only at hm
 refine WC_seq <| WC_region ?_
 refine Wo (Run_ltI (O rfl) (O rfl)) rfl <| ?_
 refine WL_nil <| At_then <| WC_seq ?_
 refine WC_cond (O rfl) (fun hc12 => ?_) (fun hc12 => ?_)
 ·
  replace hm := bif_t hc12 hm
  refine WC_skip ?_
  refine At_then <| WC_seq ?_
  refine WC_block ?_
  refine WC_seq <| WC_region ?_
  obtain ⟨e13, he14, hm⟩ := bind_some' hm
  refine Wo (Run_idxAddr (p := (elA (sl v2) t10 1)) Tryd.underlying22 ti3 (O rfl) (O rfl) (fun hg => (SRd.atA (A := (RI .i64)) (v := (sl v2)) (hs.sl (i := 2) rfl) he14).1)) rfl <| Wo (Run_load1 (v := (.int .i64 e13)) Tryd.underlying3 rfl (O rfl) (fun hg => (SRd.cellsF (A := (RI .i64)) (v := (sl v2)) (hs.sl (i := 2) rfl) he14 (fun _ h => openT3 h)).sub 0 rfl)) rfl <| Wo (Run_assign (O rfl)) rfl <| ?_
  refine WL_nil <| At_then <| WC_seq <| WC_region ?_
  refine Wo (Run_move (O rfl)) rfl <| ?_
  obtain ⟨k15, hm⟩ := chk_some hm
  refine WL_call (f := 55) (first := []) (cap := []) (xs := [(.tmp 12)]) (vs := [(.int .i64 e13)]) (args := [(.int .i64 e13)]) Tryd.call55 Opd.f (.cons (O rfl) .nil) rfl rfl (itoa_ok hs (i := 3) rfl k15) ?_
  rintro _ w16 ⟨rfl, hs⟩
  obtain ⟨r17, hr18, hm⟩ := bind_some' hm
  refine WL_call (f := 54) (first := []) (cap := []) (xs := [(.tmp 3), (.tmp 13)]) (vs := [(.pointer (some ⟨b3, 0, none⟩)), (S (Lib.itoa e13))]) (args := [(.pointer (some ⟨b3, 0, none⟩)), (S (Lib.itoa e13))]) Tryd.call54 Opd.f (.cons (O rfl) (.cons (O rfl) .nil)) rfl rfl (strings_Builder_WriteString_ok (hs.re 4 [0, 1, 2, 3] rfl) hr18) ?_
  rintro _ w21 ⟨v19, R20, rfl, hs⟩
  replace hs := Sat.n4 (Γ := Φ) hs rfl
  refine WL_nil <| At_then <| WC_region ?_
  obtain ⟨r22, hr23, hm⟩ := bind_some' hm
  refine WL_call (f := 56) (first := []) (cap := []) (xs := [(.tmp 3), (.const (.int .u8 32))]) (vs := [(.pointer (some ⟨b3, 0, none⟩)), (.int .u8 32)]) (args := [(.pointer (some ⟨b3, 0, none⟩)), (.int .u8 32)]) Tryd.call56 Opd.f (.cons (O rfl) (.cons Opd.c .nil)) rfl rfl (strings_Builder_WriteByte_ok (hs.re 4 [0, 1, 2, 3] rfl) hr23) ?_
  rintro _ w26 ⟨v24, R25, rfl, hs⟩
  replace hs := Sat.n4 (Γ := Φ) hs rfl
  refine WL_nil ?_
  refine At_blk_normal ?_
  refine At_then <| WC_region ?_
  refine Wo (Run_add (O rfl) Opd.c) rfl <| Wo (Run_move (O rfl)) rfl <| ?_
  refine WL_nil ?_
  exact At_again (r22.1, r22.2, (IntKind.i64.wrap (t10 + 1))) (v24, R25) hm (hs.re 4 [0, 1, 2, 3] rfl) rfl
 ·
  replace hm := bif_f hc12 hm
  refine WC_exit ?_
  refine At_then_exit <| At_then_exit <| At_blk_here <| ?_
  refine At_then <| WC_seq <| WC_region ?_
  obtain ⟨r27, hr28, hm⟩ := bind_some' hm
  refine WL_call (f := 57) (first := []) (cap := []) (xs := [(.tmp 3)]) (vs := [(.pointer (some ⟨b3, 0, none⟩))]) (args := [(.pointer (some ⟨b3, 0, none⟩))]) Tryd.call57 Opd.f (.cons (O rfl) .nil) rfl rfl (strings_Builder_String_ok (hs.re 4 [0, 1, 2, 3] rfl) hr28) ?_
  rintro _ w29 ⟨rfl, hs⟩
  replace hs := Sat.n4 (Γ := Φ) hs rfl
  refine Wo (Run_assign (O rfl)) rfl <| ?_
  refine WL_nil <| At_then ?_
  refine WC_ret ?_
  refine At_r1 rfl (ResIs.t rfl) ?_
  cases hm
  exact ⟨rfl, (hs.re 4 [] rfl)⟩
end Go.Proofs.YtjdabjpjafkogaaDoor
namespace Go.Proofs.YtjdabjpjafkogaaDoor
open Go.Proofs
set_option maxRecDepth 100000 in
set_option maxHeartbeats 4000000 in
theorem step_seen_add_ok {Φ : Ctx} {w : World} {v2 : (List Int)} {l : (List (List Int))} {at_ : (Option (List (Str × Bool)))} {b : Nat} {v3 : SLV} {v5 : SLV} {R : List Nat} {v7 : Option Nat} {r : ((List (List Int)) × (Option (List (Str × Bool))))} (hs : Sat (box b 75 [(sl v5), (.map v7)] :: imm (RSl (RI .i64)) [sl v3] v2 :: osl (RSl (RI .i64)) 22 (sl v5) l R :: omap mk73 mv73 (.map v7) at_ :: gl 0 (pow10L.map (Value.int .u64)) :: Φ) w) (hm : step_seen_add v2 l at_ = some r) :
  CallsR Tryd.prog 31 [(.pointer (some ⟨b, 0, none⟩)), (sl v3)] w (fun v w' => ∃ v4 : SLV, ∃ R5 : List Nat, ∃ v8 : Option Nat, v = (.tuple #[]) ∧ Sat (box b 75 [(sl v4), (.map v8)] :: osl (RSl (RI .i64)) 22 (sl v4) r.1 R5 :: omap mk73 mv73 (.map v8) r.2 :: Φ) w') := by
 refine CallsX_enter Tryd.func31 rfl Tryd.ntmps31 rfl ?_
 unfold step_seen_add at hm
 refine WC_seq_cut (γ := (Option (List (Str × Bool))) × Option Nat) (fun ⟨c10, v11⟩ w9 => step_seen_add_K1 v2 l c10 = some r ∧ Sat (box b 75 [(sl v5), (.map v11)] :: osl (RSl (RI .i64)) 22 (sl v5) l R :: omap mk73 mv73 (.map v11) c10 :: imm (RSl (RI .i64)) [sl v3] v2 :: gl 0 (pow10L.map (Value.int .u64)) :: Φ) w9) (fun ⟨c10, v11⟩ => [(0, true, (.pointer (some ⟨b, 0, none⟩))), (1, true, (sl v3))]) ?_ ?_
 ·
  rintro ⟨c10, v11⟩ w9 ⟨hm, hs⟩
  unfold step_seen_add_K1 at hm
  refine WC_seq <| WC_region ?_
  refine Wo (Run_move (O rfl)) rfl <| ?_
  obtain ⟨r12, hr13, hm⟩ := bind_some' hm
  refine WL_call (f := 46) (first := []) (cap := []) (xs := [(.tmp 14)]) (vs := [(sl v3)]) (args := [(sl v3)]) Tryd.call46 Opd.f (.cons (O rfl) .nil) rfl rfl (step_text_ok (hs.re 5 [3, 4, 0, 1, 2, 3, 4] rfl) hr13) ?_
  rintro _ w14 ⟨rfl, hs⟩
  replace hs := Sat.n5 (Γ := Φ) hs rfl
  refine Wo (Run_assign (O rfl)) rfl <| ?_
  refine WL_nil <| At_then <| WC_seq <| WC_region ?_
  refine Wo (Run_move (O rfl)) rfl <| Wo (Run_nilP (O rfl)) rfl <| Wo (Run_fieldAddr fo75_1 (O rfl)) rfl <| Wo (Run_load1 (v := (.map v11)) Tryd.underlying73 rfl (O rfl) (fun _ => (hs.box (i := 0) rfl).part 1 rfl)) rfl <| Wo (Run_move (O rfl)) rfl <| Wo (Run_lookup (ke := mk73) (vi := mv73) (z := false) (k := r12) mK73 Tryd.underlying73 (ti4.zero _) (O rfl) (O rfl) (fun _ => hs.omap (i := 2) rfl)) rfl <| Wo (Run_notB (O rfl)) rfl <| ?_
  refine WL_nil <| At_then ?_
  refine WC_cond (O rfl) (fun hc15 => ?_) (fun hc15 => ?_)
  ·
   replace hm := bif_t hc15 hm
   refine WC_seq <| WC_region ?_
   refine Wo (Run_move (O rfl)) rfl <| Wo (Run_nilP (O rfl)) rfl <| Wo (Run_fieldAddr fo75_1 (O rfl)) rfl <| Wo (Run_load1 (v := (.map v11)) Tryd.underlying73 rfl (O rfl) (fun _ => (hs.box (i := 0) rfl).part 1 rfl)) rfl <| Wo (Run_move (O rfl)) rfl <| ?_
   obtain ⟨m16, hm17, hm⟩ := bind_some' hm
   refine WS_mapUpdate (ke := mk73) (vi := mv73) (l := m16) (k := r12) (u := true) hs 2 rfl hm17 mK73 Tryd.underlying73 (O rfl) (O rfl) Opd.c ?_
   intro w18 hs
   replace hs := Sat.n5 (Γ := Φ) hs rfl
   refine WL_nil <| At_then <| WC_region ?_
   refine Wo (Run_move (O rfl)) rfl <| Wo (Run_move (O rfl)) rfl <| Wo (Run_nilP (O rfl)) rfl <| Wo (Run_fieldAddr fo75_0 (O rfl)) rfl <| Wo (Run_load1 (v := (sl v5)) Tryd.underlying37 rfl (O rfl) (fun _ => (hs.box (i := 0) rfl).part 0 rfl)) rfl <| Wo (Run_move (O rfl)) rfl <| ?_
   refine WS_lit (A := (RSl (RI .i64))) (xs := [v2]) (zs := [(sl (none, 0, 0))]) (cells := [(sl v3)]) (parts := [(0, (.tmp 33))]) hs Tryd.underlying37 ti22 rfl rfl rfl (.cons (O rfl) .nil) (by kernel_rfl) rfl (ARd.cons (A := (RSl (RI .i64))) (c := [(sl v3)]) (x := v2) ⟨_, rfl, (hs.sl (i := 3) rfl)⟩ ARd.nil) rfl ?_
   intro b19 w20 hs
   replace hs := Sat.n6 (Γ := Φ) hs rfl
   replace hs := hs.freeze (i := 0) rfl
   obtain ⟨k21, hm⟩ := chk_some hm
   refine WS_append (A := (RSl (RI .i64))) hs 2 rfl Tryd.underlying37 ti22 rfl rfl (O rfl) (O rfl) (hs.sl (i := 0) rfl) k21 rfl ?_
   intro v22 R23 w24 hs
   replace hs := Sat.n6 (Γ := Φ) hs rfl
   refine Wo (Run_nilP (O rfl)) rfl <| Wo (Run_fieldAddr fo75_0 (O rfl)) rfl <| ?_
   refine WS_store (us := [(sl v22)]) (vs' := [(sl v22), (.map v11)]) hs 1 rfl ti37 (O rfl) (O rfl) rfl rfl rfl rfl rfl ?_
   intro w25 hs
   replace hs := Sat.n6 (Γ := Φ) hs rfl
   refine WL_nil ?_
   refine At_e0 rfl  ?_
   cases hm
   exact ⟨v22, R23, v11, rfl, (hs.re 6 [1, 2, 3] rfl)⟩
  ·
   replace hm := bif_f hc15 hm
   refine WC_skip ?_
   refine At_e0 rfl  ?_
   cases hm
   exact ⟨v5, R, v11, rfl, (hs.re 5 [0, 1, 2] rfl)⟩
 ·
  refine WC_seq <| WC_region ?_
  refine Wo (Run_move (O rfl)) rfl <| Wo (Run_nilP (O rfl)) rfl <| Wo (Run_fieldAddr fo75_1 (O rfl)) rfl <| Wo (Run_load1 (v := (.map v7)) Tryd.underlying73 rfl (O rfl) (fun _ => (hs.box (i := 0) rfl).part 1 rfl)) rfl <| Wo (Run_eqNilM Tryd.underlying73 (O rfl) Opd.c (hs.omap (i := 3) rfl)) rfl <| ?_
  refine WL_nil <| At_then ?_
  refine WC_cond (O rfl) (fun hc26 => ?_) (fun hc26 => ?_)
  ·
   replace hm := bif_t hc26 hm
   refine WC_region ?_
   refine Wo (Run_move (O rfl)) rfl <| ?_
   refine WS_makeMap mk73 mv73 hs rfl ?_
   intro b27 w28 hs
   replace hs := Sat.n6 (Γ := Φ) hs rfl
   refine Wo (Run_nilP (O rfl)) rfl <| Wo (Run_fieldAddr fo75_1 (O rfl)) rfl <| ?_
   refine WS_store (us := [(.map (some b27))]) (vs' := [(sl v5), (.map (some b27))]) hs 1 rfl ti73 (O rfl) (O rfl) rfl rfl rfl rfl rfl ?_
   intro w29 hs
   replace hs := Sat.n6 (Γ := Φ) hs rfl
   refine WL_nil ?_
   exact At_join ((some [] : (Option (List (Str × Bool)))), (some b27)) ⟨hm, (hs.re 6 [1, 3, 0, 2, 5] rfl)⟩ rfl
  ·
   replace hm := bif_f hc26 hm
   refine WC_skip ?_
   exact At_join (at_, v7) ⟨hm, (hs.re 5 [0, 2, 3, 1, 4] rfl)⟩ rfl
set_option maxRecDepth 100000 in
set_option maxHeartbeats 4000000 in
theorem step_fired_ok {Φ : Ctx} {w : World} {m : ((List Str) × (List (Int × Int)) × (List Int) × (List Str) × (List (Int × Ex × (List (Int × Ex)))))} {v11 : (List Int)} {v1 : SLV} {v3 : SLV} {v5 : SLV} {v7 : SLV} {v9 : SLV} {v12 : SLV} {r : Unit} (hs : Sat (imm (RSl RS) [sl v1] m.1 :: imm (RSl (RP (RI .i64) (RI .i64))) [sl v3] m.2.1 :: imm (RSl (RI .i64)) [sl v5] m.2.2.1 :: imm (RSl RS) [sl v7] m.2.2.2.1 :: imm (RSl (RP (RI .i64) (RP RExpr (RSl (RP (RI .i64) RExpr))))) [sl v9] m.2.2.2.2 :: imm (RSl (RI .i64)) [sl v12] v11 :: Φ) w) (hm : step_fired m v11 = some r) :
  CallsR Tryd.prog 30 [(.agg #[(sl v1), (sl v3), (sl v5), (sl v7), (sl v9)]), (sl v12)] w (fun v w' => ∃ b6 : Nat, ∃ b7 : Nat, v = (.func (.func 45) #[] #[(.pointer (some ⟨b6, 0, none⟩)), (.pointer (some ⟨b7, 0, none⟩))]) ∧ Sat (box b6 28 [(sl v1), (sl v3), (sl v5), (sl v7), (sl v9)] :: imm (RSl RS) [sl v1] m.1 :: imm (RSl (RP (RI .i64) (RI .i64))) [sl v3] m.2.1 :: imm (RSl (RI .i64)) [sl v5] m.2.2.1 :: imm (RSl RS) [sl v7] m.2.2.2.1 :: imm (RSl (RP (RI .i64) (RP RExpr (RSl (RP (RI .i64) RExpr))))) [sl v9] m.2.2.2.2 :: box b7 22 [(sl v12)] :: imm (RSl (RI .i64)) [sl v12] v11 :: Φ) w') := by
 refine CallsX_enter Tryd.func30 rfl Tryd.ntmps30 rfl ?_
 unfold step_fired at hm
 refine WC_seq <| WC_region ?_
 refine WS_box (zs := [(sl v1), (sl v3), (sl v5), (sl v7), (sl v9)]) hs (O rfl) rfl rfl ?_
 intro b1 w2 hs
 replace hs := Sat.n7 (Γ := Φ) hs rfl
 refine WS_box (zs := [(sl v12)]) hs (O rfl) rfl rfl ?_
 intro b3 w4 hs
 replace hs := Sat.n8 (Γ := Φ) hs rfl
 refine Wo (Run_assign Opd.c) rfl <| ?_
 refine WL_nil <| At_then <| WC_seq <| WC_region ?_
 refine Wo (Run_makeFunc (first := []) (cap := [(.tmp 2), (.tmp 3)]) .nil (.cons (O rfl) (.cons (O rfl) .nil))) rfl <| Wo (Run_assign (O rfl)) rfl <| ?_
 refine WL_nil <| At_then ?_
 refine WC_ret ?_
 refine At_r1 rfl (ResIs.t rfl) ?_
 cases hm
 exact ⟨b1, b3, rfl, (hs.re 8 [1, 2, 3, 4, 5, 6, 0, 7] rfl)⟩
set_option maxRecDepth 100000 in
set_option maxHeartbeats 4000000 in
theorem expr_truth_ok {Φ : Ctx} {w : World} {is_ : Bool} {r : Int} (hs : Sat (Φ) w) (hm : expr_truth is_ = some r) :
  CallsR Tryd.prog 43 [(.bool is_)] w (fun v w' => v = (.int .i64 r) ∧ Sat (Φ) w') := by
 refine CallsX_enter Tryd.func43 rfl Tryd.ntmps43 rfl ?_
 unfold expr_truth at hm
 refine WC_seq <| WC_region ?_
 refine Wo (Run_assign Opd.c) rfl <| ?_
 refine WL_nil <| At_then <| WC_seq <| WC_seq <| WC_region ?_
 refine Wo (Run_move (O rfl)) rfl <| ?_
 refine WL_nil <| At_then ?_
 refine WC_cond (O rfl) (fun hc3 => ?_) (fun hc3 => ?_)
 ·
  replace hm := bif_t hc3 hm
  refine WC_seq <| WC_region ?_
  refine Wo (Run_assign Opd.c) rfl <| ?_
  refine WL_nil <| At_then ?_
  refine WC_ret ?_
  refine At_then_ret <| ?_
  refine At_r1 rfl (ResIs.t rfl) ?_
  cases hm
  exact ⟨rfl, (hs.re 0 [] rfl)⟩
 ·
  replace hm := bif_f hc3 hm
  refine WC_skip ?_
  refine At_then <| WC_seq <| WC_region ?_
  refine Wo (Run_assign Opd.c) rfl <| ?_
  refine WL_nil <| At_then ?_
  refine WC_ret ?_
  refine At_r1 rfl (ResIs.t rfl) ?_
  cases hm
  exact ⟨rfl, (hs.re 0 [] rfl)⟩
end Go.Proofs.YtjdabjpjafkogaaDoor
namespace Go.Proofs.YtjdabjpjafkogaaDoor
open Go.Proofs
set_option maxRecDepth 100000 in
set_option maxHeartbeats 4000000 in
theorem expr_Eval_F_ok {k_expr_Eval : (Ex × (List Int)) → Option Int} (ih_expr_Eval : ∀ {Φ : Ctx} {w : World} {e : Ex} {v3 : (List Int)} {v1 : SLV} {v4 : SLV} {r : Int}, Sat (imm (RSl RExpr) [sl v1] e.l :: imm (RSl (RI .i64)) [sl v4] v3 :: Φ) w → k_expr_Eval (e, v3) = some r → CallsR Tryd.prog 28 [(.agg #[(.int .i64 e.op), (.int .i64 e.n), (.int .i64 e.at_), (sl v1)]), (sl v4)] w (fun v w' => v = (.int .i64 r) ∧ Sat (Φ) w')) {Φ : Ctx} {w : World} {e : Ex} {v3 : (List Int)} {v1 : SLV} {v4 : SLV} {r : Int} (hs : Sat (imm (RSl RExpr) [sl v1] e.l :: imm (RSl (RI .i64)) [sl v4] v3 :: Φ) w) (hm : expr_Eval_F k_expr_Eval e v3 = some r) :
  CallsR Tryd.prog 28 [(.agg #[(.int .i64 e.op), (.int .i64 e.n), (.int .i64 e.at_), (sl v1)]), (sl v4)] w (fun v w' => v = (.int .i64 r) ∧ Sat (Φ) w') := by
 refine CallsX_enter Tryd.func28 rfl Tryd.ntmps28 rfl ?_
 unfold expr_Eval_F at hm
 refine WC_seq <| WC_region ?_
 refine WS_box (zs := [(.int .i64 e.op), (.int .i64 e.n), (.int .i64 e.at_), (sl v1)]) hs (O rfl) rfl rfl ?_
 intro b3 w4 hs
 replace hs := Sat.n3 (Γ := Φ) hs rfl
 refine Wo (Run_assign Opd.c) rfl <| ?_
 refine WL_nil <| At_then <| WC_seq <| WC_region ?_
 refine WS_alloc (zs := [(.int .i64 0), (.int .i64 0)]) hs ti94 rfl rfl ?_
 intro b5 w6 hs
 replace hs := Sat.n4 (Γ := Φ) hs rfl
 refine WL_nil <| At_then <| WC_seq <| WC_seq <| WC_region ?_
 refine Wo (Run_fieldAddr fo57_3 (O rfl)) rfl <| Wo (Run_load1 (v := (sl v1)) Tryd.underlying55 rfl (O rfl) (fun _ => (hs.box (i := 1) rfl).part 3 rfl)) rfl <| Wo (Run_fieldAddr fo57_3 (O rfl)) rfl <| Wo (Run_load1 (v := (sl v1)) Tryd.underlying55 rfl (O rfl) (fun _ => (hs.box (i := 1) rfl).part 3 rfl)) rfl <| Wo (Run_lenSlG Tryd.underlying55 (O rfl) (fun hg => (hs.sl (i := 2) rfl).len)) rfl <| Wo (Run_min2 (O rfl) Opd.c (fun _ => run_minI _ _ _ _ _ _)) rfl <| ?_
 obtain ⟨k10, hm⟩ := chk_some hm
 obtain ⟨v8, hv7, h9⟩ := SRd.cutS (A := RExpr) (M := Ctx.M _) (fun _ => hs.sl (i := 2) rfl) (fun _ => k10)
 refine Wo (Run_cutSl (lo := none) (hi := (some (.tmp 16))) Tryd.underlying55 ti57 (O rfl) (fun hg => (hs.sl (i := 2) rfl).len) rfl ⟨_, (O rfl)⟩ hv7) rfl <| ?_
 replace hs := hs.addS (h9 rfl)
 refine Wo (Run_lenSlG Tryd.underlying55 (O rfl) (fun hg => (hs.sl (i := 0) rfl).len)) rfl <| Wo (Run_move Opd.c) rfl <| ?_
 refine WL_nil <| At_then ?_
 refine WC_block ?_
 refine WC_loop (σ := Int × Int × Int) (γ := Unit) (F := (expr_Eval_L1 k_expr_Eval e v3)) (N := FUEL) (s0 := (0, 0, 0)) (r := r) (fun ⟨c12, c13, t14⟩ (_ : Unit) w11 => Sat (imm (RSl (RI .i64)) [sl v4] v3 :: box b3 57 [(.int .i64 e.op), (.int .i64 e.n), (.int .i64 e.at_), (sl v1)] :: imm (RSl RExpr) [sl v1] e.l :: box b5 94 [(.int .i64 c12), (.int .i64 c13)] :: imm (RSl RExpr) [sl v8] (cutL e.l 0 (min (List.length e.l : Int) 2)) :: Φ) w11) (fun ⟨c12, c13, t14⟩ (_ : Unit) => [(1, true, (sl v4)), (2, true, (.pointer (some ⟨b3, 0, none⟩))), (5, true, (.pointer (some ⟨b5, 0, none⟩))), (17, true, (sl v8)), (18, true, (.int .i64 (List.length (cutL e.l 0 (min (List.length e.l : Int) 2)) : Int))), (19, true, (.int .i64 t14))]) hm () (hs.re 5 [4, 2, 3, 1, 0] rfl) rfl ?_
 rintro again15 ⟨c12, c13, t14⟩ _ w11 hm hs
 unfold expr_Eval_L1 at hm
 dsimp only at hm
 refine WC_seq <| WC_region ?_
 refine Wo (Run_ltI (O rfl) (O rfl)) rfl <| ?_
 refine WL_nil <| At_then <| WC_seq ?_
 refine WC_cond (O rfl) (fun hc16 => ?_) (fun hc16 => ?_)
 ·
  replace hm := bif_t hc16 hm
  refine WC_skip ?_
  refine At_then <| WC_seq ?_
  refine WC_block ?_
  refine WC_seq <| WC_region ?_
  refine Wo (Run_move (O rfl)) rfl <| ?_
  obtain ⟨e17, he18, hm⟩ := bind_some' hm
  obtain ⟨v19, hC20, hN21, hR22⟩ := cellsM57 (g := true) (fun hg => (hs.sl (i := 4) rfl)) (fun hg => he18)
  replace hs := hs.addL [elem true (elA (sl v8) t14 4) [(.int .i64 e17.op), (.int .i64 e17.n), (.int .i64 e17.at_), (sl v19)], imm (RSl RExpr) [sl v19] e17.l] rfl ⟨fun hg => ⟨hN21 hg, hC20 hg⟩, ⟨_, rfl, hR22 rfl⟩, trivial⟩
  replace hs := Sat.n7 (Γ := Φ) hs rfl
  refine Wo (Run_idxAddr (p := (elA (sl v8) t14 4)) Tryd.underlying55 ti57 (O rfl) (O rfl) (fun hg => (SRd.atA (A := RExpr) (v := (sl v8)) (hs.sl (i := 6) rfl) he18).1)) rfl <| Wo (Run_loadA (vs := [(.int .i64 e17.op), (.int .i64 e17.n), (.int .i64 e17.at_), (sl v19)]) Tryd.underlying57 rfl ti57 (O rfl) (fun hg => ((hs.elem (i := 0) rfl) hg).sub 0 rfl) rfl) rfl <| ?_
  refine WS_alloc (zs := [(.int .i64 0), (.int .i64 0), (.int .i64 0), (sl (none, 0, 0))]) hs ti57 rfl rfl ?_
  intro b23 w24 hs
  replace hs := Sat.n8 (Γ := Φ) hs rfl
  refine Wo (Run_assign (O rfl)) rfl <| ?_
  refine WS_store (us := [(.int .i64 e17.op), (.int .i64 e17.n), (.int .i64 e17.at_), (sl v19)]) (vs' := [(.int .i64 e17.op), (.int .i64 e17.n), (.int .i64 e17.at_), (sl v19)]) hs 0 rfl ti57 (O rfl) (O rfl) rfl rfl rfl rfl rfl ?_
  intro w25 hs
  replace hs := Sat.n8 (Γ := Φ) hs rfl
  refine WL_nil <| At_then <| WC_region ?_
  refine Wo (Run_move (O rfl)) rfl <| Wo (Run_loadA (vs := [(.int .i64 e17.op), (.int .i64 e17.n), (.int .i64 e17.at_), (sl v19)]) Tryd.underlying57 rfl ti57 (O rfl) (fun _ => (hs.box (i := 0) rfl).part 0 rfl) rfl) rfl <| Wo (Run_move (O rfl)) rfl <| ?_
  obtain ⟨r26, hr27, hm⟩ := bind_some' hm
  refine WL_call (f := 28) (first := []) (cap := []) (xs := [(.tmp 25), (.tmp 26)]) (vs := [(.agg #[(.int .i64 e17.op), (.int .i64 e17.n), (.int .i64 e17.at_), (sl v19)]), (sl v4)]) (args := [(.agg #[(.int .i64 e17.op), (.int .i64 e17.n), (.int .i64 e17.at_), (sl v19)]), (sl v4)]) Tryd.call28 Opd.f (.cons (O rfl) (.cons (O rfl) .nil)) rfl rfl (ih_expr_Eval (hs.re 8 [2, 3, 0, 1, 2, 3, 4, 5, 6, 7] rfl) hr27) ?_
  rintro _ w28 ⟨rfl, hs⟩
  replace hs := Sat.n8 (Γ := Φ) hs rfl
  rcases bif_some hm with ⟨hj29, hm⟩ | ⟨hj29, hm⟩
  ·
   replace hj29 : t14 = ((0 : Nat) : Int) := by simpa using hj29
   refine Wo (Run_arrAt (j := 0) Tryd.underlying94 ti3 (O rfl) (O rfl) hj29 rfl) rfl <| ?_
   refine WS_store (us := [(.int .i64 r26)]) (vs' := [(.int .i64 r26), (.int .i64 c13)]) hs 6 rfl ti3 (O rfl) (O rfl) rfl rfl rfl rfl rfl ?_
   intro w30 hs
   replace hs := Sat.n8 (Γ := Φ) hs rfl
   refine WL_nil ?_
   refine At_blk_normal ?_
   refine At_then <| WC_region ?_
   refine Wo (Run_add (O rfl) Opd.c) rfl <| Wo (Run_move (O rfl)) rfl <| ?_
   refine WL_nil ?_
   exact At_again (r26, c13, (IntKind.i64.wrap (t14 + 1))) () hm (hs.re 8 [3, 4, 5, 6, 7] rfl) rfl
  ·
   rcases bif_some hm with ⟨hj31, hm⟩ | ⟨hj31, hm⟩
   ·
    replace hj31 : t14 = ((1 : Nat) : Int) := by simpa using hj31
    refine Wo (Run_arrAt (j := 1) Tryd.underlying94 ti3 (O rfl) (O rfl) hj31 rfl) rfl <| ?_
    refine WS_store (us := [(.int .i64 r26)]) (vs' := [(.int .i64 c12), (.int .i64 r26)]) hs 6 rfl ti3 (O rfl) (O rfl) rfl rfl rfl rfl rfl ?_
    intro w32 hs
    replace hs := Sat.n8 (Γ := Φ) hs rfl
    refine WL_nil ?_
    refine At_blk_normal ?_
    refine At_then <| WC_region ?_
    refine Wo (Run_add (O rfl) Opd.c) rfl <| Wo (Run_move (O rfl)) rfl <| ?_
    refine WL_nil ?_
    exact At_again (c12, r26, (IntKind.i64.wrap (t14 + 1))) () hm (hs.re 8 [3, 4, 5, 6, 7] rfl) rfl
   ·
    cases hm
 ·
  replace hm := bif_f hc16 hm
  refine WC_exit ?_
  refine At_then_exit <| At_then_exit <| At_blk_here <| ?_
  refine At_then <| WC_seq ?_
  refine WC_region_mixed [0, 1, 0, 4, 3, 31] (.q 0 0 (.q 1 1 (.q 2 3 (.q 3 7 (.q 4 15 (.q 5 31 .nil)))))) (by kernel_rfl) (by kernel_rfl) ?_
  intro w33 hx34
  replace hs := hs.ext hx34
  refine WD_pure (fun _ => (Run_arrAt (j := 0) Tryd.underlying94 ti3 (O rfl) Opd.c rfl rfl)) rfl rfl rfl rfl <| WD_op (fun w => CellsAt w ⟨b5, 0, none⟩ [(.int .i64 c12)]) ((hs.box (i := 3) rfl).part 0 rfl) (fun _ hJ => (Run_load1 (v := (.int .i64 c12)) Tryd.underlying3 rfl (O rfl) (fun _ => hJ))) rfl rfl rfl rfl <| WD_pure (fun _ => (Run_arrAt (j := 1) Tryd.underlying94 ti3 (O rfl) Opd.c rfl rfl)) rfl rfl rfl rfl <| WD_op (fun w => CellsAt w ⟨b5, 1, none⟩ [(.int .i64 c13)]) ((hs.box (i := 3) rfl).part 1 rfl) (fun _ hJ => (Run_load1 (v := (.int .i64 c13)) Tryd.underlying3 rfl (O rfl) (fun _ => hJ))) rfl rfl rfl rfl <| WD_pure (fun _ => (Run_assign (O rfl))) rfl rfl rfl rfl <| WD_pure (fun _ => (Run_assign (O rfl))) rfl rfl rfl rfl <| ?_
  refine WD_nil ?_
  refine At_then <| WC_seq <| WC_region ?_
  refine Wo (Run_assign Opd.c) rfl <| ?_
  refine WL_nil <| At_then <| WC_seq <| WC_seq <| WC_region ?_
  refine Wo (Run_fieldAddr fo57_0 (O rfl)) rfl <| Wo (Run_load1 (v := (.int .i64 e.op)) Tryd.underlying3 rfl (O rfl) (fun _ => (hs.box (i := 1) rfl).part 0 rfl)) rfl <| ?_
  refine WL_nil <| At_then ?_
  refine WC_block ?_
  refine WC_seq ?_
  refine WC_block ?_
  refine WC_seq ?_
  refine WC_block ?_
  refine WC_seq ?_
  refine WC_block ?_
  refine WC_seq ?_
  refine WC_block ?_
  refine WC_seq ?_
  refine WC_block ?_
  refine WC_seq_cut (γ := Int × Int × Bool) (fun ⟨a36, b37, turn38⟩ w35 => expr_Eval_K2 a36 b37 turn38 = some r ∧ Sat (Φ) w35) (fun ⟨a36, b37, turn38⟩ => [(8, true, (.int .i64 a36)), (9, true, (.int .i64 b37)), (10, true, (.bool turn38))]) ?_ ?_
  ·
   rintro ⟨a36, b37, turn38⟩ w35 ⟨hm, hs⟩
   unfold expr_Eval_K2 at hm
   refine WC_seq <| WC_seq <| WC_region ?_
   refine Wo (Run_move (O rfl)) rfl <| Wo (Run_move (O rfl)) rfl <| Wo (Run_leI (O rfl) (O rfl)) rfl <| Wo (Run_move (O rfl)) rfl <| Wo (Run_neB Tryd.underlying4 (O rfl) (O rfl)) rfl <| ?_
   obtain ⟨r39, hr40, hm⟩ := bind_some' hm
   refine WL_call (f := 43) (first := []) (cap := []) (xs := [(.tmp 114)]) (vs := [(.bool ((decide (a36 ≤ b37)) != turn38))]) (args := [(.bool ((decide (a36 ≤ b37)) != turn38))]) Tryd.call43 Opd.f (.cons (O rfl) .nil) rfl rfl (expr_truth_ok (hs.re 0 [] rfl) hr40) ?_
   rintro _ w41 ⟨rfl, hs⟩
   refine Wo (Run_assign (O rfl)) rfl <| ?_
   refine WL_nil <| At_then ?_
   refine WC_ret ?_
   refine At_then_ret <| At_blk_ret <| At_then_ret <| At_blk_ret <| At_then_ret <| At_blk_ret <| At_then_ret <| At_blk_ret <| At_then_ret <| At_blk_ret <| At_then_ret <| At_blk_ret <| At_then_ret <| ?_
   refine At_r1 rfl (ResIs.t rfl) ?_
   cases hm
   exact ⟨rfl, (hs.re 0 [] rfl)⟩
  ·
   refine WC_block ?_
   refine WC_seq ?_
   refine WC_block ?_
   refine WC_seq_cut (γ := Int × Int × Bool) (fun ⟨a43, b44, turn45⟩ w42 => expr_Eval_K3 a43 b44 turn45 = some r ∧ Sat (Φ) w42) (fun ⟨a43, b44, turn45⟩ => [(8, true, (.int .i64 a43)), (9, true, (.int .i64 b44)), (10, true, (.bool turn45))]) ?_ ?_
   ·
    rintro ⟨a43, b44, turn45⟩ w42 ⟨hm, hs⟩
    unfold expr_Eval_K3 at hm
    refine WC_seq <| WC_seq <| WC_region ?_
    refine Wo (Run_move (O rfl)) rfl <| Wo (Run_move (O rfl)) rfl <| Wo (Run_ltI (O rfl) (O rfl)) rfl <| Wo (Run_move (O rfl)) rfl <| Wo (Run_neB Tryd.underlying4 (O rfl) (O rfl)) rfl <| ?_
    obtain ⟨r46, hr47, hm⟩ := bind_some' hm
    refine WL_call (f := 43) (first := []) (cap := []) (xs := [(.tmp 108)]) (vs := [(.bool ((decide (a43 < b44)) != turn45))]) (args := [(.bool ((decide (a43 < b44)) != turn45))]) Tryd.call43 Opd.f (.cons (O rfl) .nil) rfl rfl (expr_truth_ok (hs.re 0 [] rfl) hr47) ?_
    rintro _ w48 ⟨rfl, hs⟩
    refine Wo (Run_assign (O rfl)) rfl <| ?_
    refine WL_nil <| At_then ?_
    refine WC_ret ?_
    refine At_then_ret <| At_blk_ret <| At_then_ret <| At_blk_ret <| At_then_ret <| At_blk_ret <| At_then_ret <| At_blk_ret <| At_then_ret <| At_blk_ret <| At_then_ret <| At_blk_ret <| At_then_ret <| At_blk_ret <| At_then_ret <| At_blk_ret <| At_then_ret <| ?_
    refine At_r1 rfl (ResIs.t rfl) ?_
    cases hm
    exact ⟨rfl, (hs.re 0 [] rfl)⟩
   ·
    refine WC_block ?_
    refine WC_seq ?_
    refine WC_block ?_
    refine WC_seq_cut (γ := Int × Int × Bool) (fun ⟨a50, b51, turn52⟩ w49 => expr_Eval_K4 a50 b51 turn52 = some r ∧ Sat (Φ) w49) (fun ⟨a50, b51, turn52⟩ => [(8, true, (.int .i64 a50)), (9, true, (.int .i64 b51)), (10, true, (.bool turn52))]) ?_ ?_
    ·
     rintro ⟨a50, b51, turn52⟩ w49 ⟨hm, hs⟩
     unfold expr_Eval_K4 at hm
     refine WC_seq <| WC_seq <| WC_region ?_
     refine Wo (Run_move (O rfl)) rfl <| Wo (Run_move (O rfl)) rfl <| Wo (Run_eqI (O rfl) (O rfl)) rfl <| Wo (Run_move (O rfl)) rfl <| Wo (Run_neB Tryd.underlying4 (O rfl) (O rfl)) rfl <| ?_
     obtain ⟨r53, hr54, hm⟩ := bind_some' hm
     refine WL_call (f := 43) (first := []) (cap := []) (xs := [(.tmp 102)]) (vs := [(.bool ((a50 == b51) != turn52))]) (args := [(.bool ((a50 == b51) != turn52))]) Tryd.call43 Opd.f (.cons (O rfl) .nil) rfl rfl (expr_truth_ok (hs.re 0 [] rfl) hr54) ?_
     rintro _ w55 ⟨rfl, hs⟩
     refine Wo (Run_assign (O rfl)) rfl <| ?_
     refine WL_nil <| At_then ?_
     refine WC_ret ?_
     refine At_then_ret <| At_blk_ret <| At_then_ret <| At_blk_ret <| At_then_ret <| At_blk_ret <| At_then_ret <| At_blk_ret <| At_then_ret <| At_blk_ret <| At_then_ret <| At_blk_ret <| At_then_ret <| At_blk_ret <| At_then_ret <| At_blk_ret <| At_then_ret <| At_blk_ret <| At_then_ret <| At_blk_ret <| At_then_ret <| ?_
     refine At_r1 rfl (ResIs.t rfl) ?_
     cases hm
     exact ⟨rfl, (hs.re 0 [] rfl)⟩
    ·
     refine WC_block ?_
     refine WC_seq ?_
     refine WC_block ?_
     refine WC_seq ?_
     refine WC_block ?_
     refine WC_seq ?_
     refine WC_block ?_
     refine WC_seq ?_
     refine WC_block ?_
     refine WC_seq ?_
     refine WC_block ?_
     refine WC_seq ?_
     refine WC_block ?_
     refine WC_seq ?_
     refine WC_block ?_
     refine WC_seq <| WC_seq <| WC_seq <| WC_region ?_
     refine Wo (Run_eqI (O rfl) Opd.c) rfl <| Wo (Run_assign (O rfl)) rfl <| ?_
     refine WL_nil <| At_then ?_
     refine WC_cond (O rfl) (fun hc56 => ?_) (fun hc56 => ?_)
     ·
      replace hm := bif_t hc56 hm
      refine WC_exit ?_
      refine At_then_exit <| At_then_exit <| At_blk_here <| ?_
      refine At_then <| WC_seq <| WC_seq <| WC_region ?_
      refine Wo (Run_fieldAddr fo57_1 (O rfl)) rfl <| Wo (Run_load1 (v := (.int .i64 e.n)) Tryd.underlying3 rfl (O rfl) (fun _ => (hs.box (i := 1) rfl).part 1 rfl)) rfl <| Wo (Run_assign (O rfl)) rfl <| ?_
      refine WL_nil <| At_then ?_
      refine WC_ret ?_
      refine At_then_ret <| At_blk_ret <| At_then_ret <| At_blk_ret <| At_then_ret <| At_blk_ret <| At_then_ret <| At_blk_ret <| At_then_ret <| At_blk_ret <| At_then_ret <| At_blk_ret <| At_then_ret <| At_blk_ret <| At_then_ret <| At_blk_ret <| At_then_ret <| At_blk_ret <| At_then_ret <| At_blk_ret <| At_then_ret <| At_blk_ret <| At_then_ret <| At_blk_ret <| At_then_ret <| At_blk_ret <| At_then_ret <| At_blk_ret <| At_then_ret <| At_blk_ret <| At_then_ret <| At_blk_ret <| At_then_ret <| At_blk_ret <| At_then_ret <| ?_
      refine At_r1 rfl (ResIs.t rfl) ?_
      cases hm
      exact ⟨rfl, (hs.re 5 [] rfl)⟩
     ·
      replace hm := bif_f hc56 hm
      refine WC_skip ?_
      refine At_then <| WC_seq <| WC_seq <| WC_region ?_
      refine Wo (Run_eqI (O rfl) Opd.c) rfl <| Wo (Run_assign (O rfl)) rfl <| ?_
      refine WL_nil <| At_then ?_
      refine WC_cond (O rfl) (fun hc57 => ?_) (fun hc57 => ?_)
      ·
       replace hm := bif_t hc57 hm
       refine WC_exit ?_
       refine At_then_exit <| At_then_exit <| At_blk_other rfl <| At_then_exit <| At_blk_here <| ?_
       refine At_then <| WC_seq <| WC_seq <| WC_seq <| WC_region ?_
       refine Wo (Run_fieldAddr fo57_1 (O rfl)) rfl <| Wo (Run_load1 (v := (.int .i64 e.n)) Tryd.underlying3 rfl (O rfl) (fun _ => (hs.box (i := 1) rfl).part 1 rfl)) rfl <| ?_
       obtain ⟨b58, e59, hm⟩ := letv_some hm
       refine Wo (Run.eqB (Run_ltI (O rfl) Opd.c) e59) rfl <| Wo (Run_move (O rfl)) rfl <| Wg rfl guard_neg (Run_fieldAddr fo57_1 (O rfl)) rfl <| Wg rfl guard_neg (Run_load1 (v := (.int .i64 e.n)) Tryd.underlying3 rfl (Opd.g rfl id) (fun _ => (hs.box (i := 1) rfl).part 1 rfl)) rfl <| Wg rfl guard_neg (Run_move (O rfl)) rfl <| Wg rfl guard_neg (Run_lenSlG Tryd.underlying22 (Opd.g rfl id) (fun hg => (hs.sl (i := 0) rfl).len)) rfl <| ?_
       obtain ⟨b60, e61, hm⟩ := letv_some hm
       refine Wg rfl guard_neg (Run.eqB (Run_geI (Opd.g rfl id) (Opd.g rfl id)) e61) rfl <| ?_
       obtain ⟨b62, e63, hm⟩ := letv_some hm
       refine Wo (Run.eqB (Run_or (O rfl) (Opd.g rfl id)) e63) rfl <| ?_
       refine WL_nil <| At_then ?_
       refine WC_cond (O rfl) (fun hc64 => ?_) (fun hc64 => ?_)
       ·
        replace hm := bif_t hc64 hm
        refine WC_seq <| WC_region ?_
        refine Wo (Run_assign Opd.c) rfl <| ?_
        refine WL_nil <| At_then ?_
        refine WC_ret ?_
        refine At_then_ret <| At_then_ret <| At_blk_ret <| At_then_ret <| At_blk_ret <| At_then_ret <| At_blk_ret <| At_then_ret <| At_blk_ret <| At_then_ret <| At_blk_ret <| At_then_ret <| At_blk_ret <| At_then_ret <| At_blk_ret <| At_then_ret <| At_blk_ret <| At_then_ret <| At_blk_ret <| At_then_ret <| At_blk_ret <| At_then_ret <| At_blk_ret <| At_then_ret <| At_blk_ret <| At_then_ret <| At_blk_ret <| At_then_ret <| At_blk_ret <| At_then_ret <| At_blk_ret <| At_then_ret <| At_blk_ret <| At_then_ret <| ?_
        refine At_r1 rfl (ResIs.t rfl) ?_
        cases hm
        exact ⟨rfl, (hs.re 5 [] rfl)⟩
       ·
        replace hm := bif_f hc64 hm
        refine WC_skip ?_
        refine At_then <| WC_seq <| WC_region ?_
        refine Wo (Run_move (O rfl)) rfl <| Wo (Run_fieldAddr fo57_1 (O rfl)) rfl <| Wo (Run_load1 (v := (.int .i64 e.n)) Tryd.underlying3 rfl (O rfl) (fun _ => (hs.box (i := 1) rfl).part 1 rfl)) rfl <| ?_
        obtain ⟨e65, he66, hm⟩ := bind_some' hm
        refine Wo (Run_idxAddr (p := (elA (sl v4) e.n 1)) Tryd.underlying22 ti3 (O rfl) (O rfl) (fun hg => (SRd.atA (A := (RI .i64)) (v := (sl v4)) (hs.sl (i := 0) rfl) he66).1)) rfl <| Wo (Run_load1 (v := (.int .i64 e65)) Tryd.underlying3 rfl (O rfl) (fun hg => (SRd.cellsF (A := (RI .i64)) (v := (sl v4)) (hs.sl (i := 0) rfl) he66 (fun _ h => openT3 h)).sub 0 rfl)) rfl <| Wo (Run_assign (O rfl)) rfl <| ?_
        refine WL_nil <| At_then ?_
        refine WC_ret ?_
        refine At_then_ret <| At_blk_ret <| At_then_ret <| At_blk_ret <| At_then_ret <| At_blk_ret <| At_then_ret <| At_blk_ret <| At_then_ret <| At_blk_ret <| At_then_ret <| At_blk_ret <| At_then_ret <| At_blk_ret <| At_then_ret <| At_blk_ret <| At_then_ret <| At_blk_ret <| At_then_ret <| At_blk_ret <| At_then_ret <| At_blk_ret <| At_then_ret <| At_blk_ret <| At_then_ret <| At_blk_ret <| At_then_ret <| At_blk_ret <| At_then_ret <| At_blk_ret <| At_then_ret <| At_blk_ret <| At_then_ret <| ?_
        refine At_r1 rfl (ResIs.t rfl) ?_
        cases hm
        exact ⟨rfl, (hs.re 5 [] rfl)⟩
      ·
       replace hm := bif_f hc57 hm
       refine WC_skip ?_
       refine At_then <| WC_seq <| WC_seq <| WC_region ?_
       refine Wo (Run_eqI (O rfl) Opd.c) rfl <| Wo (Run_assign (O rfl)) rfl <| ?_
       refine WL_nil <| At_then ?_
       refine WC_cond (O rfl) (fun hc67 => ?_) (fun hc67 => ?_)
       ·
        replace hm := bif_t hc67 hm
        refine WC_exit ?_
        refine At_then_exit <| At_then_exit <| At_blk_other rfl <| At_then_exit <| At_blk_other rfl <| At_then_exit <| At_blk_here <| ?_
        refine At_then <| WC_seq <| WC_seq <| WC_region ?_
        refine Wo (Run_move (O rfl)) rfl <| Wo (Run_move (O rfl)) rfl <| Wo (Run_add (O rfl) (O rfl)) rfl <| Wo (Run_assign (O rfl)) rfl <| ?_
        refine WL_nil <| At_then ?_
        refine WC_ret ?_
        refine At_then_ret <| At_blk_ret <| At_then_ret <| At_blk_ret <| At_then_ret <| At_blk_ret <| At_then_ret <| At_blk_ret <| At_then_ret <| At_blk_ret <| At_then_ret <| At_blk_ret <| At_then_ret <| At_blk_ret <| At_then_ret <| At_blk_ret <| At_then_ret <| At_blk_ret <| At_then_ret <| At_blk_ret <| At_then_ret <| At_blk_ret <| At_then_ret <| At_blk_ret <| At_then_ret <| At_blk_ret <| At_then_ret <| At_blk_ret <| At_then_ret <| At_blk_ret <| At_then_ret <| ?_
        refine At_r1 rfl (ResIs.t rfl) ?_
        cases hm
        exact ⟨rfl, (hs.re 5 [] rfl)⟩
       ·
        replace hm := bif_f hc67 hm
        refine WC_skip ?_
        refine At_then <| WC_seq <| WC_seq <| WC_region ?_
        refine Wo (Run_eqI (O rfl) Opd.c) rfl <| Wo (Run_assign (O rfl)) rfl <| ?_
        refine WL_nil <| At_then ?_
        refine WC_cond (O rfl) (fun hc68 => ?_) (fun hc68 => ?_)
        ·
         replace hm := bif_t hc68 hm
         refine WC_exit ?_
         refine At_then_exit <| At_then_exit <| At_blk_other rfl <| At_then_exit <| At_blk_other rfl <| At_then_exit <| At_blk_other rfl <| At_then_exit <| At_blk_here <| ?_
         refine At_then <| WC_seq <| WC_seq <| WC_region ?_
         refine Wo (Run_move (O rfl)) rfl <| Wo (Run_move (O rfl)) rfl <| Wo (Run_mul (O rfl) (O rfl)) rfl <| Wo (Run_assign (O rfl)) rfl <| ?_
         refine WL_nil <| At_then ?_
         refine WC_ret ?_
         refine At_then_ret <| At_blk_ret <| At_then_ret <| At_blk_ret <| At_then_ret <| At_blk_ret <| At_then_ret <| At_blk_ret <| At_then_ret <| At_blk_ret <| At_then_ret <| At_blk_ret <| At_then_ret <| At_blk_ret <| At_then_ret <| At_blk_ret <| At_then_ret <| At_blk_ret <| At_then_ret <| At_blk_ret <| At_then_ret <| At_blk_ret <| At_then_ret <| At_blk_ret <| At_then_ret <| At_blk_ret <| At_then_ret <| At_blk_ret <| At_then_ret <| ?_
         refine At_r1 rfl (ResIs.t rfl) ?_
         cases hm
         exact ⟨rfl, (hs.re 5 [] rfl)⟩
        ·
         replace hm := bif_f hc68 hm
         refine WC_skip ?_
         refine At_then <| WC_seq <| WC_seq <| WC_region ?_
         refine Wo (Run_eqI (O rfl) Opd.c) rfl <| Wo (Run_assign (O rfl)) rfl <| ?_
         refine WL_nil <| At_then ?_
         refine WC_cond (O rfl) (fun hc69 => ?_) (fun hc69 => ?_)
         ·
          replace hm := bif_t hc69 hm
          refine WC_exit ?_
          refine At_then_exit <| At_then_exit <| At_blk_other rfl <| At_then_exit <| At_blk_other rfl <| At_then_exit <| At_blk_other rfl <| At_then_exit <| At_blk_other rfl <| At_then_exit <| At_blk_here <| ?_
          refine At_then <| WC_region ?_
          refine Wo (Run_move (O rfl)) rfl <| Wo (Run_assign Opd.c) rfl <| Wo (Run_assign (O rfl)) rfl <| ?_
          refine WL_nil ?_
          refine At_blk_normal ?_
          refine At_then <| WC_seq <| WC_seq <| WC_region ?_
          refine Wo (Run_move (O rfl)) rfl <| Wo (Run_move (O rfl)) rfl <| Wo (Run_sub (O rfl) (O rfl)) rfl <| Wo (Run_assign (O rfl)) rfl <| ?_
          refine WL_nil <| At_then ?_
          refine WC_ret ?_
          refine At_then_ret <| At_blk_ret <| At_then_ret <| At_blk_ret <| At_then_ret <| At_blk_ret <| At_then_ret <| At_blk_ret <| At_then_ret <| At_blk_ret <| At_then_ret <| At_blk_ret <| At_then_ret <| At_blk_ret <| At_then_ret <| At_blk_ret <| At_then_ret <| At_blk_ret <| At_then_ret <| At_blk_ret <| At_then_ret <| At_blk_ret <| At_then_ret <| At_blk_ret <| At_then_ret <| ?_
          refine At_r1 rfl (ResIs.t rfl) ?_
          cases hm
          exact ⟨rfl, (hs.re 5 [] rfl)⟩
         ·
          replace hm := bif_f hc69 hm
          refine WC_skip ?_
          refine At_then <| WC_seq <| WC_seq <| WC_region ?_
          refine Wo (Run_eqI (O rfl) Opd.c) rfl <| Wo (Run_assign (O rfl)) rfl <| ?_
          refine WL_nil <| At_then ?_
          refine WC_cond (O rfl) (fun hc70 => ?_) (fun hc70 => ?_)
          ·
           replace hm := bif_t hc70 hm
           refine WC_exit ?_
           refine At_then_exit <| At_then_exit <| At_blk_other rfl <| At_then_exit <| At_blk_other rfl <| At_then_exit <| At_blk_other rfl <| At_then_exit <| At_blk_other rfl <| At_then_exit <| At_blk_other rfl <| At_then_exit <| At_blk_here <| ?_
           refine At_then <| WC_seq <| WC_seq <| WC_region ?_
           refine Wo (Run_move (O rfl)) rfl <| Wo (Run_move (O rfl)) rfl <| Wo (Run_sub (O rfl) (O rfl)) rfl <| Wo (Run_assign (O rfl)) rfl <| ?_
           refine WL_nil <| At_then ?_
           refine WC_ret ?_
           refine At_then_ret <| At_blk_ret <| At_then_ret <| At_blk_ret <| At_then_ret <| At_blk_ret <| At_then_ret <| At_blk_ret <| At_then_ret <| At_blk_ret <| At_then_ret <| At_blk_ret <| At_then_ret <| At_blk_ret <| At_then_ret <| At_blk_ret <| At_then_ret <| At_blk_ret <| At_then_ret <| At_blk_ret <| At_then_ret <| At_blk_ret <| At_then_ret <| At_blk_ret <| At_then_ret <| ?_
           refine At_r1 rfl (ResIs.t rfl) ?_
           cases hm
           exact ⟨rfl, (hs.re 5 [] rfl)⟩
          ·
           replace hm := bif_f hc70 hm
           refine WC_skip ?_
           refine At_then <| WC_seq <| WC_seq <| WC_region ?_
           refine Wo (Run_eqI (O rfl) Opd.c) rfl <| Wo (Run_assign (O rfl)) rfl <| ?_
           refine WL_nil <| At_then ?_
           refine WC_cond (O rfl) (fun hc71 => ?_) (fun hc71 => ?_)
           ·
            replace hm := bif_t hc71 hm
            refine WC_exit ?_
            refine At_then_exit <| At_then_exit <| At_blk_other rfl <| At_then_exit <| At_blk_other rfl <| At_then_exit <| At_blk_other rfl <| At_then_exit <| At_blk_other rfl <| At_then_exit <| At_blk_other rfl <| At_then_exit <| At_blk_other rfl <| At_then_exit <| At_blk_here <| ?_
            refine At_then <| WC_region ?_
            refine Wo (Run_assign Opd.c) rfl <| ?_
            refine WL_nil ?_
            refine At_blk_normal ?_
            exact At_join (c12, c13, true) ⟨hm, (hs.re 5 [] rfl)⟩ rfl
           ·
            replace hm := bif_f hc71 hm
            refine WC_skip ?_
            refine At_then ?_
            refine WC_seq_cut (γ := Unit) (fun (_ : Unit) w72 => expr_Eval_K5 e c12 c13 = some r ∧ Sat (Φ) w72) (fun (_ : Unit) => [(8, true, (.int .i64 c12)), (9, true, (.int .i64 c13)), (10, true, (.bool false)), (35, true, (.int .i64 e.op))]) ?_ ?_
            ·
             rintro _ w72 ⟨hm, hs⟩
             unfold expr_Eval_K5 at hm
             refine WC_seq <| WC_seq <| WC_region ?_
             refine Wo (Run_eqI (O rfl) Opd.c) rfl <| Wo (Run_assign (O rfl)) rfl <| ?_
             refine WL_nil <| At_then ?_
             refine WC_cond (O rfl) (fun hc73 => ?_) (fun hc73 => ?_)
             ·
              replace hm := bif_t hc73 hm
              refine WC_exit ?_
              refine At_then_exit <| At_then_exit <| At_blk_other rfl <| At_then_exit <| At_blk_other rfl <| At_then_exit <| At_blk_other rfl <| At_then_exit <| At_blk_other rfl <| At_then_exit <| At_blk_other rfl <| At_then_exit <| At_blk_other rfl <| At_then_exit <| At_blk_other rfl <| At_then_exit <| At_blk_other rfl <| At_then_exit <| At_blk_here <| ?_
              refine At_then <| WC_region ?_
              refine Wo (Run_assign Opd.c) rfl <| ?_
              refine WL_nil ?_
              refine At_blk_normal ?_
              exact At_join (c12, c13, true) ⟨hm, (hs.re 0 [] rfl)⟩ rfl
             ·
              replace hm := bif_f hc73 hm
              refine WC_skip ?_
              refine At_then <| WC_seq <| WC_seq <| WC_region ?_
              refine Wo (Run_eqI (O rfl) Opd.c) rfl <| Wo (Run_assign (O rfl)) rfl <| ?_
              refine WL_nil <| At_then ?_
              refine WC_cond (O rfl) (fun hc74 => ?_) (fun hc74 => ?_)
              ·
               replace hm := bif_t hc74 hm
               refine WC_exit ?_
               refine At_then_exit <| At_then_exit <| At_blk_other rfl <| At_then_exit <| At_blk_other rfl <| At_then_exit <| At_blk_other rfl <| At_then_exit <| At_blk_other rfl <| At_then_exit <| At_blk_other rfl <| At_then_exit <| At_blk_other rfl <| At_then_exit <| At_blk_other rfl <| At_then_exit <| At_blk_other rfl <| At_then_exit <| At_blk_other rfl <| At_then_exit <| At_blk_here <| ?_
               exact At_join (c12, c13, false) ⟨hm, (hs.re 0 [] rfl)⟩ rfl
              ·
               replace hm := bif_f hc74 hm
               refine WC_skip ?_
               refine At_then <| WC_seq <| WC_seq <| WC_region ?_
               refine Wo (Run_eqI (O rfl) Opd.c) rfl <| Wo (Run_assign (O rfl)) rfl <| ?_
               refine WL_nil <| At_then ?_
               refine WC_cond (O rfl) (fun hc75 => ?_) (fun hc75 => ?_)
               ·
                replace hm := bif_t hc75 hm
                refine WC_exit ?_
                refine At_then_exit <| At_then_exit <| At_blk_other rfl <| At_then_exit <| At_blk_other rfl <| At_then_exit <| At_blk_other rfl <| At_then_exit <| At_blk_other rfl <| At_then_exit <| At_blk_other rfl <| At_then_exit <| At_blk_other rfl <| At_then_exit <| At_blk_other rfl <| At_then_exit <| At_blk_other rfl <| At_then_exit <| At_blk_other rfl <| At_then_exit <| At_blk_other rfl <| At_then_exit <| At_blk_here <| ?_
                refine At_then <| WC_region ?_
                refine Wo (Run_assign Opd.c) rfl <| ?_
                refine WL_nil ?_
                refine At_blk_normal ?_
                exact At_join (c12, c13, true) ⟨hm, (hs.re 0 [] rfl)⟩ rfl
               ·
                replace hm := bif_f hc75 hm
                refine WC_skip ?_
                refine At_then <| WC_seq <| WC_seq <| WC_region ?_
                refine Wo (Run_eqI (O rfl) Opd.c) rfl <| Wo (Run_assign (O rfl)) rfl <| ?_
                refine WL_nil <| At_then ?_
                refine WC_cond (O rfl) (fun hc76 => ?_) (fun hc76 => ?_)
                ·
                 replace hm := bif_t hc76 hm
                 refine WC_exit ?_
                 refine At_then_exit <| At_then_exit <| At_blk_other rfl <| At_then_exit <| At_blk_other rfl <| At_then_exit <| At_blk_other rfl <| At_then_exit <| At_blk_other rfl <| At_then_exit <| At_blk_other rfl <| At_then_exit <| At_blk_other rfl <| At_then_exit <| At_blk_other rfl <| At_then_exit <| At_blk_other rfl <| At_then_exit <| At_blk_other rfl <| At_then_exit <| At_blk_other rfl <| At_then_exit <| At_blk_other rfl <| At_then_exit <| At_blk_here <| ?_
                 exact At_join (c12, c13, false) ⟨hm, (hs.re 0 [] rfl)⟩ rfl
                ·
                 replace hm := bif_f hc76 hm
                 refine WC_skip ?_
                 refine At_then <| WC_seq <| WC_seq <| WC_region ?_
                 refine Wo (Run_eqI (O rfl) Opd.c) rfl <| Wo (Run_assign (O rfl)) rfl <| ?_
                 refine WL_nil <| At_then ?_
                 refine WC_cond (O rfl) (fun hc77 => ?_) (fun hc77 => ?_)
                 ·
                  replace hm := bif_t hc77 hm
                  refine WC_exit ?_
                  refine At_then_exit <| At_then_exit <| At_blk_other rfl <| At_then_exit <| At_blk_other rfl <| At_then_exit <| At_blk_other rfl <| At_then_exit <| At_blk_other rfl <| At_then_exit <| At_blk_other rfl <| At_then_exit <| At_blk_other rfl <| At_then_exit <| At_blk_other rfl <| At_then_exit <| At_blk_other rfl <| At_then_exit <| At_blk_other rfl <| At_then_exit <| At_blk_other rfl <| At_then_exit <| At_blk_other rfl <| At_then_exit <| At_blk_other rfl <| At_then_exit <| At_blk_here <| ?_
                  refine At_then <| WC_seq <| WC_seq <| WC_region ?_
                  refine Wo (Run_assign Opd.c) rfl <| ?_
                  refine WL_nil <| At_then ?_
                  refine WC_ret ?_
                  refine At_then_ret <| At_blk_ret <| At_then_ret <| At_blk_ret <| At_then_ret <| At_blk_ret <| At_then_ret <| At_blk_ret <| At_then_ret <| At_blk_ret <| At_then_ret <| ?_
                  refine At_r1 rfl (ResIs.t rfl) ?_
                  cases hm
                  exact ⟨rfl, (hs.re 0 [] rfl)⟩
                 ·
                  replace hm := bif_f hc77 hm
                  refine WC_skip ?_
                  refine At_then <| WC_seq <| WC_seq <| WC_region ?_
                  refine Wo (Run_eqI (O rfl) Opd.c) rfl <| Wo (Run_assign (O rfl)) rfl <| ?_
                  refine WL_nil <| At_then ?_
                  refine WC_cond (O rfl) (fun hc78 => ?_) (fun hc78 => ?_)
                  ·
                   replace hm := bif_t hc78 hm
                   refine WC_exit ?_
                   refine At_then_exit <| At_then_exit <| At_blk_other rfl <| At_then_exit <| At_blk_other rfl <| At_then_exit <| At_blk_other rfl <| At_then_exit <| At_blk_other rfl <| At_then_exit <| At_blk_other rfl <| At_then_exit <| At_blk_other rfl <| At_then_exit <| At_blk_other rfl <| At_then_exit <| At_blk_other rfl <| At_then_exit <| At_blk_other rfl <| At_then_exit <| At_blk_other rfl <| At_then_exit <| At_blk_other rfl <| At_then_exit <| At_blk_other rfl <| At_then_exit <| At_blk_other rfl <| At_then_exit <| At_blk_here <| ?_
                   refine At_then <| WC_seq <| WC_seq <| WC_region ?_
                   refine Wo (Run_move (O rfl)) rfl <| Wo (Run_sub Opd.c (O rfl)) rfl <| Wo (Run_assign (O rfl)) rfl <| ?_
                   refine WL_nil <| At_then ?_
                   refine WC_ret ?_
                   refine At_then_ret <| At_blk_ret <| At_then_ret <| At_blk_ret <| At_then_ret <| At_blk_ret <| At_then_ret <| At_blk_ret <| At_then_ret <| ?_
                   refine At_r1 rfl (ResIs.t rfl) ?_
                   cases hm
                   exact ⟨rfl, (hs.re 0 [] rfl)⟩
                  ·
                   replace hm := bif_f hc78 hm
                   refine WC_skip ?_
                   refine At_then <| WC_seq <| WC_seq <| WC_region ?_
                   refine Wo (Run_eqI (O rfl) Opd.c) rfl <| Wo (Run_assign (O rfl)) rfl <| ?_
                   refine WL_nil <| At_then ?_
                   refine WC_cond (O rfl) (fun hc79 => ?_) (fun hc79 => ?_)
                   ·
                    replace hm := bif_t hc79 hm
                    refine WC_exit ?_
                    refine At_then_exit <| At_then_exit <| At_blk_other rfl <| At_then_exit <| At_blk_other rfl <| At_then_exit <| At_blk_other rfl <| At_then_exit <| At_blk_other rfl <| At_then_exit <| At_blk_other rfl <| At_then_exit <| At_blk_other rfl <| At_then_exit <| At_blk_other rfl <| At_then_exit <| At_blk_other rfl <| At_then_exit <| At_blk_other rfl <| At_then_exit <| At_blk_other rfl <| At_then_exit <| At_blk_other rfl <| At_then_exit <| At_blk_other rfl <| At_then_exit <| At_blk_other rfl <| At_then_exit <| At_blk_other rfl <| At_then_exit <| At_blk_here <| ?_
                    refine At_then <| WC_seq <| WC_seq <| WC_region ?_
                    refine Wo (Run_move (O rfl)) rfl <| Wo (Run_move (O rfl)) rfl <| Wo (Run_mul (O rfl) (O rfl)) rfl <| Wo (Run_assign (O rfl)) rfl <| ?_
                    refine WL_nil <| At_then ?_
                    refine WC_ret ?_
                    refine At_then_ret <| At_blk_ret <| At_then_ret <| At_blk_ret <| At_then_ret <| At_blk_ret <| At_then_ret <| ?_
                    refine At_r1 rfl (ResIs.t rfl) ?_
                    cases hm
                    exact ⟨rfl, (hs.re 0 [] rfl)⟩
                   ·
                    replace hm := bif_f hc79 hm
                    refine WC_skip ?_
                    refine At_then <| WC_seq <| WC_seq <| WC_region ?_
                    refine Wo (Run_eqI (O rfl) Opd.c) rfl <| Wo (Run_assign (O rfl)) rfl <| ?_
                    refine WL_nil <| At_then ?_
                    refine WC_cond (O rfl) (fun hc80 => ?_) (fun hc80 => ?_)
                    ·
                     replace hm := bif_t hc80 hm
                     refine WC_exit ?_
                     refine At_then_exit <| At_then_exit <| At_blk_other rfl <| At_then_exit <| At_blk_other rfl <| At_then_exit <| At_blk_other rfl <| At_then_exit <| At_blk_other rfl <| At_then_exit <| At_blk_other rfl <| At_then_exit <| At_blk_other rfl <| At_then_exit <| At_blk_other rfl <| At_then_exit <| At_blk_other rfl <| At_then_exit <| At_blk_other rfl <| At_then_exit <| At_blk_other rfl <| At_then_exit <| At_blk_other rfl <| At_then_exit <| At_blk_other rfl <| At_then_exit <| At_blk_other rfl <| At_then_exit <| At_blk_other rfl <| At_then_exit <| At_blk_other rfl <| At_then_exit <| At_blk_here <| ?_
                     refine At_then <| WC_seq <| WC_seq <| WC_region ?_
                     refine Wo (Run_move (O rfl)) rfl <| Wo (Run_move (O rfl)) rfl <| Wo (Run_max2 (O rfl) (O rfl) (fun _ => run_maxI _ _ _ _ _ _)) rfl <| Wo (Run_assign (O rfl)) rfl <| ?_
                     refine WL_nil <| At_then ?_
                     refine WC_ret ?_
                     refine At_then_ret <| At_blk_ret <| At_then_ret <| At_blk_ret <| At_then_ret <| ?_
                     refine At_r1 rfl (ResIs.t rfl) ?_
                     cases hm
                     exact ⟨rfl, (hs.re 0 [] rfl)⟩
                    ·
                     replace hm := bif_f hc80 hm
                     refine WC_skip ?_
                     refine At_then <| WC_seq <| WC_region ?_
                     refine Wo (Run_eqI (O rfl) Opd.c) rfl <| Wo (Run_assign (O rfl)) rfl <| ?_
                     refine WL_nil <| At_then ?_
                     refine WC_cond (O rfl) (fun hc81 => ?_) (fun hc81 => ?_)
                     ·
                      replace hm := bif_t hc81 hm
                      refine WC_exit ?_
                      refine At_then_exit <| At_blk_other rfl <| At_then_exit <| At_blk_other rfl <| At_then_exit <| At_blk_other rfl <| At_then_exit <| At_blk_other rfl <| At_then_exit <| At_blk_other rfl <| At_then_exit <| At_blk_other rfl <| At_then_exit <| At_blk_other rfl <| At_then_exit <| At_blk_other rfl <| At_then_exit <| At_blk_other rfl <| At_then_exit <| At_blk_other rfl <| At_then_exit <| At_blk_other rfl <| At_then_exit <| At_blk_other rfl <| At_then_exit <| At_blk_other rfl <| At_then_exit <| At_blk_other rfl <| At_then_exit <| At_blk_other rfl <| At_then_exit <| At_blk_other rfl <| At_then_exit <| At_blk_here <| ?_
                      refine At_then <| WC_seq <| WC_seq <| WC_region ?_
                      refine Wo (Run_move (O rfl)) rfl <| Wo (Run_sub Opd.c (O rfl)) rfl <| Wo (Run_move (O rfl)) rfl <| Wo (Run_max2 (O rfl) (O rfl) (fun _ => run_maxI _ _ _ _ _ _)) rfl <| Wo (Run_assign (O rfl)) rfl <| ?_
                      refine WL_nil <| At_then ?_
                      refine WC_ret ?_
                      refine At_then_ret <| At_blk_ret <| At_then_ret <| ?_
                      refine At_r1 rfl (ResIs.t rfl) ?_
                      cases hm
                      exact ⟨rfl, (hs.re 0 [] rfl)⟩
                     ·
                      replace hm := bif_f hc81 hm
                      refine WC_skip ?_
                      refine At_then ?_
                      refine WC_exit ?_
                      refine At_blk_other rfl <| At_then_exit <| At_blk_other rfl <| At_then_exit <| At_blk_other rfl <| At_then_exit <| At_blk_other rfl <| At_then_exit <| At_blk_other rfl <| At_then_exit <| At_blk_other rfl <| At_then_exit <| At_blk_other rfl <| At_then_exit <| At_blk_other rfl <| At_then_exit <| At_blk_other rfl <| At_then_exit <| At_blk_other rfl <| At_then_exit <| At_blk_other rfl <| At_then_exit <| At_blk_other rfl <| At_then_exit <| At_blk_other rfl <| At_then_exit <| At_blk_other rfl <| At_then_exit <| At_blk_other rfl <| At_then_exit <| At_blk_other rfl <| At_then_exit <| At_blk_other rfl <| At_then_exit <| At_blk_here <| ?_
                      refine At_then <| WC_seq <| WC_region ?_
                      refine Wo (Run_assign Opd.c) rfl <| ?_
                      refine WL_nil <| At_then ?_
                      refine WC_ret ?_
                      refine At_r1 rfl (ResIs.t rfl) ?_
                      cases hm
                      exact ⟨rfl, (hs.re 0 [] rfl)⟩
            ·
             refine WC_seq_cut (γ := Bool) (fun t83 w82 => expr_Eval_K6 e c12 c13 t83 = some r ∧ Sat (Φ) w82) (fun t83 => [(8, true, (.int .i64 c12)), (9, true, (.int .i64 c13)), (10, true, (.bool false)), (35, true, (.int .i64 e.op)), (50, true, (.bool t83))]) ?_ ?_
             ·
              rintro t83 w82 ⟨hm, hs⟩
              unfold expr_Eval_K6 at hm
              refine WC_cond (O rfl) (fun hc84 => ?_) (fun hc84 => ?_)
              ·
               replace hm := bif_t hc84 hm
               refine WC_exit ?_
               refine At_then_exit <| At_then_exit <| At_blk_other rfl <| At_then_exit <| At_blk_other rfl <| At_then_exit <| At_blk_other rfl <| At_then_exit <| At_blk_other rfl <| At_then_exit <| At_blk_other rfl <| At_then_exit <| At_blk_other rfl <| At_then_exit <| At_blk_other rfl <| At_then_exit <| At_blk_here <| ?_
               exact At_join (c12, c13, false) ⟨hm, (hs.re 0 [] rfl)⟩ rfl
              ·
               replace hm := bif_f hc84 hm
               refine WC_skip ?_
               exact At_join () ⟨hm, (hs.re 0 [] rfl)⟩ rfl
             ·
              refine WC_seq <| WC_region ?_
              refine Wo (Run_eqI (O rfl) Opd.c) rfl <| Wo (Run_assign (O rfl)) rfl <| ?_
              refine WL_nil <| At_then ?_
              refine WC_cond (O rfl) (fun hc85 => ?_) (fun hc85 => ?_)
              ·
               replace hm := bif_t hc85 hm
               refine WC_skip ?_
               exact At_join (e.op == 7) ⟨hm, (hs.re 5 [] rfl)⟩ rfl
              ·
               replace hm := bif_f hc85 hm
               refine WC_region ?_
               refine Wo (Run_eqI (O rfl) Opd.c) rfl <| Wo (Run_assign (O rfl)) rfl <| ?_
               refine WL_nil ?_
               exact At_join (e.op == 19) ⟨hm, (hs.re 5 [] rfl)⟩ rfl
set_option maxRecDepth 100000 in
set_option maxHeartbeats 4000000 in
theorem expr_Eval_ok {Φ : Ctx} {w : World} {e : Ex} {v3 : (List Int)} {v1 : SLV} {v4 : SLV} {r : Int} (hs : Sat (imm (RSl RExpr) [sl v1] e.l :: imm (RSl (RI .i64)) [sl v4] v3 :: Φ) w) (hm : expr_Eval e v3 = some r) :
  CallsR Tryd.prog 28 [(.agg #[(.int .i64 e.op), (.int .i64 e.n), (.int .i64 e.at_), (sl v1)]), (sl v4)] w (fun v w' => v = (.int .i64 r) ∧ Sat (Φ) w') := by
 have key : ∀ (N : Nat) {Φ : Ctx} {w : World} {e : Ex} {v3 : (List Int)} {v1 : SLV} {v4 : SLV} {r : Int}, Sat (imm (RSl RExpr) [sl v1] e.l :: imm (RSl (RI .i64)) [sl v4] v3 :: Φ) w → fixN (fun k (s : (Ex × (List Int))) => expr_Eval_F k s.1 s.2) N (e, v3) = some r → CallsR Tryd.prog 28 [(.agg #[(.int .i64 e.op), (.int .i64 e.n), (.int .i64 e.at_), (sl v1)]), (sl v4)] w (fun v w' => v = (.int .i64 r) ∧ Sat (Φ) w') := by
  intro N
  induction N with
  | zero => intros; rename_i h; cases h
  | succ N ih => intros; rename_i hs hm; rw [fixN_succ] at hm; exact expr_Eval_F_ok (@ih) hs hm
 unfold expr_Eval at hm
 exact key FUEL hs hm
end Go.Proofs.YtjdabjpjafkogaaDoor
namespace Go.Proofs.YtjdabjpjafkogaaDoor
open Go.Proofs
set_option maxRecDepth 100000 in
set_option maxHeartbeats 4000000 in
theorem step_Enabled_ok {Φ : Ctx} {w : World} {m : ((List Str) × (List (Int × Int)) × (List Int) × (List Str) × (List (Int × Ex × (List (Int × Ex)))))} {v11 : (List Int)} {v1 : SLV} {v3 : SLV} {v5 : SLV} {v7 : SLV} {v9 : SLV} {v12 : SLV} {r : (List Int)} (hs : Sat (imm (RSl RS) [sl v1] m.1 :: imm (RSl (RP (RI .i64) (RI .i64))) [sl v3] m.2.1 :: imm (RSl (RI .i64)) [sl v5] m.2.2.1 :: imm (RSl RS) [sl v7] m.2.2.2.1 :: imm (RSl (RP (RI .i64) (RP RExpr (RSl (RP (RI .i64) RExpr))))) [sl v9] m.2.2.2.2 :: imm (RSl (RI .i64)) [sl v12] v11 :: Φ) w) (hm : step_Enabled m v11 = some r) :
  CallsR Tryd.prog 17 [(.agg #[(sl v1), (sl v3), (sl v5), (sl v7), (sl v9)]), (sl v12)] w (fun v w' => ∃ v4 : SLV, ∃ R5 : List Nat, v = (sl v4) ∧ Sat (osl (RI .i64) 3 (sl v4) r R5 :: Φ) w') := by
 refine CallsX_enter Tryd.func17 rfl Tryd.ntmps17 rfl ?_
 unfold step_Enabled at hm
 refine WC_seq <| WC_region ?_
 refine WS_box (zs := [(sl v1), (sl v3), (sl v5), (sl v7), (sl v9)]) hs (O rfl) rfl rfl ?_
 intro b6 w7 hs
 replace hs := Sat.n7 (Γ := Φ) hs rfl
 refine Wo (Run_assign Opd.c) rfl <| ?_
 refine WL_nil <| At_then <| WC_seq <| WC_region ?_
 refine Wo (Run_assign Opd.c) rfl <| ?_
 refine WL_nil <| At_then <| WC_seq <| WC_seq <| WC_region ?_
 refine Wo (Run_fieldAddr fo28_4 (O rfl)) rfl <| Wo (Run_load1 (v := (sl v9)) Tryd.underlying26 rfl (O rfl) (fun _ => (hs.box (i := 0) rfl).part 4 rfl)) rfl <| Wo (Run_lenSlG Tryd.underlying26 (O rfl) (fun hg => (hs.sl (i := 5) rfl).len)) rfl <| Wo (Run_move Opd.c) rfl <| ?_
 refine WL_nil <| At_then ?_
 refine WC_block ?_
 replace hs := hs.addNil (RI .i64) 3
 refine WC_loop (σ := (List Int) × Int) (γ := SLV × List Nat) (F := (step_Enabled_L1 m v11)) (N := FUEL) (s0 := ([], 0)) (r := r) (fun ⟨out9, t12⟩ ⟨v10, R11⟩ w8 => Sat (imm (RSl (RI .i64)) [sl v12] v11 :: osl (RI .i64) 3 (sl v10) out9 R11 :: imm (RSl (RP (RI .i64) (RP RExpr (RSl (RP (RI .i64) RExpr))))) [sl v9] m.2.2.2.2 :: Φ) w8) (fun ⟨out9, t12⟩ ⟨v10, R11⟩ => [(1, true, (sl v12)), (5, true, (sl v10)), (9, true, (sl v9)), (10, true, (.int .i64 (List.length m.2.2.2.2 : Int))), (11, true, (.int .i64 t12))]) hm ((none, 0, 0), []) (hs.re 8 [7, 0, 6] rfl) rfl ?_
 rintro again13 ⟨out9, t12⟩ ⟨v10, R11⟩ w8 hm hs
 unfold step_Enabled_L1 at hm
 dsimp only at hm
 refine WC_seq <| WC_region ?_
 refine Wo (Run_ltI (O rfl) (O rfl)) rfl <| ?_
 refine WL_nil <| At_then <| WC_seq ?_
 refine WC_cond (O rfl) (fun hc14 => ?_) (fun hc14 => ?_)
 ·
  replace hm := bif_t hc14 hm
  refine WC_skip ?_
  refine At_then <| WC_seq ?_
  refine WC_block ?_
  refine WC_seq <| WC_region ?_
  refine Wo (Run_move (O rfl)) rfl <| ?_
  obtain ⟨e15, he16, hm⟩ := bind_some' hm
  obtain ⟨v17, v18, hC19, hN20, hR21, hR22⟩ := cellsM60 (g := true) (fun hg => (hs.sl (i := 2) rfl)) (fun hg => he16)
  replace hs := hs.addL [elem true (elA (sl v9) t12 6) [(.int .i64 e15.1), (.int .i64 e15.2.1.op), (.int .i64 e15.2.1.n), (.int .i64 e15.2.1.at_), (sl v17), (sl v18)], imm (RSl RExpr) [sl v17] e15.2.1.l, imm (RSl (RP (RI .i64) RExpr)) [sl v18] e15.2.2] rfl ⟨fun hg => ⟨hN20 hg, hC19 hg⟩, ⟨_, rfl, hR21 rfl⟩, ⟨_, rfl, hR22 rfl⟩, trivial⟩
  replace hs := Sat.n6 (Γ := Φ) hs rfl
  refine WL_op (Run_idxAddr (p := (elA (sl v9) t12 6)) Tryd.underlying26 ti60 (O rfl) (O rfl) (fun hg => (SRd.atA (A := (RP (RI .i64) (RP RExpr (RSl (RP (RI .i64) RExpr))))) (v := (sl v9)) (hs.sl (i := 5) rfl) he16).1)) rfl rfl rfl rfl <| Wo (Run_loadA (vs := [(.int .i64 e15.1), (.int .i64 e15.2.1.op), (.int .i64 e15.2.1.n), (.int .i64 e15.2.1.at_), (sl v17), (sl v18)]) Tryd.underlying60 rfl ti60 (O rfl) (fun hg => ((hs.elem (i := 0) rfl) hg).sub 0 rfl) rfl) rfl <| ?_
  refine WS_alloc (zs := [(.int .i64 0), (.int .i64 0), (.int .i64 0), (.int .i64 0), (sl (none, 0, 0)), (sl (none, 0, 0))]) hs ti60 rfl rfl ?_
  intro b23 w24 hs
  replace hs := Sat.n7 (Γ := Φ) hs rfl
  refine Wo (Run_assign (O rfl)) rfl <| ?_
  refine WS_store (us := [(.int .i64 e15.1), (.int .i64 e15.2.1.op), (.int .i64 e15.2.1.n), (.int .i64 e15.2.1.at_), (sl v17), (sl v18)]) (vs' := [(.int .i64 e15.1), (.int .i64 e15.2.1.op), (.int .i64 e15.2.1.n), (.int .i64 e15.2.1.at_), (sl v17), (sl v18)]) hs 0 rfl ti60 (O rfl) (O rfl) rfl rfl rfl rfl rfl ?_
  intro w25 hs
  replace hs := Sat.n7 (Γ := Φ) hs rfl
  refine WL_nil <| At_then <| WC_seq <| WC_region ?_
  refine Wo (Run_fieldAddr fo60_1 (O rfl)) rfl <| Wo (Run_loadA (vs := [(.int .i64 e15.2.1.op), (.int .i64 e15.2.1.n), (.int .i64 e15.2.1.at_), (sl v17)]) Tryd.underlying57 rfl ti57 (O rfl) (fun _ => (hs.box (i := 0) rfl).part 1 rfl) rfl) rfl <| Wo (Run_move (O rfl)) rfl <| ?_
  obtain ⟨r26, hr27, hm⟩ := bind_some' hm
  refine WL_call (f := 28) (first := []) (cap := []) (xs := [(.tmp 17), (.tmp 18)]) (vs := [(.agg #[(.int .i64 e15.2.1.op), (.int .i64 e15.2.1.n), (.int .i64 e15.2.1.at_), (sl v17)]), (sl v12)]) (args := [(.agg #[(.int .i64 e15.2.1.op), (.int .i64 e15.2.1.n), (.int .i64 e15.2.1.at_), (sl v17)]), (sl v12)]) Tryd.call28 Opd.f (.cons (O rfl) (.cons (O rfl) .nil)) rfl rfl (expr_Eval_ok (hs.re 7 [2, 4, 0, 1, 2, 3, 4, 5, 6] rfl) hr27) ?_
  rintro _ w28 ⟨rfl, hs⟩
  replace hs := Sat.n7 (Γ := Φ) hs rfl
  refine Wo (Run_eqI (O rfl) Opd.c) rfl <| ?_
  refine WL_nil <| At_then ?_
  refine WC_cond (O rfl) (fun hc29 => ?_) (fun hc29 => ?_)
  ·
   replace hm := bif_t hc29 hm
   refine WC_region ?_
   refine Wo (Run_move (O rfl)) rfl <| Wo (Run_move (O rfl)) rfl <| ?_
   refine WS_lit (A := (RI .i64)) (xs := [t12]) (zs := [(.int .i64 0)]) (cells := [(.int .i64 t12)]) (parts := [(0, (.tmp 22))]) hs Tryd.underlying22 ti3 rfl rfl rfl (.cons (O rfl) .nil) (by kernel_rfl) rfl (ARd.cons (A := (RI .i64)) (c := [(.int .i64 t12)]) (x := t12) rfl ARd.nil) rfl ?_
   intro b30 w31 hs
   replace hs := Sat.n8 (Γ := Φ) hs rfl
   replace hs := hs.freeze (i := 0) rfl
   obtain ⟨k32, hm⟩ := chk_some hm
   refine WS_append (A := (RI .i64)) hs 6 rfl Tryd.underlying22 ti3 rfl rfl (O rfl) (O rfl) (hs.sl (i := 0) rfl) k32 rfl ?_
   intro v33 R34 w35 hs
   replace hs := Sat.n8 (Γ := Φ) hs rfl
   refine Wo (Run_assign (O rfl)) rfl <| ?_
   refine WL_nil ?_
   refine At_blk_normal ?_
   refine At_then <| WC_region ?_
   refine Wo (Run_add (O rfl) Opd.c) rfl <| Wo (Run_move (O rfl)) rfl <| ?_
   refine WL_nil ?_
   exact At_again ((out9 ++ ([t12] : List Int)), (IntKind.i64.wrap (t12 + 1))) (v33, R34) hm (hs.re 8 [5, 6, 7] rfl) rfl
  ·
   replace hm := bif_f hc29 hm
   refine WC_skip ?_
   refine At_blk_normal ?_
   refine At_then <| WC_region ?_
   refine Wo (Run_add (O rfl) Opd.c) rfl <| Wo (Run_move (O rfl)) rfl <| ?_
   refine WL_nil ?_
   exact At_again (out9, (IntKind.i64.wrap (t12 + 1))) (v10, R11) hm (hs.re 7 [4, 5, 6] rfl) rfl
 ·
  replace hm := bif_f hc14 hm
  refine WC_exit ?_
  refine At_then_exit <| At_then_exit <| At_blk_here <| ?_
  refine At_then <| WC_seq <| WC_region ?_
  refine Wo (Run_move (O rfl)) rfl <| Wo (Run_assign (O rfl)) rfl <| ?_
  refine WL_nil <| At_then ?_
  refine WC_ret ?_
  refine At_r1 rfl (ResIs.t rfl) ?_
  cases hm
  exact ⟨v10, R11, rfl, (hs.re 3 [1] rfl)⟩
set_option maxRecDepth 100000 in
set_option maxHeartbeats 4000000 in
theorem schema_span_has_ok {Φ : Ctx} {w : World} {f : (Int × Int)} {n : Int} {r : Bool} (hs : Sat (Φ) w) (hm : schema_span_has f n = some r) :
  CallsR Tryd.prog 44 [(.agg #[(.int .i64 f.1), (.int .i64 f.2)]), (.int .i64 n)] w (fun v w' => v = (.bool r) ∧ Sat (Φ) w') := by
 refine CallsX_enter Tryd.func44 rfl Tryd.ntmps44 rfl ?_
 unfold schema_span_has at hm
 refine WC_seq <| WC_region ?_
 refine WS_box (zs := [(.int .i64 f.1), (.int .i64 f.2)]) hs (O rfl) rfl rfl ?_
 intro b3 w4 hs
 replace hs := Sat.n1 (Γ := Φ) hs rfl
 refine Wo (Run_assign Opd.c) rfl <| ?_
 refine WL_nil <| At_then <| WC_seq <| WC_region ?_
 refine Wo (Run_move (O rfl)) rfl <| Wo (Run_fieldAddr fo95_0 (O rfl)) rfl <| Wo (Run_load1 (v := (.int .i64 f.1)) Tryd.underlying3 rfl (O rfl) (fun _ => (hs.box (i := 0) rfl).part 0 rfl)) rfl <| ?_
 obtain ⟨b5, e6, hm⟩ := letv_some hm
 refine Wo (Run.eqB (Run_geI (O rfl) (O rfl)) e6) rfl <| Wo (Run_move (O rfl)) rfl <| WL_opG rfl rfl rfl rfl guard_pos (Run_move (O rfl)) rfl rfl rfl <| WL_opG rfl rfl rfl rfl guard_pos (Run_fieldAddr fo95_1 (O rfl)) rfl rfl rfl <| WL_opG rfl rfl rfl rfl guard_pos (Run_load1 (v := (.int .i64 f.2)) Tryd.underlying3 rfl (Opd.g rfl id) (fun _ => (hs.box (i := 0) rfl).part 1 rfl)) rfl rfl rfl <| ?_
 obtain ⟨b7, e8, hm⟩ := letv_some hm
 refine WL_opG rfl rfl rfl rfl guard_pos (Run.eqB (Run_leI (Opd.g rfl id) (Opd.g rfl id)) e8) rfl rfl rfl <| ?_
 obtain ⟨b9, e10, hm⟩ := letv_some hm
 refine Wo (Run.eqB (Run_and (O rfl) (Opd.g rfl id)) e10) rfl <| Wo (Run_assign (O rfl)) rfl <| ?_
 refine WL_nil <| At_then ?_
 refine WC_ret ?_
 refine At_r1 rfl (ResIs.t rfl) ?_
 cases hm
 exact ⟨rfl, (hs.re 1 [] rfl)⟩
set_option maxRecDepth 100000 in
set_option maxHeartbeats 4000000 in
theorem schema_In_s2_ok {Φ : Ctx} {w : World} {s : (List (Int × Int))} {v3 : (List Int)} {v1 : SLV} {v4 : SLV} {R : List Nat} {r : Int} (hs : Sat (imm (RSl (RP (RI .i64) (RI .i64))) [sl v1] s :: osl (RI .i64) 3 (sl v4) v3 R :: Φ) w) (hm : schema_In_s2 s v3 = some r) :
  CallsR Tryd.prog 29 [(sl v1), (sl v4)] w (fun v w' => v = (.int .i64 r) ∧ Sat (osl (RI .i64) 3 (sl v4) v3 R :: Φ) w') := by
 refine CallsX_enter Tryd.func29 rfl Tryd.ntmps29 rfl ?_
 unfold schema_In_s2 at hm
 refine WC_seq <| WC_region ?_
 refine Wo (Run_assign Opd.c) rfl <| ?_
 refine WL_nil <| At_then <| WC_seq <| WC_seq <| WC_region ?_
 refine Wo (Run_move (O rfl)) rfl <| Wo (Run_lenSlG Tryd.underlying22 (O rfl) (fun _ => (hs.own (i := 1) rfl).len)) rfl <| Wo (Run_move (O rfl)) rfl <| Wo (Run_lenSlG Tryd.underlying25 (O rfl) (fun hg => (hs.sl (i := 0) rfl).len)) rfl <| Wo (Run_neI (O rfl) (O rfl)) rfl <| ?_
 refine WL_nil <| At_then ?_
 refine WC_cond (O rfl) (fun hc3 => ?_) (fun hc3 => ?_)
 ·
  replace hm := bif_t hc3 hm
  refine WC_seq <| WC_region ?_
  refine Wo (Run_assign Opd.c) rfl <| ?_
  refine WL_nil <| At_then ?_
  refine WC_ret ?_
  refine At_then_ret <| ?_
  refine At_r1 rfl (ResIs.t rfl) ?_
  cases hm
  exact ⟨rfl, (hs.re 2 [1] rfl)⟩
 ·
  replace hm := bif_f hc3 hm
  refine WC_skip ?_
  refine At_then <| WC_seq <| WC_seq <| WC_region ?_
  refine Wo (Run_move (O rfl)) rfl <| Wo (Run_lenSlG Tryd.underlying22 (O rfl) (fun _ => (hs.own (i := 1) rfl).len)) rfl <| Wo (Run_move Opd.c) rfl <| ?_
  refine WL_nil <| At_then ?_
  refine WC_block ?_
  refine WC_loop (σ := Int) (γ := Unit) (F := (schema_In_s2_L1 s v3)) (N := FUEL) (s0 := 0) (r := r) (fun t5 (_ : Unit) w4 => Sat (imm (RSl (RP (RI .i64) (RI .i64))) [sl v1] s :: osl (RI .i64) 3 (sl v4) v3 R :: Φ) w4) (fun t5 (_ : Unit) => [(0, true, (sl v1)), (12, true, (sl v4)), (13, true, (.int .i64 (List.length v3 : Int))), (14, true, (.int .i64 t5))]) hm () (hs.re 2 [0, 1] rfl) rfl ?_
  rintro again6 t5 _ w4 hm hs
  unfold schema_In_s2_L1 at hm
  refine WC_seq <| WC_region ?_
  refine Wo (Run_ltI (O rfl) (O rfl)) rfl <| ?_
  refine WL_nil <| At_then <| WC_seq ?_
  refine WC_cond (O rfl) (fun hc7 => ?_) (fun hc7 => ?_)
  ·
   replace hm := bif_t hc7 hm
   refine WC_skip ?_
   refine At_then <| WC_seq ?_
   refine WC_block ?_
   refine WC_seq <| WC_region ?_
   refine Wo (Run_move (O rfl)) rfl <| ?_
   obtain ⟨e8, he9, hm⟩ := bind_some' hm
   refine Wo (Run_idxAddr (p := (elA (sl v4) t5 1)) Tryd.underlying22 ti3 (O rfl) (O rfl) (fun hg => (Own.atA (A := (RI .i64)) (v := (sl v4)) (hs.own (i := 1) rfl) he9).1)) rfl <| Wo (Run_load1 (v := (.int .i64 e8)) Tryd.underlying3 rfl (O rfl) (fun hg => (Own.cellsF (A := (RI .i64)) (v := (sl v4)) (hs.own (i := 1) rfl) he9 (fun _ h => openT3 h)).sub 0 rfl)) rfl <| Wo (Run_assign (O rfl)) rfl <| Wo (Run_assign (O rfl)) rfl <| ?_
   refine WL_nil <| At_then <| WC_seq <| WC_region ?_
   refine Wo (Run_move (O rfl)) rfl <| Wo (Run_move (O rfl)) rfl <| ?_
   obtain ⟨e10, he11, hm⟩ := bind_some' hm
   refine Wo (Run_idxAddr (p := (elA (sl v1) t5 2)) Tryd.underlying25 ti72 (O rfl) (O rfl) (fun hg => (SRd.atA (A := (RP (RI .i64) (RI .i64))) (v := (sl v1)) (hs.sl (i := 0) rfl) he11).1)) rfl <| Wo (Run_loadA (vs := [(.int .i64 e10.1), (.int .i64 e10.2)]) Tryd.underlying72 rfl ti72 (O rfl) (fun hg => (SRd.cellsF (A := (RP (RI .i64) (RI .i64))) (v := (sl v1)) (hs.sl (i := 0) rfl) he11 (fun _ h => openT72 h)).sub 0 rfl) rfl) rfl <| Wo (Run_move (O rfl)) rfl <| ?_
   obtain ⟨r12, hr13, hm⟩ := bind_some' hm
   refine WL_call (f := 44) (first := []) (cap := []) (xs := [(.tmp 22), (.tmp 23)]) (vs := [(.agg #[(.int .i64 e10.1), (.int .i64 e10.2)]), (.int .i64 e8)]) (args := [(.agg #[(.int .i64 e10.1), (.int .i64 e10.2)]), (.int .i64 e8)]) Tryd.call44 Opd.f (.cons (O rfl) (.cons (O rfl) .nil)) rfl rfl (schema_span_has_ok (hs.re 2 [0, 1] rfl) hr13) ?_
   rintro _ w14 ⟨rfl, hs⟩
   replace hs := Sat.n2 (Γ := Φ) hs rfl
   refine Wo (Run_notB (O rfl)) rfl <| ?_
   refine WL_nil <| At_then ?_
   refine WC_cond (O rfl) (fun hc15 => ?_) (fun hc15 => ?_)
   ·
    replace hm := bif_t hc15 hm
    refine WC_seq <| WC_region ?_
    refine Wo (Run_assign Opd.c) rfl <| ?_
    refine WL_nil <| At_then ?_
    refine WC_ret ?_
    refine At_blk_ret <| At_then_ret <| At_then_ret <| At_blk_ret <| At_then_ret <| ?_
    refine At_r1 rfl (ResIs.t rfl) ?_
    cases hm
    exact ⟨rfl, (hs.re 2 [1] rfl)⟩
   ·
    replace hm := bif_f hc15 hm
    refine WC_skip ?_
    refine At_blk_normal ?_
    refine At_then <| WC_region ?_
    refine Wo (Run_add (O rfl) Opd.c) rfl <| Wo (Run_move (O rfl)) rfl <| ?_
    refine WL_nil ?_
    exact At_again (IntKind.i64.wrap (t5 + 1)) () hm (hs.re 2 [0, 1] rfl) rfl
  ·
   replace hm := bif_f hc7 hm
   refine WC_exit ?_
   refine At_then_exit <| At_then_exit <| At_blk_here <| ?_
   refine At_then <| WC_seq <| WC_region ?_
   refine Wo (Run_assign Opd.c) rfl <| ?_
   refine WL_nil <| At_then ?_
   refine WC_ret ?_
   refine At_r1 rfl (ResIs.t rfl) ?_
   cases hm
   exact ⟨rfl, (hs.re 2 [1] rfl)⟩
set_option maxRecDepth 100000 in
set_option maxHeartbeats 4000000 in
theorem step_Fire_ok {Φ : Ctx} {w : World} {m : ((List Str) × (List (Int × Int)) × (List Int) × (List Str) × (List (Int × Ex × (List (Int × Ex)))))} {v11 : (List Int)} {k : Int} {v1 : SLV} {v3 : SLV} {v5 : SLV} {v7 : SLV} {v9 : SLV} {v12 : SLV} {r : ((List Int) × Int)} (hs : Sat (imm (RSl RS) [sl v1] m.1 :: imm (RSl (RP (RI .i64) (RI .i64))) [sl v3] m.2.1 :: imm (RSl (RI .i64)) [sl v5] m.2.2.1 :: imm (RSl RS) [sl v7] m.2.2.2.1 :: imm (RSl (RP (RI .i64) (RP RExpr (RSl (RP (RI .i64) RExpr))))) [sl v9] m.2.2.2.2 :: imm (RSl (RI .i64)) [sl v12] v11 :: Φ) w) (hm : step_Fire m v11 k = some r) :
  CallsR Tryd.prog 12 [(.agg #[(sl v1), (sl v3), (sl v5), (sl v7), (sl v9)]), (sl v12), (.int .i64 k)] w (fun v w' => ∃ v4 : SLV, ∃ R5 : List Nat, v = (.tuple #[(sl v4), (.int .i64 r.2)]) ∧ Sat (osl (RI .i64) 3 (sl v4) r.1 R5 :: Φ) w') := by
 refine CallsX_enter Tryd.func12 rfl Tryd.ntmps12 rfl ?_
 unfold step_Fire at hm
 refine WC_seq <| WC_region ?_
 refine WS_box (zs := [(sl v1), (sl v3), (sl v5), (sl v7), (sl v9)]) hs (O rfl) rfl rfl ?_
 intro b7 w8 hs
 replace hs := Sat.n7 (Γ := Φ) hs rfl
 refine Wo (Run_assign Opd.c) rfl <| Wo (Run_assign Opd.c) rfl <| ?_
 refine WL_nil <| At_then <| WC_seq <| WC_seq <| WC_region ?_
 refine Wo (Run_move (O rfl)) rfl <| ?_
 obtain ⟨b9, e10, hm⟩ := letv_some hm
 refine Wo (Run.eqB (Run_ltI (O rfl) Opd.c) e10) rfl <| Wo (Run_move (O rfl)) rfl <| Wg rfl guard_neg (Run_move (O rfl)) rfl <| Wg rfl guard_neg (Run_fieldAddr fo28_4 (O rfl)) rfl <| Wg rfl guard_neg (Run_load1 (v := (sl v9)) Tryd.underlying26 rfl (Opd.g rfl id) (fun _ => (hs.box (i := 0) rfl).part 4 rfl)) rfl <| Wg rfl guard_neg (Run_lenSlG Tryd.underlying26 (Opd.g rfl id) (fun hg => (hs.sl (i := 5) rfl).len)) rfl <| ?_
 obtain ⟨b11, e12, hm⟩ := letv_some hm
 refine Wg rfl guard_neg (Run.eqB (Run_geI (Opd.g rfl id) (Opd.g rfl id)) e12) rfl <| ?_
 obtain ⟨b13, e14, hm⟩ := letv_some hm
 refine Wo (Run.eqB (Run_or (O rfl) (Opd.g rfl id)) e14) rfl <| ?_
 refine WL_nil <| At_then ?_
 refine WC_cond (O rfl) (fun hc15 => ?_) (fun hc15 => ?_)
 ·
  replace hm := bif_t hc15 hm
  refine WC_seq <| WC_region ?_
  refine Wo (Run_assign Opd.c) rfl <| Wo (Run_assign Opd.c) rfl <| ?_
  refine WL_nil <| At_then ?_
  refine WC_ret ?_
  refine At_then_ret <| ?_
  refine At_r2 rfl (ResIs.t rfl) (ResIs.t rfl) ?_
  replace hs := hs.addNil (RI .i64) 3
  cases hm
  exact ⟨(none, 0, 0), [], rfl, (hs.re 8 [0] rfl)⟩
 ·
  replace hm := bif_f hc15 hm
  refine WC_skip ?_
  refine At_then <| WC_seq <| WC_region ?_
  refine Wo (Run_move (O rfl)) rfl <| ?_
  obtain ⟨r16, hr17, hm⟩ := bind_some' hm
  refine WL_call (f := 27) (first := []) (cap := []) (xs := [(.tmp 20)]) (vs := [(sl v12)]) (args := [(sl v12)]) Tryd.call27 Opd.f (.cons (O rfl) .nil) rfl rfl (slices_Clone_int_int_ok (hs.re 7 [6, 0, 1, 2, 3, 4, 5, 6] rfl) hr17) ?_
  rintro _ w20 ⟨v18, R19, rfl, hs⟩
  replace hs := Sat.n8 (Γ := Φ) hs rfl
  refine Wo (Run_assign (O rfl)) rfl <| ?_
  refine WL_nil <| At_then <| WC_seq <| WC_seq <| WC_region ?_
  refine Wo (Run_fieldAddr fo28_4 (O rfl)) rfl <| Wo (Run_load1 (v := (sl v9)) Tryd.underlying26 rfl (O rfl) (fun _ => (hs.box (i := 1) rfl).part 4 rfl)) rfl <| Wo (Run_move (O rfl)) rfl <| ?_
  obtain ⟨e21, he22, hm⟩ := bind_some' hm
  obtain ⟨v23, v24, hC25, hN26, hR27, hR28⟩ := cellsM60 (g := true) (fun hg => (hs.sl (i := 6) rfl)) (fun hg => he22)
  replace hs := hs.addL [elem true (elA (sl v9) k 6) [(.int .i64 e21.1), (.int .i64 e21.2.1.op), (.int .i64 e21.2.1.n), (.int .i64 e21.2.1.at_), (sl v23), (sl v24)], imm (RSl RExpr) [sl v23] e21.2.1.l, imm (RSl (RP (RI .i64) RExpr)) [sl v24] e21.2.2] rfl ⟨fun hg => ⟨hN26 hg, hC25 hg⟩, ⟨_, rfl, hR27 rfl⟩, ⟨_, rfl, hR28 rfl⟩, trivial⟩
  replace hs := Sat.n11 (Γ := Φ) hs rfl
  refine WL_op (Run_idxAddr (p := (elA (sl v9) k 6)) Tryd.underlying26 ti60 (O rfl) (O rfl) (fun hg => (SRd.atA (A := (RP (RI .i64) (RP RExpr (RSl (RP (RI .i64) RExpr))))) (v := (sl v9)) (hs.sl (i := 9) rfl) he22).1)) rfl rfl rfl rfl <| Wo (Run_fieldAddr fo60_2 (O rfl)) rfl <| Wo (Run_load1 (v := (sl v24)) Tryd.underlying58 rfl (O rfl) (fun hg => (((hs.elem (i := 0) rfl) hg).sub (us := [(sl v24)]) 5 rfl).sub 0 rfl)) rfl <| Wo (Run_lenSlG Tryd.underlying58 (O rfl) (fun hg => (hs.sl (i := 2) rfl).len)) rfl <| Wo (Run_move Opd.c) rfl <| ?_
  refine WL_nil <| At_then ?_
  refine WC_block ?_
  refine WC_loop (σ := (List Int) × Int) (γ := Unit) (F := (step_Fire_L1 m v11 e21)) (N := FUEL) (s0 := (r16, 0)) (r := r) (fun ⟨l30, t31⟩ (_ : Unit) w29 => Sat (imm (RSl (RI .i64)) [sl v12] v11 :: box b7 28 [(sl v1), (sl v3), (sl v5), (sl v7), (sl v9)] :: imm (RSl RS) [sl v1] m.1 :: imm (RSl (RP (RI .i64) (RI .i64))) [sl v3] m.2.1 :: imm (RSl (RI .i64)) [sl v5] m.2.2.1 :: imm (RSl RS) [sl v7] m.2.2.2.1 :: imm (RSl (RP (RI .i64) (RP RExpr (RSl (RP (RI .i64) RExpr))))) [sl v9] m.2.2.2.2 :: osl (RI .i64) 3 (sl v18) l30 R19 :: imm (RSl (RP (RI .i64) RExpr)) [sl v24] e21.2.2 :: Φ) w29) (fun ⟨l30, t31⟩ (_ : Unit) => [(1, true, (sl v12)), (3, true, (.pointer (some ⟨b7, 0, none⟩))), (8, true, (sl v18)), (27, true, (sl v24)), (28, true, (.int .i64 (List.length e21.2.2 : Int))), (29, true, (.int .i64 t31))]) hm () (hs.re 11 [10, 4, 5, 6, 7, 8, 9, 3, 2] rfl) rfl ?_
  rintro again32 ⟨l30, t31⟩ _ w29 hm hs
  unfold step_Fire_L1 at hm
  dsimp only at hm
  refine WC_seq <| WC_region ?_
  refine Wo (Run_ltI (O rfl) (O rfl)) rfl <| ?_
  refine WL_nil <| At_then <| WC_seq ?_
  refine WC_cond (O rfl) (fun hc33 => ?_) (fun hc33 => ?_)
  ·
   replace hm := bif_t hc33 hm
   refine WC_skip ?_
   refine At_then <| WC_seq ?_
   refine WC_block ?_
   refine WC_seq <| WC_region ?_
   obtain ⟨e34, he35, hm⟩ := bind_some' hm
   obtain ⟨v36, hC37, hN38, hR39⟩ := cellsM62 (g := true) (fun hg => (hs.sl (i := 8) rfl)) (fun hg => he35)
   replace hs := hs.addL [elem true (elA (sl v24) t31 5) [(.int .i64 e34.1), (.int .i64 e34.2.op), (.int .i64 e34.2.n), (.int .i64 e34.2.at_), (sl v36)], imm (RSl RExpr) [sl v36] e34.2.l] rfl ⟨fun hg => ⟨hN38 hg, hC37 hg⟩, ⟨_, rfl, hR39 rfl⟩, trivial⟩
   replace hs := Sat.n11 (Γ := Φ) hs rfl
   refine Wo (Run_idxAddr (p := (elA (sl v24) t31 5)) Tryd.underlying58 ti62 (O rfl) (O rfl) (fun hg => (SRd.atA (A := (RP (RI .i64) RExpr)) (v := (sl v24)) (hs.sl (i := 10) rfl) he35).1)) rfl <| Wo (Run_loadA (vs := [(.int .i64 e34.1), (.int .i64 e34.2.op), (.int .i64 e34.2.n), (.int .i64 e34.2.at_), (sl v36)]) Tryd.underlying62 rfl ti62 (O rfl) (fun hg => ((hs.elem (i := 0) rfl) hg).sub 0 rfl) rfl) rfl <| ?_
   refine WS_alloc (zs := [(.int .i64 0), (.int .i64 0), (.int .i64 0), (.int .i64 0), (sl (none, 0, 0))]) hs ti62 rfl rfl ?_
   intro b40 w41 hs
   replace hs := Sat.n12 (Γ := Φ) hs rfl
   refine WS_store (us := [(.int .i64 e34.1), (.int .i64 e34.2.op), (.int .i64 e34.2.n), (.int .i64 e34.2.at_), (sl v36)]) (vs' := [(.int .i64 e34.1), (.int .i64 e34.2.op), (.int .i64 e34.2.n), (.int .i64 e34.2.at_), (sl v36)]) hs 0 rfl ti62 (O rfl) (O rfl) rfl rfl rfl rfl rfl ?_
   intro w42 hs
   replace hs := Sat.n12 (Γ := Φ) hs rfl
   refine WL_nil <| At_then ?_
   refine WC_region_mixed [0, 0, 2, 0, 8, 0, 48, 127, 255] (.q 0 0 (.q 1 1 (.q 2 3 (.q 3 7 (.q 4 15 (.q 5 31 (.l 6 63 (.q 7 127 (.l 8 255 .nil))))))))) (by kernel_rfl) (by kernel_rfl) ?_
   intro w43 hx44
   replace hs := hs.ext hx44
   refine WD_pure (fun _ => (Run_move (O rfl))) rfl rfl rfl rfl <| WD_pure (fun _ => (Run_fieldAddr fo62_0 (O rfl))) rfl rfl rfl rfl <| WD_op (fun w => CellsAt w ⟨b40, 0, none⟩ [(.int .i64 e34.1)]) ((hs.box (i := 0) rfl).part 0 rfl) (fun _ hJ => (Run_load1 (v := (.int .i64 e34.1)) Tryd.underlying3 rfl (O rfl) (fun _ => hJ))) rfl rfl rfl rfl <| WD_pure (fun _ => (Run_fieldAddr fo62_1 (O rfl))) rfl rfl rfl rfl <| WD_op (fun w => CellsAt w ⟨b40, 1, none⟩ [(.int .i64 e34.2.op), (.int .i64 e34.2.n), (.int .i64 e34.2.at_), (sl v36)]) ((hs.box (i := 0) rfl).part 1 rfl) (fun _ hJ => (Run_loadA (vs := [(.int .i64 e34.2.op), (.int .i64 e34.2.n), (.int .i64 e34.2.at_), (sl v36)]) Tryd.underlying57 rfl ti57 (O rfl) (fun _ => hJ) rfl)) rfl rfl rfl rfl <| WD_pure (fun _ => (Run_move (O rfl))) rfl rfl rfl rfl <| ?_
   refine WD_loud (pend' := [(2, fun w => CellsAt w ⟨b40, 0, none⟩ [(.int .i64 e34.1)])]) rfl (by kernel_rfl) ?_
   obtain ⟨r45, hr46, hm⟩ := bind_some' hm
   refine WL_call (f := 28) (first := []) (cap := []) (xs := [(.tmp 37), (.tmp 38)]) (vs := [(.agg #[(.int .i64 e34.2.op), (.int .i64 e34.2.n), (.int .i64 e34.2.at_), (sl v36)]), (sl v12)]) (args := [(.agg #[(.int .i64 e34.2.op), (.int .i64 e34.2.n), (.int .i64 e34.2.at_), (sl v36)]), (sl v12)]) Tryd.call28 Opd.f (.cons (O rfl) (.cons (O rfl) .nil)) rfl rfl (expr_Eval_ok (hs.re 12 [2, 3, 0, 1, 2, 3, 4, 5, 6, 7, 8, 9, 10, 11] rfl) hr46) ?_
   rintro _ w47 ⟨rfl, hs⟩
   replace hs := Sat.n12 (Γ := Φ) hs rfl
   refine WL_nil ?_
   refine At_QK (allJ_cons ((hs.box (i := 0) rfl).part 0 rfl) allJ_nil) ?_
   obtain ⟨e48, he49, hm⟩ := bind_some' hm
   refine WD_pure (fun _ => (Run_idxAddr (p := (elA (sl v18) e34.1 1)) Tryd.underlying22 ti3 (O rfl) (O rfl) (fun hg => (Own.atA (A := (RI .i64)) (v := (sl v18)) (hs.own (i := 10) rfl) he49).1))) rfl rfl rfl rfl <| ?_
   refine WD_loud (pend' := []) rfl (by kernel_rfl) ?_
   refine WS_storeElA (A := (RI .i64)) (us := [(.int .i64 r45)]) (u := r45) hs 10 rfl ti3 (idx_inB he49 (by simp)) (O rfl) (O rfl) rfl rfl rfl rfl rfl ?_
   intro w50 hs
   replace hs := Sat.n12 (Γ := Φ) hs rfl
   refine WL_nil ?_
   refine At_QK allJ_nil ?_
   refine WD_nil ?_
   refine At_blk_normal ?_
   refine At_then <| WC_region ?_
   refine Wo (Run_add (O rfl) Opd.c) rfl <| Wo (Run_move (O rfl)) rfl <| ?_
   refine WL_nil ?_
   exact At_again ((List.set l30 (Int.toNat e34.1) r45), (IntKind.i64.wrap (t31 + 1))) () hm (hs.re 12 [3, 4, 5, 6, 7, 8, 9, 10, 11] rfl) rfl
  ·
   replace hm := bif_f hc33 hm
   refine WC_exit ?_
   refine At_then_exit <| At_then_exit <| At_blk_here <| ?_
   refine At_then <| WC_seq <| WC_seq <| WC_region ?_
   refine Wo (Run_fieldAddr fo28_1 (O rfl)) rfl <| Wo (Run_load1 (v := (sl v3)) Tryd.underlying25 rfl (O rfl) (fun _ => (hs.box (i := 1) rfl).part 1 rfl)) rfl <| Wo (Run_move (O rfl)) rfl <| ?_
   obtain ⟨r51, hr52, hm⟩ := bind_some' hm
   refine WL_call (f := 29) (first := []) (cap := []) (xs := [(.tmp 43), (.tmp 44)]) (vs := [(sl v3), (sl v18)]) (args := [(sl v3), (sl v18)]) Tryd.call29 Opd.f (.cons (O rfl) (.cons (O rfl) .nil)) rfl rfl (schema_In_s2_ok (hs.re 9 [3, 7, 0, 1, 2, 3, 4, 5, 6, 8] rfl) hr52) ?_
   rintro _ w53 ⟨rfl, hs⟩
   replace hs := Sat.n9 (Γ := Φ) hs rfl
   refine Wo (Run_neI (O rfl) Opd.c) rfl <| ?_
   refine WL_nil <| At_then ?_
   refine WC_cond (O rfl) (fun hc54 => ?_) (fun hc54 => ?_)
   ·
    replace hm := bif_t hc54 hm
    refine WC_seq <| WC_region ?_
    refine Wo (Run_assign Opd.c) rfl <| Wo (Run_assign Opd.c) rfl <| ?_
    refine WL_nil <| At_then ?_
    refine WC_ret ?_
    refine At_then_ret <| ?_
    refine At_r2 rfl (ResIs.t rfl) (ResIs.t rfl) ?_
    replace hs := hs.addNil (RI .i64) 3
    cases hm
    exact ⟨(none, 0, 0), [], rfl, (hs.re 10 [0] rfl)⟩
   ·
    replace hm := bif_f hc54 hm
    refine WC_skip ?_
    refine At_then <| WC_seq <| WC_region ?_
    refine Wo (Run_move (O rfl)) rfl <| Wo (Run_assign (O rfl)) rfl <| Wo (Run_assign Opd.c) rfl <| ?_
    refine WL_nil <| At_then ?_
    refine WC_ret ?_
    refine At_r2 rfl (ResIs.t rfl) (ResIs.t rfl) ?_
    cases hm
    exact ⟨v18, R19, rfl, (hs.re 9 [0] rfl)⟩
end Go.Proofs.YtjdabjpjafkogaaDoor
