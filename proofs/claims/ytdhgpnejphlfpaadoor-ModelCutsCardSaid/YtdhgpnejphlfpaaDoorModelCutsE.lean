/-
  Own texts for the statement ModelCuts, cut down to what it needs: Walk21, Walk22, Walk23, Walk24, Walk25, Walk26, Walk35. (cut and joined by a program)
-/
import Derived.Test.YtdhgpnejphlfpaaDoorModelCutsA
import Derived.Test.YtdhgpnejphlfpaaDoorModelCutsB
import Derived.Test.YtdhgpnejphlfpaaDoorModelCutsC
import Derived.Test.YtdhgpnejphlfpaaDoorModelCutsD
set_option maxRecDepth 100000
set_option maxHeartbeats 4000000
namespace Go.Proofs.YtdhgpnejphlfpaaDoor
open Go.Proofs
theorem model_read_command_ok {Φ : Ctx} {w : World} {l : Q3} {at_ : Int} {Names : (List Str)} {Schema : Q9} {Init : (List Int)} {Procs : (List Str)} {Cmd : Q7} {b : Nat} {v2 : SLV} {R : List Nat} {v4 : SLV} {R5 : List Nat} {v7 : SLV} {R8 : List Nat} {v10 : SLV} {R11 : List Nat} {v13 : SLV} {R14 : List Nat} {v16 : SLV} {R17 : List Nat} {r : (Except (Int × Int) (Int × Q7))} (hs : Sat (box b 69 [(sl v2), (.int .i64 at_), (sl v4), (sl v7), (sl v10), (sl v13), (sl v16)] :: osl Q1 28 (sl v2) l R :: osl RS 9 (sl v4) Names R5 :: osl Q5 44 (sl v7) Schema R8 :: osl (RI .i64) 3 (sl v10) Init R11 :: osl RS 9 (sl v13) Procs R14 :: osl Q2 54 (sl v16) Cmd R17 :: gl 0 (keysL.map S) :: gl 1 (textsL.map S) :: Φ) w) (hm : model_read_command l at_ Names Schema Init Procs Cmd = some r) :
  CallsE Tryd.prog 58 [(.pointer (some ⟨b, 0, none⟩))] w r panV Φ (fun (r : (Int × Q7)) v w' => ∃ v5 : SLV, ∃ R6 : List Nat, v = (.tuple #[]) ∧ Sat (box b 69 [(sl v2), (.int .i64 r.1), (sl v4), (sl v7), (sl v10), (sl v13), (sl v5)] :: osl Q1 28 (sl v2) l R :: osl RS 9 (sl v4) Names R5 :: osl Q5 44 (sl v7) Schema R8 :: osl (RI .i64) 3 (sl v10) Init R11 :: osl RS 9 (sl v13) Procs R14 :: osl Q2 54 (sl v5) r.2 R6 :: Φ) w') := by
 refine CallsX_enter Tryd.func58 rfl Tryd.ntmps58 rfl ?_
 unfold model_read_command at hm
 refine WC_seq_cut (γ := Unit) (fun (_ : Unit) w7 => model_read_command_K1 l at_ Names Schema Init Procs Cmd = some r ∧ Sat (box b 69 [(sl v2), (.int .i64 at_), (sl v4), (sl v7), (sl v10), (sl v13), (sl v16)] :: osl Q1 28 (sl v2) l R :: osl RS 9 (sl v4) Names R5 :: osl Q5 44 (sl v7) Schema R8 :: osl (RI .i64) 3 (sl v10) Init R11 :: osl RS 9 (sl v13) Procs R14 :: osl Q2 54 (sl v16) Cmd R17 :: gl 0 (keysL.map S) :: gl 1 (textsL.map S) :: Φ) w7) (fun (_ : Unit) => [(0, true, (.pointer (some ⟨b, 0, none⟩)))]) ?_ ?_
 ·
  rintro _ w7 ⟨hm, hs⟩
  unfold model_read_command_K1 at hm
  refine WC_seq ?_
  refine WC_region_mixed [0, 1, 2, 4, 8, 16, 32, 0, 128, 320, 0, 2047] (.q 0 0 (.q 1 1 (.q 2 3 (.q 3 7 (.q 4 15 (.q 5 31 (.q 6 63 (.q 7 127 (.l2 255 8 (.q 9 511 (.l 10 1023 (.l 11 2047 .nil))) 10 (.l 8 1279 (.q 9 1535 (.l 11 2047 .nil)))))))))))) (by kernel_rfl) (by kernel_rfl) ?_
  intro w8 hx9
  replace hs := hs.ext hx9
  refine WD_pure (fun _ => (Run_move (O rfl))) rfl rfl rfl rfl <| WD_pure (fun _ => (Run_nilP (O rfl))) rfl rfl rfl rfl <| WD_pure (fun _ => (Run_fieldAddr fo69_2 (O rfl))) rfl rfl rfl rfl <| WD_pure (fun _ => (Run_fieldAddr fo33_3 (O rfl))) rfl rfl rfl rfl <| WD_op (fun w => CellsAt w ⟨b, 5, none⟩ [(sl v13)]) ((hs.box (i := 0) rfl).part 5 rfl) (fun _ hJ => (Run_load1 (v := (sl v13)) Tryd.underlying26 rfl (O rfl) (fun _ => hJ))) rfl rfl rfl rfl <| WD_pure (fun _ => (Run_lenSlG Tryd.underlying26 (O rfl) (fun _ => (hs.own (i := 5) rfl).len))) rfl rfl rfl rfl <| WD_pure (fun _ => (Run_sub (O rfl) Opd.c)) rfl rfl rfl rfl <| WD_pure (fun _ => (Run_move (O rfl))) rfl rfl rfl rfl <| ?_
  refine WD_loud2 ?_ ?_
  ·
   refine WD_loud (pend' := [(4, fun w => CellsAt w ⟨b, 5, none⟩ [(sl v13)])]) rfl (by kernel_rfl) ?_
   rcases bindE_some hm with ⟨p12, hp13, rfl⟩ | ⟨r10, hr11, hm⟩
   ·
    refine WL_callP (f := 67) (first := []) (cap := []) (xs := [(.tmp 19), (.const (.int .i64 2))]) (vs := [(.pointer (some ⟨b, 0, none⟩)), (.int .i64 2)]) (args := [(.pointer (some ⟨b, 0, none⟩)), (.int .i64 2)]) Tryd.call67 Opd.f (.cons (O rfl) (.cons Opd.c .nil)) rfl rfl (model_read_expression_ok (hs.re 9 [0, 1, 2, 3, 4, 5, 6, 7, 8, 7, 8] rfl) hp13) ?_
    intro w17 hs
    refine At_QK_panic <| AtP_then <| ?_
    exact AtP_p ⟨_, rfl, rfl, hs.re 2 [] rfl⟩
   refine WL_callN (f := 67) (first := []) (cap := []) (xs := [(.tmp 19), (.const (.int .i64 2))]) (vs := [(.pointer (some ⟨b, 0, none⟩)), (.int .i64 2)]) (args := [(.pointer (some ⟨b, 0, none⟩)), (.int .i64 2)]) Tryd.call67 Opd.f (.cons (O rfl) (.cons Opd.c .nil)) rfl rfl (model_read_expression_ok (hs.re 9 [0, 1, 2, 3, 4, 5, 6, 7, 8, 7, 8] rfl) hr11) ?_
   rintro _ w16 ⟨v14, R15, rfl, hs⟩
   replace hs := Sat.n10 (Γ := Φ) hs rfl
   refine WL_nil ?_
   refine At_QK (allJ_cons ((hs.box (i := 1) rfl).part 5 rfl) allJ_nil) ?_
   refine WD_pure (fun _ => (Run_build (parts := [(0, (.tmp 18)), (1, (.tmp 20))]) (v := (.agg #[(.int .i64 (IntKind.i64.wrap ((List.length Procs : Int) - 1))), (.int .i64 r10.1.op), (.int .i64 r10.1.n), (.int .i64 r10.1.at_), (sl v14), (sl (none, 0, 0))])) (.cons (O rfl) (.cons (O rfl) .nil)) (fun _ => by kernel_rfl))) rfl rfl rfl rfl <| ?_
   refine WD_loud (pend' := [(4, fun w => CellsAt w ⟨b, 5, none⟩ [(sl v13)])]) rfl (by kernel_rfl) ?_
   refine WS_alloc (zs := [(.int .i64 0), (.int .i64 0), (.int .i64 0), (.int .i64 0), (sl (none, 0, 0)), (sl (none, 0, 0))]) hs ti54 rfl rfl ?_
   intro b18 w19 hs
   replace hs := Sat.n11 (Γ := Φ) hs rfl
   refine WL_nil ?_
   refine At_QK (allJ_cons ((hs.box (i := 2) rfl).part 5 rfl) allJ_nil) ?_
   refine WD_loud (pend' := []) rfl (by kernel_rfl) ?_
   refine WS_store (us := [(.int .i64 (IntKind.i64.wrap ((List.length Procs : Int) - 1))), (.int .i64 r10.1.op), (.int .i64 r10.1.n), (.int .i64 r10.1.at_), (sl v14), (sl (none, 0, 0))]) (vs' := [(.int .i64 (IntKind.i64.wrap ((List.length Procs : Int) - 1))), (.int .i64 r10.1.op), (.int .i64 r10.1.n), (.int .i64 r10.1.at_), (sl v14), (sl (none, 0, 0))]) hs 0 rfl ti54 (O rfl) (O rfl) rfl rfl rfl rfl rfl ?_
   intro w20 hs
   replace hs := Sat.n11 (Γ := Φ) hs rfl
   refine WL_nil ?_
   refine At_QK allJ_nil ?_
   refine WD_nil ?_
   refine At_then <| WC_seq <| WC_region ?_
   refine Wo (Run_move (O rfl)) rfl <| ?_
   rcases bindE_some hm with ⟨p23, hp24, rfl⟩ | ⟨r21, hr22, hm⟩
   ·
    refine WL_callP (f := 55) (first := []) (cap := []) (xs := [(.tmp 22), (.const (.string ⟨#[58]⟩))]) (vs := [(.pointer (some ⟨b, 0, none⟩)), (S [58])]) (args := [(.pointer (some ⟨b, 0, none⟩)), (S [58])]) Tryd.call55 Opd.f (.cons (O rfl) (.cons Opd.c .nil)) rfl rfl (model_read_sign_ok (hs.re 11 [2, 3, 4, 5, 6, 7, 8, 0, 1, 9, 10] rfl) hp24) ?_
    intro w26 hs
    refine At_then_panic <| ?_
    exact At_p ⟨_, rfl, rfl, hs.re 4 [] rfl⟩
   refine WL_callN (f := 55) (first := []) (cap := []) (xs := [(.tmp 22), (.const (.string ⟨#[58]⟩))]) (vs := [(.pointer (some ⟨b, 0, none⟩)), (S [58])]) (args := [(.pointer (some ⟨b, 0, none⟩)), (S [58])]) Tryd.call55 Opd.f (.cons (O rfl) (.cons Opd.c .nil)) rfl rfl (model_read_sign_ok (hs.re 11 [2, 3, 4, 5, 6, 7, 8, 0, 1, 9, 10] rfl) hr22) ?_
   rintro _ w25 ⟨rfl, hs⟩
   replace hs := Sat.n11 (Γ := Φ) hs rfl
   refine WL_nil <| At_then <| WC_seq ?_
   refine WC_block ?_
   replace hs := hs.addNil Q6 57
   refine WC_loop (σ := Int × (List (Int × Ex))) (γ := SLV × List Nat) (F := (model_read_command_L2 l Names Schema Init Procs Cmd r10)) (N := FUEL) (s0 := (r21, [])) (r := r) (fun ⟨c28, l29⟩ ⟨v30, R31⟩ w27 => Sat (box b 69 [(sl v2), (.int .i64 c28), (sl v4), (sl v7), (sl v10), (sl v13), (sl v16)] :: osl Q1 28 (sl v2) l R :: osl RS 9 (sl v4) Names R5 :: osl Q5 44 (sl v7) Schema R8 :: osl (RI .i64) 3 (sl v10) Init R11 :: osl RS 9 (sl v13) Procs R14 :: osl Q2 54 (sl v16) Cmd R17 :: box b18 54 [(.int .i64 (IntKind.i64.wrap ((List.length Procs : Int) - 1))), (.int .i64 r10.1.op), (.int .i64 r10.1.n), (.int .i64 r10.1.at_), (sl v14), (sl v30)] :: osl RExpr 51 (sl v14) r10.1.l R15 :: osl Q6 57 (sl v30) l29 R31 :: gl 0 (keysL.map S) :: gl 1 (textsL.map S) :: Φ) w27) (fun ⟨c28, l29⟩ ⟨v30, R31⟩ => [(0, true, (.pointer (some ⟨b, 0, none⟩))), (2, true, (.pointer (some ⟨b18, 0, none⟩)))]) hm ((none, 0, 0), []) (hs.re 12 [1, 2, 3, 4, 5, 6, 7, 8, 9, 0, 10, 11] rfl) rfl ?_
   rintro again32 ⟨c28, l29⟩ ⟨v30, R31⟩ w27 hm hs
   unfold model_read_command_L2 at hm
   dsimp only at hm
   refine WC_block ?_
   refine WC_seq ?_
   refine WC_region_mixed [0, 1, 0, 0, 8, 20, 32, 98, 255, 511] (.q 0 0 (.q 1 1 (.q 2 3 (.q 3 7 (.q 4 15 (.l 5 31 (.l 6 63 (.l 7 127 (.q 8 255 (.l 9 511 .nil)))))))))) (by kernel_rfl) (by kernel_rfl) ?_
   intro w33 hx34
   replace hs := hs.ext hx34
   refine WD_pure (fun _ => (Run_fieldAddr fo54_2 (O rfl))) rfl rfl rfl rfl <| WD_op (fun w => CellsAt w ⟨b18, 5, none⟩ [(sl v30)]) ((hs.box (i := 7) rfl).part 5 rfl) (fun _ hJ => (Run_load1 (v := (sl v30)) Tryd.underlying52 rfl (O rfl) (fun _ => hJ))) rfl rfl rfl rfl <| WD_pure (fun _ => (Run_move (O rfl))) rfl rfl rfl rfl <| WD_pure (fun _ => (Run_fieldAddr fo54_2 (O rfl))) rfl rfl rfl rfl <| WD_op (fun w => CellsAt w ⟨b18, 5, none⟩ [(sl v30)]) ((hs.box (i := 7) rfl).part 5 rfl) (fun _ hJ => (Run_load1 (v := (sl v30)) Tryd.underlying52 rfl (O rfl) (fun _ => hJ))) rfl rfl rfl rfl <| ?_
   refine WD_loud (pend' := [(1, fun w => CellsAt w ⟨b18, 5, none⟩ [(sl v30)])]) rfl (by kernel_rfl) ?_
   rcases bindE_some hm with ⟨p37, hp38, rfl⟩ | ⟨r35, hr36, hm⟩
   ·
    refine WL_callP (f := 68) (first := []) (cap := []) (xs := [(.tmp 26), (.tmp 28)]) (vs := [(.pointer (some ⟨b, 0, none⟩)), (sl v30)]) (args := [(.pointer (some ⟨b, 0, none⟩)), (sl v30)]) Tryd.call68 Opd.f (.cons (O rfl) (.cons (O rfl) .nil)) rfl rfl (model_read_assignment_s2_ok (hs.re 12 [0, 9, 1, 2, 3, 4, 5, 6, 10, 11, 7, 8, 10, 11] rfl) hp38) ?_
    intro w42 hs
    refine At_QK_panic <| AtP_then <| AtP_blk <| AtP_then <| AtP_blk <| AtP_then <| ?_
    exact AtP_p ⟨_, rfl, rfl, hs.re 4 [] rfl⟩
   refine WL_callN (f := 68) (first := []) (cap := []) (xs := [(.tmp 26), (.tmp 28)]) (vs := [(.pointer (some ⟨b, 0, none⟩)), (sl v30)]) (args := [(.pointer (some ⟨b, 0, none⟩)), (sl v30)]) Tryd.call68 Opd.f (.cons (O rfl) (.cons (O rfl) .nil)) rfl rfl (model_read_assignment_s2_ok (hs.re 12 [0, 9, 1, 2, 3, 4, 5, 6, 10, 11, 7, 8, 10, 11] rfl) hr36) ?_
   rintro _ w41 ⟨v39, R40, rfl, hs⟩
   replace hs := Sat.n13 (Γ := Φ) hs rfl
   refine WL_nil ?_
   refine At_QK (allJ_cons ((hs.box (i := 9) rfl).part 5 rfl) allJ_nil) ?_
   refine WD_loud (pend' := [(1, fun w => CellsAt w ⟨b18, 5, none⟩ [(sl v30)])]) rfl (by kernel_rfl) ?_
   replace hs := hs.freeze (i := 0) rfl
   refine WS_lit (A := Q6) (xs := [r35.1]) (zs := [(.int .i64 0), (.int .i64 0), (.int .i64 0), (.int .i64 0), (sl (none, 0, 0))]) (cells := [(.int .i64 r35.1.1), (.int .i64 r35.1.2.op), (.int .i64 r35.1.2.n), (.int .i64 r35.1.2.at_), (sl v39)]) (parts := [(0, (.tmp 29))]) hs Tryd.underlying52 ti57 rfl rfl rfl (.cons (O rfl) .nil) (by kernel_rfl) rfl (ARd.cons (A := Q6) (c := [(.int .i64 r35.1.1), (.int .i64 r35.1.2.op), (.int .i64 r35.1.2.n), (.int .i64 r35.1.2.at_), (sl v39)]) (x := r35.1) ⟨_, _, rfl, rfl, (RExpr_closeE (⟨_, rfl, (hs.sl (i := 0) rfl)⟩))⟩ ARd.nil) rfl ?_
   intro b43 w44 hs
   replace hs := Sat.n14 (Γ := Φ) hs rfl
   refine WL_nil ?_
   refine At_QK (allJ_cons ((hs.box (i := 10) rfl).part 5 rfl) allJ_nil) ?_
   refine WD_loud (pend' := []) rfl (by kernel_rfl) ?_
   replace hs := hs.freeze (i := 0) rfl
   obtain ⟨k45, hm⟩ := chk_some hm
   refine WS_append (A := Q6) hs 9 rfl Tryd.underlying52 ti57 rfl rfl (O rfl) (O rfl) (hs.sl (i := 0) rfl) k45 rfl ?_
   intro v46 R47 w48 hs
   replace hs := Sat.n14 (Γ := Φ) hs rfl
   refine WL_nil ?_
   refine At_QK allJ_nil ?_
   refine WD_pure (fun _ => (Run_fieldAddr fo54_2 (O rfl))) rfl rfl rfl rfl <| ?_
   refine WD_loud (pend' := []) rfl (by kernel_rfl) ?_
   refine WS_store (us := [(sl v46)]) (vs' := [(.int .i64 (IntKind.i64.wrap ((List.length Procs : Int) - 1))), (.int .i64 r10.1.op), (.int .i64 r10.1.n), (.int .i64 r10.1.at_), (sl v14), (sl v46)]) hs 10 rfl ti52 (O rfl) (O rfl) rfl rfl rfl rfl rfl ?_
   intro w49 hs
   replace hs := Sat.n14 (Γ := Φ) hs rfl
   refine WL_nil ?_
   refine At_QK allJ_nil ?_
   refine WD_nil ?_
   refine At_then <| WC_seq <| WC_seq <| WC_region ?_
   refine Wo (Run_move (O rfl)) rfl <| ?_
   obtain ⟨r50, hr51, hm⟩ := bind_some' hm
   refine WL_call (f := 44) (first := []) (cap := []) (xs := [(.tmp 33), (.const (.int .i64 3)), (.const (.string ⟨#[59]⟩))]) (vs := [(.pointer (some ⟨b, 0, none⟩)), (.int .i64 3), (S [59])]) (args := [(.pointer (some ⟨b, 0, none⟩)), (.int .i64 3), (S [59])]) Tryd.call44 Opd.f (.cons (O rfl) (.cons Opd.c (.cons Opd.c .nil))) rfl rfl (model_read_is_ok (hs.re 14 [2, 3, 4, 5, 6, 7, 8, 0, 1, 9, 10, 11, 12, 13] rfl) hr51) ?_
   rintro _ w52 ⟨rfl, hs⟩
   replace hs := Sat.n14 (Γ := Φ) hs rfl
   refine WL_nil <| At_then ?_
   refine WC_cond (O rfl) (fun hc53 => ?_) (fun hc53 => ?_)
   ·
    replace hm := bif_t hc53 hm
    refine WC_exit ?_
    refine At_then_exit <| At_blk_other rfl <| At_then_exit <| At_blk_here <| ?_
    refine At_then <| WC_seq <| WC_region ?_
    refine Wo (Run_move (O rfl)) rfl <| Wo (Run_nilP (O rfl)) rfl <| Wo (Run_fieldAddr fo69_1 (O rfl)) rfl <| Wo (Run_load1 (v := (.int .i64 r35.2)) Tryd.underlying3 rfl (O rfl) (fun _ => (hs.box (i := 0) rfl).part 1 rfl)) rfl <| Wo (Run_add (O rfl) Opd.c) rfl <| Wo (Run_nilP (O rfl)) rfl <| Wo (Run_fieldAddr fo69_1 (O rfl)) rfl <| ?_
    refine WS_store (us := [(.int .i64 (IntKind.i64.wrap (r35.2 + 1)))]) (vs' := [(sl v2), (.int .i64 (IntKind.i64.wrap (r35.2 + 1))), (sl v4), (sl v7), (sl v10), (sl v13), (sl v16)]) hs 0 rfl ti3 (O rfl) (O rfl) rfl rfl rfl rfl rfl ?_
    intro w54 hs
    replace hs := Sat.n14 (Γ := Φ) hs rfl
    refine WL_nil <| At_then ?_
    refine WC_region_mixed [0, 0, 2, 4, 8, 16, 0, 64, 160, 511, 1023, 1535, 2559] (.q 0 0 (.q 1 1 (.q 2 3 (.q 3 7 (.q 4 15 (.q 5 31 (.q 6 63 (.l 7 127 (.l 8 255 (.q 9 511 (.q 10 1023 (.q 11 2047 (.l 12 4095 .nil))))))))))))) (by kernel_rfl) (by kernel_rfl) ?_
    intro w55 hx56
    replace hs := hs.ext hx56
    refine WD_pure (fun _ => (Run_move (O rfl))) rfl rfl rfl rfl <| WD_pure (fun _ => (Run_move (O rfl))) rfl rfl rfl rfl <| WD_pure (fun _ => (Run_nilP (O rfl))) rfl rfl rfl rfl <| WD_pure (fun _ => (Run_fieldAddr fo69_2 (O rfl))) rfl rfl rfl rfl <| WD_pure (fun _ => (Run_fieldAddr fo33_4 (O rfl))) rfl rfl rfl rfl <| WD_op (fun w => CellsAt w ⟨b, 6, none⟩ [(sl v16)]) ((hs.box (i := 0) rfl).part 6 rfl) (fun _ hJ => (Run_load1 (v := (sl v16)) Tryd.underlying31 rfl (O rfl) (fun _ => hJ))) rfl rfl rfl rfl <| WD_op (fun w => CellsAt w ⟨b18, 0, none⟩ [(.int .i64 (IntKind.i64.wrap ((List.length Procs : Int) - 1))), (.int .i64 r10.1.op), (.int .i64 r10.1.n), (.int .i64 r10.1.at_), (sl v14), (sl v46)]) ((hs.box (i := 10) rfl).part 0 rfl) (fun _ hJ => (Run_loadA (vs := [(.int .i64 (IntKind.i64.wrap ((List.length Procs : Int) - 1))), (.int .i64 r10.1.op), (.int .i64 r10.1.n), (.int .i64 r10.1.at_), (sl v14), (sl v46)]) Tryd.underlying54 rfl ti54 (O rfl) (fun _ => hJ) rfl)) rfl rfl rfl rfl <| ?_
    refine WD_loud (pend' := [(5, fun w => CellsAt w ⟨b, 6, none⟩ [(sl v16)])]) rfl (by kernel_rfl) ?_
    replace hs := hs.freeze (i := 11) rfl
    replace hs := hs.freeze (i := 9) rfl
    refine WS_lit (A := Q2) (xs := [((IntKind.i64.wrap ((List.length Procs : Int) - 1)), r10.1, (l29 ++ ([r35.1] : List (Int × Ex))))]) (zs := [(.int .i64 0), (.int .i64 0), (.int .i64 0), (.int .i64 0), (sl (none, 0, 0)), (sl (none, 0, 0))]) (cells := [(.int .i64 (IntKind.i64.wrap ((List.length Procs : Int) - 1))), (.int .i64 r10.1.op), (.int .i64 r10.1.n), (.int .i64 r10.1.at_), (sl v14), (sl v46)]) (parts := [(0, (.tmp 50))]) hs Tryd.underlying31 ti54 rfl rfl rfl (.cons (O rfl) .nil) (by kernel_rfl) rfl (ARd.cons (A := Q2) (c := [(.int .i64 (IntKind.i64.wrap ((List.length Procs : Int) - 1))), (.int .i64 r10.1.op), (.int .i64 r10.1.n), (.int .i64 r10.1.at_), (sl v14), (sl v46)]) (x := ((IntKind.i64.wrap ((List.length Procs : Int) - 1)), r10.1, (l29 ++ ([r35.1] : List (Int × Ex))))) ⟨_, _, rfl, rfl, ⟨_, _, rfl, (RExpr_closeE (⟨_, rfl, (hs.sl (i := 11) rfl)⟩)), ⟨_, rfl, (hs.sl (i := 9) rfl)⟩⟩⟩ ARd.nil) rfl ?_
    intro b57 w58 hs
    replace hs := Sat.n15 (Γ := Φ) hs rfl
    refine WL_nil ?_
    refine At_QK (allJ_cons ((hs.box (i := 1) rfl).part 6 rfl) allJ_nil) ?_
    refine WD_loud (pend' := []) rfl (by kernel_rfl) ?_
    replace hs := hs.freeze (i := 0) rfl
    obtain ⟨k59, hm⟩ := chk_some hm
    refine WS_append (A := Q2) hs 7 rfl Tryd.underlying31 ti54 rfl rfl (O rfl) (O rfl) (hs.sl (i := 0) rfl) k59 rfl ?_
    intro v60 R61 w62 hs
    replace hs := Sat.n15 (Γ := Φ) hs rfl
    refine WL_nil ?_
    refine At_QK allJ_nil ?_
    refine WD_pure (fun _ => (Run_nilP (O rfl))) rfl rfl rfl rfl <| WD_pure (fun _ => (Run_fieldAddr fo69_2 (O rfl))) rfl rfl rfl rfl <| WD_pure (fun _ => (Run_fieldAddr fo33_4 (O rfl))) rfl rfl rfl rfl <| ?_
    refine WD_loud (pend' := []) rfl (by kernel_rfl) ?_
    refine WS_store (us := [(sl v60)]) (vs' := [(sl v2), (.int .i64 (IntKind.i64.wrap (r35.2 + 1))), (sl v4), (sl v7), (sl v10), (sl v13), (sl v60)]) hs 1 rfl ti31 (O rfl) (O rfl) rfl rfl rfl rfl rfl ?_
    intro w63 hs
    replace hs := Sat.n15 (Γ := Φ) hs rfl
    refine WL_nil ?_
    refine At_QK allJ_nil ?_
    refine WD_nil ?_
    refine At_e0 rfl  ?_
    cases hm
    exact ⟨_, rfl, v60, R61, rfl, (hs.re 15 [1, 2, 3, 4, 5, 6, 7] rfl)⟩
   ·
    replace hm := bif_f hc53 hm
    refine WC_skip ?_
    refine At_then <| WC_region ?_
    refine Wo (Run_move (O rfl)) rfl <| ?_
    rcases bindE_some hm with ⟨p66, hp67, rfl⟩ | ⟨r64, hr65, hm⟩
    ·
     refine WL_callP (f := 55) (first := []) (cap := []) (xs := [(.tmp 35), (.const (.string ⟨#[44]⟩))]) (vs := [(.pointer (some ⟨b, 0, none⟩)), (S [44])]) (args := [(.pointer (some ⟨b, 0, none⟩)), (S [44])]) Tryd.call55 Opd.f (.cons (O rfl) (.cons Opd.c .nil)) rfl rfl (model_read_sign_ok (hs.re 14 [0, 1, 2, 3, 4, 5, 6, 7, 8, 9, 10, 11, 12, 13] rfl) hp67) ?_
     intro w69 hs
     refine At_blk_panic <| At_then_panic <| At_blk_panic <| At_then_panic <| ?_
     exact At_p ⟨_, rfl, rfl, hs.re 7 [] rfl⟩
    refine WL_callN (f := 55) (first := []) (cap := []) (xs := [(.tmp 35), (.const (.string ⟨#[44]⟩))]) (vs := [(.pointer (some ⟨b, 0, none⟩)), (S [44])]) (args := [(.pointer (some ⟨b, 0, none⟩)), (S [44])]) Tryd.call55 Opd.f (.cons (O rfl) (.cons Opd.c .nil)) rfl rfl (model_read_sign_ok (hs.re 14 [0, 1, 2, 3, 4, 5, 6, 7, 8, 9, 10, 11, 12, 13] rfl) hr65) ?_
    rintro _ w68 ⟨rfl, hs⟩
    replace hs := Sat.n14 (Γ := Φ) hs rfl
    refine WL_nil ?_
    refine At_blk_normal ?_
    exact At_again (r64, (l29 ++ ([r35.1] : List (Int × Ex)))) (v46, R47) hm (hs.re 14 [0, 1, 2, 3, 4, 5, 6, 10, 11, 9, 12, 13] rfl) rfl
  ·
   refine WD_loud (pend' := [(4, fun w => CellsAt w ⟨b, 5, none⟩ [(sl v13)])]) rfl (by kernel_rfl) ?_
   refine WS_alloc (zs := [(.int .i64 0), (.int .i64 0), (.int .i64 0), (.int .i64 0), (sl (none, 0, 0)), (sl (none, 0, 0))]) hs ti54 rfl rfl ?_
   intro b70 w71 hs
   replace hs := Sat.n10 (Γ := Φ) hs rfl
   refine WL_nil ?_
   refine At_QK (allJ_cons ((hs.box (i := 1) rfl).part 5 rfl) allJ_nil) ?_
   refine WD_loud (pend' := [(4, fun w => CellsAt w ⟨b, 5, none⟩ [(sl v13)])]) rfl (by kernel_rfl) ?_
   rcases bindE_some hm with ⟨p74, hp75, rfl⟩ | ⟨r72, hr73, hm⟩
   ·
    refine WL_callP (f := 67) (first := []) (cap := []) (xs := [(.tmp 19), (.const (.int .i64 2))]) (vs := [(.pointer (some ⟨b, 0, none⟩)), (.int .i64 2)]) (args := [(.pointer (some ⟨b, 0, none⟩)), (.int .i64 2)]) Tryd.call67 Opd.f (.cons (O rfl) (.cons Opd.c .nil)) rfl rfl (model_read_expression_ok (hs.re 10 [1, 2, 3, 4, 5, 6, 7, 8, 9, 0, 8, 9] rfl) hp75) ?_
    intro w79 hs
    refine At_QK_panic <| AtP_then <| ?_
    exact AtP_p ⟨_, rfl, rfl, hs.re 3 [] rfl⟩
   refine WL_callN (f := 67) (first := []) (cap := []) (xs := [(.tmp 19), (.const (.int .i64 2))]) (vs := [(.pointer (some ⟨b, 0, none⟩)), (.int .i64 2)]) (args := [(.pointer (some ⟨b, 0, none⟩)), (.int .i64 2)]) Tryd.call67 Opd.f (.cons (O rfl) (.cons Opd.c .nil)) rfl rfl (model_read_expression_ok (hs.re 10 [1, 2, 3, 4, 5, 6, 7, 8, 9, 0, 8, 9] rfl) hr73) ?_
   rintro _ w78 ⟨v76, R77, rfl, hs⟩
   replace hs := Sat.n11 (Γ := Φ) hs rfl
   refine WL_nil ?_
   refine At_QK (allJ_cons ((hs.box (i := 1) rfl).part 5 rfl) allJ_nil) ?_
   refine WD_pure (fun _ => (Run_build (parts := [(0, (.tmp 18)), (1, (.tmp 20))]) (v := (.agg #[(.int .i64 (IntKind.i64.wrap ((List.length Procs : Int) - 1))), (.int .i64 r72.1.op), (.int .i64 r72.1.n), (.int .i64 r72.1.at_), (sl v76), (sl (none, 0, 0))])) (.cons (O rfl) (.cons (O rfl) .nil)) (fun _ => by kernel_rfl))) rfl rfl rfl rfl <| ?_
   refine WD_loud (pend' := []) rfl (by kernel_rfl) ?_
   refine WS_store (us := [(.int .i64 (IntKind.i64.wrap ((List.length Procs : Int) - 1))), (.int .i64 r72.1.op), (.int .i64 r72.1.n), (.int .i64 r72.1.at_), (sl v76), (sl (none, 0, 0))]) (vs' := [(.int .i64 (IntKind.i64.wrap ((List.length Procs : Int) - 1))), (.int .i64 r72.1.op), (.int .i64 r72.1.n), (.int .i64 r72.1.at_), (sl v76), (sl (none, 0, 0))]) hs 8 rfl ti54 (O rfl) (O rfl) rfl rfl rfl rfl rfl ?_
   intro w80 hs
   replace hs := Sat.n11 (Γ := Φ) hs rfl
   refine WL_nil ?_
   refine At_QK allJ_nil ?_
   refine WD_nil ?_
   refine At_then <| WC_seq <| WC_region ?_
   refine Wo (Run_move (O rfl)) rfl <| ?_
   rcases bindE_some hm with ⟨p83, hp84, rfl⟩ | ⟨r81, hr82, hm⟩
   ·
    refine WL_callP (f := 55) (first := []) (cap := []) (xs := [(.tmp 22), (.const (.string ⟨#[58]⟩))]) (vs := [(.pointer (some ⟨b, 0, none⟩)), (S [58])]) (args := [(.pointer (some ⟨b, 0, none⟩)), (S [58])]) Tryd.call55 Opd.f (.cons (O rfl) (.cons Opd.c .nil)) rfl rfl (model_read_sign_ok (hs.re 11 [1, 2, 3, 4, 5, 6, 7, 0, 8, 9, 10] rfl) hp84) ?_
    intro w86 hs
    refine At_then_panic <| ?_
    exact At_p ⟨_, rfl, rfl, hs.re 4 [] rfl⟩
   refine WL_callN (f := 55) (first := []) (cap := []) (xs := [(.tmp 22), (.const (.string ⟨#[58]⟩))]) (vs := [(.pointer (some ⟨b, 0, none⟩)), (S [58])]) (args := [(.pointer (some ⟨b, 0, none⟩)), (S [58])]) Tryd.call55 Opd.f (.cons (O rfl) (.cons Opd.c .nil)) rfl rfl (model_read_sign_ok (hs.re 11 [1, 2, 3, 4, 5, 6, 7, 0, 8, 9, 10] rfl) hr82) ?_
   rintro _ w85 ⟨rfl, hs⟩
   replace hs := Sat.n11 (Γ := Φ) hs rfl
   refine WL_nil <| At_then <| WC_seq ?_
   refine WC_block ?_
   replace hs := hs.addNil Q6 57
   refine WC_loop (σ := Int × (List (Int × Ex))) (γ := SLV × List Nat) (F := (model_read_command_L2 l Names Schema Init Procs Cmd r72)) (N := FUEL) (s0 := (r81, [])) (r := r) (fun ⟨c88, l89⟩ ⟨v90, R91⟩ w87 => Sat (box b 69 [(sl v2), (.int .i64 c88), (sl v4), (sl v7), (sl v10), (sl v13), (sl v16)] :: osl Q1 28 (sl v2) l R :: osl RS 9 (sl v4) Names R5 :: osl Q5 44 (sl v7) Schema R8 :: osl (RI .i64) 3 (sl v10) Init R11 :: osl RS 9 (sl v13) Procs R14 :: osl Q2 54 (sl v16) Cmd R17 :: box b70 54 [(.int .i64 (IntKind.i64.wrap ((List.length Procs : Int) - 1))), (.int .i64 r72.1.op), (.int .i64 r72.1.n), (.int .i64 r72.1.at_), (sl v76), (sl v90)] :: osl RExpr 51 (sl v76) r72.1.l R77 :: osl Q6 57 (sl v90) l89 R91 :: gl 0 (keysL.map S) :: gl 1 (textsL.map S) :: Φ) w87) (fun ⟨c88, l89⟩ ⟨v90, R91⟩ => [(0, true, (.pointer (some ⟨b, 0, none⟩))), (2, true, (.pointer (some ⟨b70, 0, none⟩)))]) hm ((none, 0, 0), []) (hs.re 12 [1, 2, 3, 4, 5, 6, 7, 9, 8, 0, 10, 11] rfl) rfl ?_
   rintro again92 ⟨c88, l89⟩ ⟨v90, R91⟩ w87 hm hs
   unfold model_read_command_L2 at hm
   dsimp only at hm
   refine WC_block ?_
   refine WC_seq ?_
   refine WC_region_mixed [0, 1, 0, 0, 8, 20, 32, 98, 255, 511] (.q 0 0 (.q 1 1 (.q 2 3 (.q 3 7 (.q 4 15 (.l 5 31 (.l 6 63 (.l 7 127 (.q 8 255 (.l 9 511 .nil)))))))))) (by kernel_rfl) (by kernel_rfl) ?_
   intro w93 hx94
   replace hs := hs.ext hx94
   refine WD_pure (fun _ => (Run_fieldAddr fo54_2 (O rfl))) rfl rfl rfl rfl <| WD_op (fun w => CellsAt w ⟨b70, 5, none⟩ [(sl v90)]) ((hs.box (i := 7) rfl).part 5 rfl) (fun _ hJ => (Run_load1 (v := (sl v90)) Tryd.underlying52 rfl (O rfl) (fun _ => hJ))) rfl rfl rfl rfl <| WD_pure (fun _ => (Run_move (O rfl))) rfl rfl rfl rfl <| WD_pure (fun _ => (Run_fieldAddr fo54_2 (O rfl))) rfl rfl rfl rfl <| WD_op (fun w => CellsAt w ⟨b70, 5, none⟩ [(sl v90)]) ((hs.box (i := 7) rfl).part 5 rfl) (fun _ hJ => (Run_load1 (v := (sl v90)) Tryd.underlying52 rfl (O rfl) (fun _ => hJ))) rfl rfl rfl rfl <| ?_
   refine WD_loud (pend' := [(1, fun w => CellsAt w ⟨b70, 5, none⟩ [(sl v90)])]) rfl (by kernel_rfl) ?_
   rcases bindE_some hm with ⟨p97, hp98, rfl⟩ | ⟨r95, hr96, hm⟩
   ·
    refine WL_callP (f := 68) (first := []) (cap := []) (xs := [(.tmp 26), (.tmp 28)]) (vs := [(.pointer (some ⟨b, 0, none⟩)), (sl v90)]) (args := [(.pointer (some ⟨b, 0, none⟩)), (sl v90)]) Tryd.call68 Opd.f (.cons (O rfl) (.cons (O rfl) .nil)) rfl rfl (model_read_assignment_s2_ok (hs.re 12 [0, 9, 1, 2, 3, 4, 5, 6, 10, 11, 7, 8, 10, 11] rfl) hp98) ?_
    intro w102 hs
    refine At_QK_panic <| AtP_then <| AtP_blk <| AtP_then <| AtP_blk <| AtP_then <| ?_
    exact AtP_p ⟨_, rfl, rfl, hs.re 4 [] rfl⟩
   refine WL_callN (f := 68) (first := []) (cap := []) (xs := [(.tmp 26), (.tmp 28)]) (vs := [(.pointer (some ⟨b, 0, none⟩)), (sl v90)]) (args := [(.pointer (some ⟨b, 0, none⟩)), (sl v90)]) Tryd.call68 Opd.f (.cons (O rfl) (.cons (O rfl) .nil)) rfl rfl (model_read_assignment_s2_ok (hs.re 12 [0, 9, 1, 2, 3, 4, 5, 6, 10, 11, 7, 8, 10, 11] rfl) hr96) ?_
   rintro _ w101 ⟨v99, R100, rfl, hs⟩
   replace hs := Sat.n13 (Γ := Φ) hs rfl
   refine WL_nil ?_
   refine At_QK (allJ_cons ((hs.box (i := 9) rfl).part 5 rfl) allJ_nil) ?_
   refine WD_loud (pend' := [(1, fun w => CellsAt w ⟨b70, 5, none⟩ [(sl v90)])]) rfl (by kernel_rfl) ?_
   replace hs := hs.freeze (i := 0) rfl
   refine WS_lit (A := Q6) (xs := [r95.1]) (zs := [(.int .i64 0), (.int .i64 0), (.int .i64 0), (.int .i64 0), (sl (none, 0, 0))]) (cells := [(.int .i64 r95.1.1), (.int .i64 r95.1.2.op), (.int .i64 r95.1.2.n), (.int .i64 r95.1.2.at_), (sl v99)]) (parts := [(0, (.tmp 29))]) hs Tryd.underlying52 ti57 rfl rfl rfl (.cons (O rfl) .nil) (by kernel_rfl) rfl (ARd.cons (A := Q6) (c := [(.int .i64 r95.1.1), (.int .i64 r95.1.2.op), (.int .i64 r95.1.2.n), (.int .i64 r95.1.2.at_), (sl v99)]) (x := r95.1) ⟨_, _, rfl, rfl, (RExpr_closeE (⟨_, rfl, (hs.sl (i := 0) rfl)⟩))⟩ ARd.nil) rfl ?_
   intro b103 w104 hs
   replace hs := Sat.n14 (Γ := Φ) hs rfl
   refine WL_nil ?_
   refine At_QK (allJ_cons ((hs.box (i := 10) rfl).part 5 rfl) allJ_nil) ?_
   refine WD_loud (pend' := []) rfl (by kernel_rfl) ?_
   replace hs := hs.freeze (i := 0) rfl
   obtain ⟨k105, hm⟩ := chk_some hm
   refine WS_append (A := Q6) hs 9 rfl Tryd.underlying52 ti57 rfl rfl (O rfl) (O rfl) (hs.sl (i := 0) rfl) k105 rfl ?_
   intro v106 R107 w108 hs
   replace hs := Sat.n14 (Γ := Φ) hs rfl
   refine WL_nil ?_
   refine At_QK allJ_nil ?_
   refine WD_pure (fun _ => (Run_fieldAddr fo54_2 (O rfl))) rfl rfl rfl rfl <| ?_
   refine WD_loud (pend' := []) rfl (by kernel_rfl) ?_
   refine WS_store (us := [(sl v106)]) (vs' := [(.int .i64 (IntKind.i64.wrap ((List.length Procs : Int) - 1))), (.int .i64 r72.1.op), (.int .i64 r72.1.n), (.int .i64 r72.1.at_), (sl v76), (sl v106)]) hs 10 rfl ti52 (O rfl) (O rfl) rfl rfl rfl rfl rfl ?_
   intro w109 hs
   replace hs := Sat.n14 (Γ := Φ) hs rfl
   refine WL_nil ?_
   refine At_QK allJ_nil ?_
   refine WD_nil ?_
   refine At_then <| WC_seq <| WC_seq <| WC_region ?_
   refine Wo (Run_move (O rfl)) rfl <| ?_
   obtain ⟨r110, hr111, hm⟩ := bind_some' hm
   refine WL_call (f := 44) (first := []) (cap := []) (xs := [(.tmp 33), (.const (.int .i64 3)), (.const (.string ⟨#[59]⟩))]) (vs := [(.pointer (some ⟨b, 0, none⟩)), (.int .i64 3), (S [59])]) (args := [(.pointer (some ⟨b, 0, none⟩)), (.int .i64 3), (S [59])]) Tryd.call44 Opd.f (.cons (O rfl) (.cons Opd.c (.cons Opd.c .nil))) rfl rfl (model_read_is_ok (hs.re 14 [2, 3, 4, 5, 6, 7, 8, 0, 1, 9, 10, 11, 12, 13] rfl) hr111) ?_
   rintro _ w112 ⟨rfl, hs⟩
   replace hs := Sat.n14 (Γ := Φ) hs rfl
   refine WL_nil <| At_then ?_
   refine WC_cond (O rfl) (fun hc113 => ?_) (fun hc113 => ?_)
   ·
    replace hm := bif_t hc113 hm
    refine WC_exit ?_
    refine At_then_exit <| At_blk_other rfl <| At_then_exit <| At_blk_here <| ?_
    refine At_then <| WC_seq <| WC_region ?_
    refine Wo (Run_move (O rfl)) rfl <| Wo (Run_nilP (O rfl)) rfl <| Wo (Run_fieldAddr fo69_1 (O rfl)) rfl <| Wo (Run_load1 (v := (.int .i64 r95.2)) Tryd.underlying3 rfl (O rfl) (fun _ => (hs.box (i := 0) rfl).part 1 rfl)) rfl <| Wo (Run_add (O rfl) Opd.c) rfl <| Wo (Run_nilP (O rfl)) rfl <| Wo (Run_fieldAddr fo69_1 (O rfl)) rfl <| ?_
    refine WS_store (us := [(.int .i64 (IntKind.i64.wrap (r95.2 + 1)))]) (vs' := [(sl v2), (.int .i64 (IntKind.i64.wrap (r95.2 + 1))), (sl v4), (sl v7), (sl v10), (sl v13), (sl v16)]) hs 0 rfl ti3 (O rfl) (O rfl) rfl rfl rfl rfl rfl ?_
    intro w114 hs
    replace hs := Sat.n14 (Γ := Φ) hs rfl
    refine WL_nil <| At_then ?_
    refine WC_region_mixed [0, 0, 2, 4, 8, 16, 0, 64, 160, 511, 1023, 1535, 2559] (.q 0 0 (.q 1 1 (.q 2 3 (.q 3 7 (.q 4 15 (.q 5 31 (.q 6 63 (.l 7 127 (.l 8 255 (.q 9 511 (.q 10 1023 (.q 11 2047 (.l 12 4095 .nil))))))))))))) (by kernel_rfl) (by kernel_rfl) ?_
    intro w115 hx116
    replace hs := hs.ext hx116
    refine WD_pure (fun _ => (Run_move (O rfl))) rfl rfl rfl rfl <| WD_pure (fun _ => (Run_move (O rfl))) rfl rfl rfl rfl <| WD_pure (fun _ => (Run_nilP (O rfl))) rfl rfl rfl rfl <| WD_pure (fun _ => (Run_fieldAddr fo69_2 (O rfl))) rfl rfl rfl rfl <| WD_pure (fun _ => (Run_fieldAddr fo33_4 (O rfl))) rfl rfl rfl rfl <| WD_op (fun w => CellsAt w ⟨b, 6, none⟩ [(sl v16)]) ((hs.box (i := 0) rfl).part 6 rfl) (fun _ hJ => (Run_load1 (v := (sl v16)) Tryd.underlying31 rfl (O rfl) (fun _ => hJ))) rfl rfl rfl rfl <| WD_op (fun w => CellsAt w ⟨b70, 0, none⟩ [(.int .i64 (IntKind.i64.wrap ((List.length Procs : Int) - 1))), (.int .i64 r72.1.op), (.int .i64 r72.1.n), (.int .i64 r72.1.at_), (sl v76), (sl v106)]) ((hs.box (i := 10) rfl).part 0 rfl) (fun _ hJ => (Run_loadA (vs := [(.int .i64 (IntKind.i64.wrap ((List.length Procs : Int) - 1))), (.int .i64 r72.1.op), (.int .i64 r72.1.n), (.int .i64 r72.1.at_), (sl v76), (sl v106)]) Tryd.underlying54 rfl ti54 (O rfl) (fun _ => hJ) rfl)) rfl rfl rfl rfl <| ?_
    refine WD_loud (pend' := [(5, fun w => CellsAt w ⟨b, 6, none⟩ [(sl v16)])]) rfl (by kernel_rfl) ?_
    replace hs := hs.freeze (i := 11) rfl
    replace hs := hs.freeze (i := 9) rfl
    refine WS_lit (A := Q2) (xs := [((IntKind.i64.wrap ((List.length Procs : Int) - 1)), r72.1, (l89 ++ ([r95.1] : List (Int × Ex))))]) (zs := [(.int .i64 0), (.int .i64 0), (.int .i64 0), (.int .i64 0), (sl (none, 0, 0)), (sl (none, 0, 0))]) (cells := [(.int .i64 (IntKind.i64.wrap ((List.length Procs : Int) - 1))), (.int .i64 r72.1.op), (.int .i64 r72.1.n), (.int .i64 r72.1.at_), (sl v76), (sl v106)]) (parts := [(0, (.tmp 50))]) hs Tryd.underlying31 ti54 rfl rfl rfl (.cons (O rfl) .nil) (by kernel_rfl) rfl (ARd.cons (A := Q2) (c := [(.int .i64 (IntKind.i64.wrap ((List.length Procs : Int) - 1))), (.int .i64 r72.1.op), (.int .i64 r72.1.n), (.int .i64 r72.1.at_), (sl v76), (sl v106)]) (x := ((IntKind.i64.wrap ((List.length Procs : Int) - 1)), r72.1, (l89 ++ ([r95.1] : List (Int × Ex))))) ⟨_, _, rfl, rfl, ⟨_, _, rfl, (RExpr_closeE (⟨_, rfl, (hs.sl (i := 11) rfl)⟩)), ⟨_, rfl, (hs.sl (i := 9) rfl)⟩⟩⟩ ARd.nil) rfl ?_
    intro b117 w118 hs
    replace hs := Sat.n15 (Γ := Φ) hs rfl
    refine WL_nil ?_
    refine At_QK (allJ_cons ((hs.box (i := 1) rfl).part 6 rfl) allJ_nil) ?_
    refine WD_loud (pend' := []) rfl (by kernel_rfl) ?_
    replace hs := hs.freeze (i := 0) rfl
    obtain ⟨k119, hm⟩ := chk_some hm
    refine WS_append (A := Q2) hs 7 rfl Tryd.underlying31 ti54 rfl rfl (O rfl) (O rfl) (hs.sl (i := 0) rfl) k119 rfl ?_
    intro v120 R121 w122 hs
    replace hs := Sat.n15 (Γ := Φ) hs rfl
    refine WL_nil ?_
    refine At_QK allJ_nil ?_
    refine WD_pure (fun _ => (Run_nilP (O rfl))) rfl rfl rfl rfl <| WD_pure (fun _ => (Run_fieldAddr fo69_2 (O rfl))) rfl rfl rfl rfl <| WD_pure (fun _ => (Run_fieldAddr fo33_4 (O rfl))) rfl rfl rfl rfl <| ?_
    refine WD_loud (pend' := []) rfl (by kernel_rfl) ?_
    refine WS_store (us := [(sl v120)]) (vs' := [(sl v2), (.int .i64 (IntKind.i64.wrap (r95.2 + 1))), (sl v4), (sl v7), (sl v10), (sl v13), (sl v120)]) hs 1 rfl ti31 (O rfl) (O rfl) rfl rfl rfl rfl rfl ?_
    intro w123 hs
    replace hs := Sat.n15 (Γ := Φ) hs rfl
    refine WL_nil ?_
    refine At_QK allJ_nil ?_
    refine WD_nil ?_
    refine At_e0 rfl  ?_
    cases hm
    exact ⟨_, rfl, v120, R121, rfl, (hs.re 15 [1, 2, 3, 4, 5, 6, 7] rfl)⟩
   ·
    replace hm := bif_f hc113 hm
    refine WC_skip ?_
    refine At_then <| WC_region ?_
    refine Wo (Run_move (O rfl)) rfl <| ?_
    rcases bindE_some hm with ⟨p126, hp127, rfl⟩ | ⟨r124, hr125, hm⟩
    ·
     refine WL_callP (f := 55) (first := []) (cap := []) (xs := [(.tmp 35), (.const (.string ⟨#[44]⟩))]) (vs := [(.pointer (some ⟨b, 0, none⟩)), (S [44])]) (args := [(.pointer (some ⟨b, 0, none⟩)), (S [44])]) Tryd.call55 Opd.f (.cons (O rfl) (.cons Opd.c .nil)) rfl rfl (model_read_sign_ok (hs.re 14 [0, 1, 2, 3, 4, 5, 6, 7, 8, 9, 10, 11, 12, 13] rfl) hp127) ?_
     intro w129 hs
     refine At_blk_panic <| At_then_panic <| At_blk_panic <| At_then_panic <| ?_
     exact At_p ⟨_, rfl, rfl, hs.re 7 [] rfl⟩
    refine WL_callN (f := 55) (first := []) (cap := []) (xs := [(.tmp 35), (.const (.string ⟨#[44]⟩))]) (vs := [(.pointer (some ⟨b, 0, none⟩)), (S [44])]) (args := [(.pointer (some ⟨b, 0, none⟩)), (S [44])]) Tryd.call55 Opd.f (.cons (O rfl) (.cons Opd.c .nil)) rfl rfl (model_read_sign_ok (hs.re 14 [0, 1, 2, 3, 4, 5, 6, 7, 8, 9, 10, 11, 12, 13] rfl) hr125) ?_
    rintro _ w128 ⟨rfl, hs⟩
    replace hs := Sat.n14 (Γ := Φ) hs rfl
    refine WL_nil ?_
    refine At_blk_normal ?_
    exact At_again (r124, (l89 ++ ([r95.1] : List (Int × Ex)))) (v106, R107) hm (hs.re 14 [0, 1, 2, 3, 4, 5, 6, 10, 11, 9, 12, 13] rfl) rfl
 ·
  refine WC_seq <| WC_region ?_
  refine Wo (Run_move (O rfl)) rfl <| Wo (Run_nilP (O rfl)) rfl <| Wo (Run_fieldAddr fo69_2 (O rfl)) rfl <| Wo (Run_fieldAddr fo33_4 (O rfl)) rfl <| Wo (Run_load1 (v := (sl v16)) Tryd.underlying31 rfl (O rfl) (fun _ => (hs.box (i := 0) rfl).part 6 rfl)) rfl <| Wo (Run_lenSlG Tryd.underlying31 (O rfl) (fun _ => (hs.own (i := 6) rfl).len)) rfl <| Wo (Run_geI (O rfl) Opd.c) rfl <| ?_
  refine WL_nil <| At_then ?_
  refine WC_cond (O rfl) (fun hc130 => ?_) (fun hc130 => ?_)
  ·
   replace hm := bif_t hc130 hm
   refine WC_region ?_
   refine Wo (Run_move (O rfl)) rfl <| ?_
   rcases bindE_some hm with ⟨p133, hp134, rfl⟩ | ⟨r131, hr132, hm⟩
   ·
    refine WL_callP (f := 45) (first := []) (cap := []) (xs := [(.tmp 10), (.const (.int .i64 9))]) (vs := [(.pointer (some ⟨b, 0, none⟩)), (.int .i64 9)]) (args := [(.pointer (some ⟨b, 0, none⟩)), (.int .i64 9)]) Tryd.call45 Opd.f (.cons (O rfl) (.cons Opd.c .nil)) rfl rfl (model_read_stop_ok (hs.re 9 [0, 1, 2, 3, 4, 5, 6, 7, 8] rfl) hp134) ?_
    intro w136 hs
    refine At_then_panic <| ?_
    exact At_p ⟨_, rfl, rfl, hs.re 2 [] rfl⟩
   exact r131.elim
  ·
   replace hm := bif_f hc130 hm
   refine WC_skip ?_
   exact At_join () ⟨hm, (hs.re 9 [0, 1, 2, 3, 4, 5, 6, 7, 8] rfl)⟩ rfl
theorem model_read_process_ok {Φ w l at_ Names Schema Init Procs Cmd b v2 R v4 R5 v7 R8 v10 R11 v13 R14 v16 R17 r} (hs : Sat (box b 69 [(sl v2), (.int .i64 at_), (sl v4), (sl v7), (sl v10), (sl v13), (sl v16)] :: osl Q1 28 (sl v2) l R :: osl RS 9 (sl v4) Names R5 :: osl Q5 44 (sl v7) Schema R8 :: osl (RI .i64) 3 (sl v10) Init R11 :: osl RS 9 (sl v13) Procs R14 :: osl Q2 54 (sl v16) Cmd R17 :: gl 0 (keysL.map S) :: gl 1 (textsL.map S) :: Φ) w) (hm : model_read_process l at_ Names Schema Init Procs Cmd = some r) :
  CallsE Tryd.prog 42 [(.pointer (some ⟨b, 0, none⟩))] w r panV Φ (fun (r : (Int × (List Str) × Q7)) v w' => ∃ v5 : SLV, ∃ R6 : List Nat, ∃ v8 : SLV, ∃ R9 : List Nat, v = (.tuple #[]) ∧ Sat (box b 69 [(sl v2), (.int .i64 r.1), (sl v4), (sl v7), (sl v10), (sl v5), (sl v8)] :: osl Q1 28 (sl v2) l R :: osl RS 9 (sl v4) Names R5 :: osl Q5 44 (sl v7) Schema R8 :: osl (RI .i64) 3 (sl v10) Init R11 :: osl RS 9 (sl v5) r.2.1 R6 :: osl Q2 54 (sl v8) r.2.2 R9 :: Φ) w') := by
 refine CallsX_enter Tryd.func42 rfl Tryd.ntmps42 rfl ?_
 unfold model_read_process at hm
 refine WC_seq ?_
 refine WC_region_mixed [0, 0, 2, 4, 8, 16, 0, 64, 128, 416, 1023, 2047, 3071, 5119] (.q 0 0 (.q 1 1 (.q 2 3 (.q 3 7 (.q 4 15 (.q 5 31 (.q 6 63 (.l 7 127 (.l 8 255 (.l 9 511 (.q 10 1023 (.q 11 2047 (.q 12 4095 (.l 13 8191 .nil)))))))))))))) (by kernel_rfl) (by kernel_rfl) ?_
 intro w10 hx11
 replace hs := hs.ext hx11
 refine WD_pure (fun _ => (Run_move (O rfl))) rfl rfl rfl rfl <| WD_pure (fun _ => (Run_move (O rfl))) rfl rfl rfl rfl <| WD_pure (fun _ => (Run_nilP (O rfl))) rfl rfl rfl rfl <| WD_pure (fun _ => (Run_fieldAddr fo69_2 (O rfl))) rfl rfl rfl rfl <| WD_pure (fun _ => (Run_fieldAddr fo33_3 (O rfl))) rfl rfl rfl rfl <| WD_op (fun w => CellsAt w ⟨b, 5, none⟩ [(sl v13)]) ((hs.box (i := 0) rfl).part 5 rfl) (fun _ hJ => (Run_load1 (v := (sl v13)) Tryd.underlying26 rfl (O rfl) (fun _ => hJ))) rfl rfl rfl rfl <| WD_pure (fun _ => (Run_move (O rfl))) rfl rfl rfl rfl <| ?_
 refine WD_loud (pend' := [(5, fun w => CellsAt w ⟨b, 5, none⟩ [(sl v13)])]) rfl (by kernel_rfl) ?_
 rcases bindE_some hm with ⟨p14, hp15, rfl⟩ | ⟨r12, hr13, hm⟩
 ·
  refine WL_callP (f := 53) (first := []) (cap := []) (xs := [(.tmp 8), (.const (.bool false))]) (vs := [(.pointer (some ⟨b, 0, none⟩)), (.bool false)]) (args := [(.pointer (some ⟨b, 0, none⟩)), (.bool false)]) Tryd.call53 Opd.f (.cons (O rfl) (.cons Opd.c .nil)) rfl rfl (model_read_name_ok (hs.re 9 [0, 1, 2, 3, 4, 5, 6, 7, 7, 8] rfl) hp15) ?_
  intro w17 hs
  refine At_QK_panic <| AtP_then <| ?_
  exact AtP_p ⟨_, rfl, rfl, hs.re 2 [] rfl⟩
 refine WL_callN (f := 53) (first := []) (cap := []) (xs := [(.tmp 8), (.const (.bool false))]) (vs := [(.pointer (some ⟨b, 0, none⟩)), (.bool false)]) (args := [(.pointer (some ⟨b, 0, none⟩)), (.bool false)]) Tryd.call53 Opd.f (.cons (O rfl) (.cons Opd.c .nil)) rfl rfl (model_read_name_ok (hs.re 9 [0, 1, 2, 3, 4, 5, 6, 7, 7, 8] rfl) hr13) ?_
 rintro _ w16 ⟨rfl, hs⟩
 replace hs := Sat.n9 (Γ := Φ) hs rfl
 refine WL_nil ?_
 refine At_QK (allJ_cons ((hs.box (i := 0) rfl).part 5 rfl) allJ_nil) ?_
 refine WD_loud (pend' := [(5, fun w => CellsAt w ⟨b, 5, none⟩ [(sl v13)])]) rfl (by kernel_rfl) ?_
 refine WS_lit (A := RS) (xs := [r12.1]) (zs := [(S [])]) (cells := [(S r12.1)]) (parts := [(0, (.tmp 9))]) hs Tryd.underlying26 ti9 rfl rfl rfl (.cons (O rfl) .nil) (by kernel_rfl) rfl (ARd.cons (A := RS) (c := [(S r12.1)]) (x := r12.1) rfl ARd.nil) rfl ?_
 intro b18 w19 hs
 replace hs := Sat.n10 (Γ := Φ) hs rfl
 refine WL_nil ?_
 refine At_QK (allJ_cons ((hs.box (i := 1) rfl).part 5 rfl) allJ_nil) ?_
 refine WD_loud (pend' := []) rfl (by kernel_rfl) ?_
 replace hs := hs.freeze (i := 0) rfl
 obtain ⟨k20, hm⟩ := chk_some hm
 refine WS_append (A := RS) hs 6 rfl Tryd.underlying26 ti9 rfl rfl (O rfl) (O rfl) (hs.sl (i := 0) rfl) k20 rfl ?_
 intro v21 R22 w23 hs
 replace hs := Sat.n10 (Γ := Φ) hs rfl
 refine WL_nil ?_
 refine At_QK allJ_nil ?_
 refine WD_pure (fun _ => (Run_nilP (O rfl))) rfl rfl rfl rfl <| WD_pure (fun _ => (Run_fieldAddr fo69_2 (O rfl))) rfl rfl rfl rfl <| WD_pure (fun _ => (Run_fieldAddr fo33_3 (O rfl))) rfl rfl rfl rfl <| ?_
 refine WD_loud (pend' := []) rfl (by kernel_rfl) ?_
 refine WS_store (us := [(sl v21)]) (vs' := [(sl v2), (.int .i64 r12.2), (sl v4), (sl v7), (sl v10), (sl v21), (sl v16)]) hs 1 rfl ti26 (O rfl) (O rfl) rfl rfl rfl rfl rfl ?_
 intro w24 hs
 replace hs := Sat.n10 (Γ := Φ) hs rfl
 refine WL_nil ?_
 refine At_QK allJ_nil ?_
 refine WD_nil ?_
 refine At_then <| WC_seq <| WC_region ?_
 refine W ?_
 rcases bindE_some hm with ⟨p27, hp28, rfl⟩ | ⟨r25, hr26, hm⟩
 ·
  refine WL_callP (f := 55) (first := []) (cap := []) (xs := [(.tmp 15), (.const (.string ⟨#[123]⟩))]) (vs := [(.pointer (some ⟨b, 0, none⟩)), (S [123])]) (args := [(.pointer (some ⟨b, 0, none⟩)), (S [123])]) Tryd.call55 Opd.f (.cons (O rfl) (.cons Opd.c .nil)) rfl rfl (model_read_sign_ok (hs.re 10 [1, 2, 3, 4, 5, 6, 7, 0, 8, 9] rfl) hp28) ?_
  intro w30 hs
  refine At_then_panic <| ?_
  exact At_p ⟨_, rfl, rfl, hs.re 3 [] rfl⟩
 refine WL_callN (f := 55) (first := []) (cap := []) (xs := [(.tmp 15), (.const (.string ⟨#[123]⟩))]) (vs := [(.pointer (some ⟨b, 0, none⟩)), (S [123])]) (args := [(.pointer (some ⟨b, 0, none⟩)), (S [123])]) Tryd.call55 Opd.f (.cons (O rfl) (.cons Opd.c .nil)) rfl rfl (model_read_sign_ok (hs.re 10 [1, 2, 3, 4, 5, 6, 7, 0, 8, 9] rfl) hr26) ?_
 rintro _ w29 ⟨rfl, hs⟩
 replace hs := Sat.n10 (Γ := Φ) hs rfl
 refine WL_nil <| At_then <| WC_seq ?_
 refine WC_block ?_
 refine WC_loop (σ := Int × Q7) (γ := SLV × List Nat) (F := (model_read_process_L1 l Names Schema Init Procs r12)) (N := FUEL) (s0 := (r25, Cmd)) (r := r) (fun ⟨c32, c33⟩ ⟨v34, R35⟩ w31 => Sat (box b 69 [(sl v2), (.int .i64 c32), (sl v4), (sl v7), (sl v10), (sl v21), (sl v34)] :: osl Q1 28 (sl v2) l R :: osl RS 9 (sl v4) Names R5 :: osl Q5 44 (sl v7) Schema R8 :: osl (RI .i64) 3 (sl v10) Init R11 :: osl RS 9 (sl v21) (Procs ++ ([r12.1] : List Str)) R22 :: osl Q2 54 (sl v34) c33 R35 :: gl 0 (keysL.map S) :: gl 1 (textsL.map S) :: Φ) w31) (fun ⟨c32, c33⟩ ⟨v34, R35⟩ => [(0, true, (.pointer (some ⟨b, 0, none⟩)))]) hm (v16, R17) (hs.re 10 [0, 1, 2, 3, 4, 5, 6, 8, 9] rfl) rfl ?_
 rintro again36 ⟨c32, c33⟩ ⟨v34, R35⟩ w31 hm hs
 unfold model_read_process_L1 at hm
 dsimp only at hm
 refine WC_seq <| WC_seq <| WC_region ?_
 refine W ?_
 obtain ⟨r37, hr38, hm⟩ := bind_some' hm
 refine WL_call (f := 44) (first := []) (cap := []) (xs := [(.tmp 17), (.const (.int .i64 3)), (.const (.string ⟨#[125]⟩))]) (vs := [(.pointer (some ⟨b, 0, none⟩)), (.int .i64 3), (S [125])]) (args := [(.pointer (some ⟨b, 0, none⟩)), (.int .i64 3), (S [125])]) Tryd.call44 Opd.f (.cons (O rfl) (.cons Opd.c (.cons Opd.c .nil))) rfl rfl (model_read_is_ok (hs.re 9 [0, 1, 2, 3, 4, 5, 6, 7, 8] rfl) hr38) ?_
 rintro _ w39 ⟨rfl, hs⟩
 replace hs := Sat.n9 (Γ := Φ) hs rfl
 refine W ?_
 refine WL_nil <| At_then ?_
 refine WC_cond (O rfl) (fun hc40 => ?_) (fun hc40 => ?_)
 ·
  replace hm := bif_t hc40 hm
  refine WC_skip ?_
  refine At_then ?_
  refine WC_block ?_
  refine WC_region ?_
  refine W ?_
  rcases bindE_some hm with ⟨p43, hp44, rfl⟩ | ⟨r41, hr42, hm⟩
  ·
   refine WL_callP (f := 58) (first := []) (cap := []) (xs := [(.tmp 20)]) (vs := [(.pointer (some ⟨b, 0, none⟩))]) (args := [(.pointer (some ⟨b, 0, none⟩))]) Tryd.call58 Opd.f (.cons (O rfl) .nil) rfl rfl (model_read_command_ok (hs.re 9 [0, 1, 2, 3, 4, 5, 6, 7, 8, 7, 8] rfl) hp44) ?_
   intro w48 hs
   refine At_blk_panic <| At_then_panic <| At_blk_panic <| At_then_panic <| ?_
   exact At_p ⟨_, rfl, rfl, hs.re 2 [] rfl⟩
  refine WL_callN (f := 58) (first := []) (cap := []) (xs := [(.tmp 20)]) (vs := [(.pointer (some ⟨b, 0, none⟩))]) (args := [(.pointer (some ⟨b, 0, none⟩))]) Tryd.call58 Opd.f (.cons (O rfl) .nil) rfl rfl (model_read_command_ok (hs.re 9 [0, 1, 2, 3, 4, 5, 6, 7, 8, 7, 8] rfl) hr42) ?_
  rintro _ w47 ⟨v45, R46, rfl, hs⟩
  replace hs := Sat.n9 (Γ := Φ) hs rfl
  refine WL_nil ?_
  refine At_blk_normal ?_
  exact At_again (r41.1, r41.2) (v45, R46) hm (hs.re 9 [0, 1, 2, 3, 4, 5, 6, 7, 8] rfl) rfl
 ·
  replace hm := bif_f hc40 hm
  refine WC_exit ?_
  refine At_then_exit <| At_then_exit <| At_blk_here <| ?_
  refine At_then <| WC_region ?_
  iterate 7 refine W ?_
  refine WS_store (us := [(.int .i64 (IntKind.i64.wrap (c32 + 1)))]) (vs' := [(sl v2), (.int .i64 (IntKind.i64.wrap (c32 + 1))), (sl v4), (sl v7), (sl v10), (sl v21), (sl v34)]) hs 0 rfl ti3 (O rfl) (O rfl) rfl rfl rfl rfl rfl ?_
  intro w49 hs
  replace hs := Sat.n9 (Γ := Φ) hs rfl
  refine WL_nil ?_
  refine At_e0 rfl  ?_
  cases hm
  exact ⟨_, rfl, v21, R22, v34, R35, rfl, (hs.re 9 [0, 1, 2, 3, 4, 5, 6] rfl)⟩
end Go.Proofs.YtdhgpnejphlfpaaDoor
namespace Go.Proofs.YtdhgpnejphlfpaaDoor
open Go.Proofs
theorem model_read_all_ok {Φ w l at_ Names Schema Init Procs Cmd b v2 R v4 R5 v7 R8 v10 R11 v13 R14 v16 R17 r} (hs : Sat (box b 69 [(sl v2), (.int .i64 at_), (sl v4), (sl v7), (sl v10), (sl v13), (sl v16)] :: osl Q1 28 (sl v2) l R :: osl RS 9 (sl v4) Names R5 :: osl Q5 44 (sl v7) Schema R8 :: osl (RI .i64) 3 (sl v10) Init R11 :: osl RS 9 (sl v13) Procs R14 :: osl Q2 54 (sl v16) Cmd R17 :: gl 0 (keysL.map S) :: gl 1 (textsL.map S) :: Φ) w) (hm : model_read_all l at_ Names Schema Init Procs Cmd = some r) :
  CallsE Tryd.prog 24 [(.pointer (some ⟨b, 0, none⟩))] w r panV Φ (fun (r : (Int × (List Str) × Q9 × (List Int) × (List Str) × Q7)) v w' => ∃ v5 : SLV, ∃ R6 : List Nat, ∃ v8 : SLV, ∃ R9 : List Nat, ∃ v11 : SLV, ∃ R12 : List Nat, ∃ v14 : SLV, ∃ R15 : List Nat, ∃ v17 : SLV, ∃ R18 : List Nat, v = (.tuple #[]) ∧ Sat (box b 69 [(sl v2), (.int .i64 r.1), (sl v5), (sl v8), (sl v11), (sl v14), (sl v17)] :: osl Q1 28 (sl v2) l R :: osl RS 9 (sl v5) r.2.1 R6 :: osl Q5 44 (sl v8) r.2.2.1 R9 :: osl (RI .i64) 3 (sl v11) r.2.2.2.1 R12 :: osl RS 9 (sl v14) r.2.2.2.2.1 R15 :: osl Q2 54 (sl v17) r.2.2.2.2.2 R18 :: Φ) w') := by
 refine CallsX_enter Tryd.func24 rfl Tryd.ntmps24 rfl ?_
 unfold model_read_all at hm
 refine WC_seq <| WC_region ?_
 refine W ?_
 refine Wo (Run_makeFunc (first := [(.tmp 4)]) (cap := []) (.cons (O rfl) .nil) .nil) rfl <| ?_
 refine W ?_
 refine Wo (Run_makeFunc (first := [(.tmp 6)]) (cap := []) (.cons (O rfl) .nil) .nil) rfl <| Wo (Run_build (parts := [(0, (.tmp 5)), (1, (.tmp 7))]) (v := (.agg #[(.func (.func 41) #[(.pointer (some ⟨b, 0, none⟩))] #[]), (.func (.func 42) #[(.pointer (some ⟨b, 0, none⟩))] #[])])) (.cons (O rfl) (.cons (O rfl) .nil)) (fun _ => by kernel_rfl)) rfl <| ?_
 refine WS_alloc (zs := [.nilFunc, .nilFunc]) hs ti84 rfl rfl ?_
 intro b19 w20 hs
 replace hs := Sat.n10 (Γ := Φ) hs rfl
 refine WS_store (us := [(.func (.func 41) #[(.pointer (some ⟨b, 0, none⟩))] #[]), (.func (.func 42) #[(.pointer (some ⟨b, 0, none⟩))] #[])]) (vs' := [(.func (.func 41) #[(.pointer (some ⟨b, 0, none⟩))] #[]), (.func (.func 42) #[(.pointer (some ⟨b, 0, none⟩))] #[])]) hs 0 rfl ti84 (O rfl) (O rfl) rfl rfl rfl rfl rfl ?_
 intro w21 hs
 replace hs := Sat.n10 (Γ := Φ) hs rfl
 refine WL_nil <| At_then <| WC_seq ?_
 refine WC_block ?_
 refine WC_loop (σ := Int × (List Str) × Q9 × (List Int) × (List Str) × Q7) (γ := SLV × List Nat × SLV × List Nat × SLV × List Nat × SLV × List Nat × SLV × List Nat) (F := (model_read_all_L1 l)) (N := FUEL) (s0 := (at_, Names, Schema, Init, Procs, Cmd)) (r := r) (fun ⟨c23, c24, c27, c30, c33, c36⟩ ⟨v25, R26, v28, R29, v31, R32, v34, R35, v37, R38⟩ w22 => Sat (box b 69 [(sl v2), (.int .i64 c23), (sl v25), (sl v28), (sl v31), (sl v34), (sl v37)] :: osl Q1 28 (sl v2) l R :: osl RS 9 (sl v25) c24 R26 :: osl Q5 44 (sl v28) c27 R29 :: osl (RI .i64) 3 (sl v31) c30 R32 :: osl RS 9 (sl v34) c33 R35 :: osl Q2 54 (sl v37) c36 R38 :: box b19 84 [(.func (.func 41) #[(.pointer (some ⟨b, 0, none⟩))] #[]), (.func (.func 42) #[(.pointer (some ⟨b, 0, none⟩))] #[])] :: gl 0 (keysL.map S) :: gl 1 (textsL.map S) :: Φ) w22) (fun ⟨c23, c24, c27, c30, c33, c36⟩ ⟨v25, R26, v28, R29, v31, R32, v34, R35, v37, R38⟩ => [(0, true, (.pointer (some ⟨b, 0, none⟩))), (2, true, (.pointer (some ⟨b19, 0, none⟩)))]) hm (v4, R5, v7, R8, v10, R11, v13, R14, v16, R17) (hs.re 10 [1, 2, 3, 4, 5, 6, 7, 0, 8, 9] rfl) rfl ?_
 rintro again39 ⟨c23, c24, c27, c30, c33, c36⟩ ⟨v25, R26, v28, R29, v31, R32, v34, R35, v37, R38⟩ w22 hm hs
 unfold model_read_all_L1 at hm
 dsimp only at hm
 refine WC_seq <| WC_seq <| WC_region ?_
 refine W ?_
 obtain ⟨r40, hr41, hm⟩ := bind_some' hm
 refine WL_call (f := 43) (first := []) (cap := []) (xs := [(.tmp 9)]) (vs := [(.pointer (some ⟨b, 0, none⟩))]) (args := [(.pointer (some ⟨b, 0, none⟩))]) Tryd.call43 Opd.f (.cons (O rfl) .nil) rfl rfl (model_read_next_ok (hs.re 10 [0, 1, 2, 3, 4, 5, 6, 7, 8, 9] rfl) hr41) ?_
 rintro _ w42 ⟨rfl, hs⟩
 replace hs := Sat.n10 (Γ := Φ) hs rfl
 refine Wo (Run_field (cs := [(.int .i64 r40.1), (S r40.2.1), (.int .i64 r40.2.2.1), (.int .i64 r40.2.2.2)]) Tryd.underlying28 rfl rfl rfl Tryd.underlying3 ti3 (O rfl) rfl) rfl <| ?_
 refine W ?_
 refine WL_nil <| At_then ?_
 refine WC_cond (O rfl) (fun hc43 => ?_) (fun hc43 => ?_)
 ·
  replace hm := bif_t hc43 hm
  refine WC_skip ?_
  refine At_then ?_
  refine WC_block ?_
  refine WC_seq <| WC_region ?_
  iterate 3 refine W ?_
  refine WL_nil <| At_then <| WC_seq ?_
  refine WC_block ?_
  refine WC_seq <| WC_region ?_
  refine W ?_
  obtain ⟨r44, hr45, hm⟩ := bind_some' hm
  refine WL_call (f := 44) (first := []) (cap := []) (xs := [(.tmp 16), (.const (.int .i64 1)), (.const (.string ⟨#[118, 97, 114]⟩))]) (vs := [(.pointer (some ⟨b, 0, none⟩)), (.int .i64 1), (S [118, 97, 114])]) (args := [(.pointer (some ⟨b, 0, none⟩)), (.int .i64 1), (S [118, 97, 114])]) Tryd.call44 Opd.f (.cons (O rfl) (.cons Opd.c (.cons Opd.c .nil))) rfl rfl (model_read_is_ok (hs.re 10 [0, 1, 2, 3, 4, 5, 6, 7, 8, 9] rfl) hr45) ?_
  rintro _ w46 ⟨rfl, hs⟩
  replace hs := Sat.n10 (Γ := Φ) hs rfl
  refine W ?_
  refine WL_nil <| At_then ?_
  refine WC_cond (O rfl) (fun hc47 => ?_) (fun hc47 => ?_)
  ·
   replace hm := bif_t hc47 hm
   refine WC_region ?_
   iterate 3 refine W ?_
   refine WL_nil ?_
   refine At_blk_normal ?_
   refine At_then <| WC_seq <| WC_region ?_
   iterate 7 refine W ?_
   refine WS_store (us := [(.int .i64 (IntKind.i64.wrap (c23 + 1)))]) (vs' := [(sl v2), (.int .i64 (IntKind.i64.wrap (c23 + 1))), (sl v25), (sl v28), (sl v31), (sl v34), (sl v37)]) hs 0 rfl ti3 (O rfl) (O rfl) rfl rfl rfl rfl rfl ?_
   intro w48 hs
   replace hs := Sat.n10 (Γ := Φ) hs rfl
   refine WL_nil <| At_then <| WC_region ?_
   refine W ?_
   rcases bindE_some hm with ⟨p51, hp52, rfl⟩ | ⟨r49, hr50, hm⟩
   ·
    refine WL_callP (f := 41) (first := [(.pointer (some ⟨b, 0, none⟩))]) (cap := []) (xs := []) (vs := []) (args := [(.pointer (some ⟨b, 0, none⟩))]) Tryd.call41 (O rfl) .nil rfl rfl (model_read_variable_ok (hs.re 10 [0, 1, 2, 3, 4, 5, 6, 8, 7, 8, 9] rfl) hp52) ?_
    intro w60 hs
    refine At_blk_panic <| At_then_panic <| At_blk_panic <| At_then_panic <| ?_
    exact At_p ⟨_, rfl, rfl, hs.re 3 [] rfl⟩
   refine WL_callN (f := 41) (first := [(.pointer (some ⟨b, 0, none⟩))]) (cap := []) (xs := []) (vs := []) (args := [(.pointer (some ⟨b, 0, none⟩))]) Tryd.call41 (O rfl) .nil rfl rfl (model_read_variable_ok (hs.re 10 [0, 1, 2, 3, 4, 5, 6, 8, 7, 8, 9] rfl) hr50) ?_
   rintro _ w59 ⟨v53, R54, v55, R56, v57, R58, rfl, hs⟩
   replace hs := Sat.n10 (Γ := Φ) hs rfl
   refine WL_nil ?_
   refine At_blk_normal ?_
   exact At_again (r49.1, r49.2.1, r49.2.2.1, r49.2.2.2, c33, c36) (v53, R54, v55, R56, v57, R58, v34, R35, v37, R38) hm (hs.re 10 [0, 1, 2, 3, 4, 5, 6, 7, 8, 9] rfl) rfl
  ·
   replace hm := bif_f hc47 hm
   refine WC_seq <| WC_region ?_
   refine W ?_
   obtain ⟨r61, hr62, hm⟩ := bind_some' hm
   refine WL_call (f := 44) (first := []) (cap := []) (xs := [(.tmp 21), (.const (.int .i64 1)), (.const (.string ⟨#[112, 114, 111, 99]⟩))]) (vs := [(.pointer (some ⟨b, 0, none⟩)), (.int .i64 1), (S [112, 114, 111, 99])]) (args := [(.pointer (some ⟨b, 0, none⟩)), (.int .i64 1), (S [112, 114, 111, 99])]) Tryd.call44 Opd.f (.cons (O rfl) (.cons Opd.c (.cons Opd.c .nil))) rfl rfl (model_read_is_ok (hs.re 10 [0, 1, 2, 3, 4, 5, 6, 7, 8, 9] rfl) hr62) ?_
   rintro _ w63 ⟨rfl, hs⟩
   replace hs := Sat.n10 (Γ := Φ) hs rfl
   iterate 2 refine W ?_
   refine WL_nil <| At_then ?_
   refine WC_cond (O rfl) (fun hc64 => ?_) (fun hc64 => ?_)
   ·
    replace hm := bif_t hc64 hm
    refine WC_region ?_
    refine W ?_
    rcases bindE_some hm with ⟨p67, hp68, rfl⟩ | ⟨r65, hr66, hm⟩
    ·
     refine WL_callP (f := 45) (first := []) (cap := []) (xs := [(.tmp 24), (.const (.int .i64 2))]) (vs := [(.pointer (some ⟨b, 0, none⟩)), (.int .i64 2)]) (args := [(.pointer (some ⟨b, 0, none⟩)), (.int .i64 2)]) Tryd.call45 Opd.f (.cons (O rfl) (.cons Opd.c .nil)) rfl rfl (model_read_stop_ok (hs.re 10 [0, 1, 2, 3, 4, 5, 6, 7, 8, 9] rfl) hp68) ?_
     intro w70 hs
     refine At_blk_panic <| At_then_panic <| At_blk_panic <| At_then_panic <| At_blk_panic <| At_then_panic <| ?_
     exact At_p ⟨_, rfl, rfl, hs.re 3 [] rfl⟩
    exact r65.elim
   ·
    replace hm := bif_f hc64 hm
    refine WC_skip ?_
    refine At_blk_normal ?_
    refine At_then <| WC_seq <| WC_region ?_
    iterate 7 refine W ?_
    refine WS_store (us := [(.int .i64 (IntKind.i64.wrap (c23 + 1)))]) (vs' := [(sl v2), (.int .i64 (IntKind.i64.wrap (c23 + 1))), (sl v25), (sl v28), (sl v31), (sl v34), (sl v37)]) hs 0 rfl ti3 (O rfl) (O rfl) rfl rfl rfl rfl rfl ?_
    intro w71 hs
    replace hs := Sat.n10 (Γ := Φ) hs rfl
    refine WL_nil <| At_then <| WC_region ?_
    refine W ?_
    rcases bindE_some hm with ⟨p74, hp75, rfl⟩ | ⟨r72, hr73, hm⟩
    ·
     refine WL_callP (f := 42) (first := [(.pointer (some ⟨b, 0, none⟩))]) (cap := []) (xs := []) (vs := []) (args := [(.pointer (some ⟨b, 0, none⟩))]) Tryd.call42 (O rfl) .nil rfl rfl (model_read_process_ok (hs.re 10 [0, 1, 2, 3, 4, 5, 6, 8, 9, 7, 8, 9] rfl) hp75) ?_
     intro w81 hs
     refine At_blk_panic <| At_then_panic <| At_blk_panic <| At_then_panic <| ?_
     exact At_p ⟨_, rfl, rfl, hs.re 3 [] rfl⟩
    refine WL_callN (f := 42) (first := [(.pointer (some ⟨b, 0, none⟩))]) (cap := []) (xs := []) (vs := []) (args := [(.pointer (some ⟨b, 0, none⟩))]) Tryd.call42 (O rfl) .nil rfl rfl (model_read_process_ok (hs.re 10 [0, 1, 2, 3, 4, 5, 6, 8, 9, 7, 8, 9] rfl) hr73) ?_
    rintro _ w80 ⟨v76, R77, v78, R79, rfl, hs⟩
    replace hs := Sat.n10 (Γ := Φ) hs rfl
    refine WL_nil ?_
    refine At_blk_normal ?_
    exact At_again (r72.1, c24, c27, c30, r72.2.1, r72.2.2) (v25, R26, v28, R29, v31, R32, v76, R77, v78, R79) hm (hs.re 10 [0, 1, 2, 3, 4, 5, 6, 7, 8, 9] rfl) rfl
 ·
  replace hm := bif_f hc43 hm
  refine WC_exit ?_
  refine At_then_exit <| At_then_exit <| At_blk_here <| ?_
  refine At_then <| WC_seq <| WC_region ?_
  iterate 7 refine W ?_
  refine WL_nil <| At_then ?_
  refine WC_cond (O rfl) (fun hc82 => ?_) (fun hc82 => ?_)
  ·
   replace hm := bif_t hc82 hm
   refine WC_region ?_
   refine W ?_
   rcases bindE_some hm with ⟨p85, hp86, rfl⟩ | ⟨r83, hr84, hm⟩
   ·
    refine WL_callP (f := 45) (first := []) (cap := []) (xs := [(.tmp 42), (.const (.int .i64 2))]) (vs := [(.pointer (some ⟨b, 0, none⟩)), (.int .i64 2)]) (args := [(.pointer (some ⟨b, 0, none⟩)), (.int .i64 2)]) Tryd.call45 Opd.f (.cons (O rfl) (.cons Opd.c .nil)) rfl rfl (model_read_stop_ok (hs.re 10 [0, 1, 2, 3, 4, 5, 6, 7, 8, 9] rfl) hp86) ?_
    intro w88 hs
    exact At_p ⟨_, rfl, rfl, hs.re 3 [] rfl⟩
   exact r83.elim
  ·
   replace hm := bif_f hc82 hm
   refine WC_skip ?_
   refine At_e0 rfl  ?_
   cases hm
   exact ⟨_, rfl, v25, R26, v28, R29, v31, R32, v34, R35, v37, R38, rfl, (hs.re 10 [0, 1, 2, 3, 4, 5, 6] rfl)⟩
theorem model_Parse_ok {Φ w text r} (hs : Sat (gl 0 (keysL.map S) :: gl 1 (textsL.map S) :: Φ) w) (hm : model_Parse text = some r) :
  CallsR Tryd.prog 11 [(S text)] w (fun v w' => ∃ v3 : SLV, ∃ R4 : List Nat, ∃ v5 : SLV, ∃ R6 : List Nat, ∃ v7 : SLV, ∃ R8 : List Nat, ∃ v9 : SLV, ∃ R10 : List Nat, ∃ v11 : SLV, ∃ R12 : List Nat, v = (.tuple #[(.agg #[(sl v3), (sl v5), (sl v7), (sl v9), (sl v11)]), (.int .i64 r.2.1), (.int .i64 r.2.2)]) ∧ Sat (osl RS 9 (sl v3) r.1.1 R4 :: osl Q5 44 (sl v5) r.1.2.1 R6 :: osl (RI .i64) 3 (sl v7) r.1.2.2.1 R8 :: osl RS 9 (sl v9) r.1.2.2.2.1 R10 :: osl Q2 54 (sl v11) r.1.2.2.2.2 R12 :: Φ) w') := by
 refine CallsX_enter Tryd.func11 rfl Tryd.ntmps11 rfl ?_
 unfold model_Parse at hm
 refine WC_seq <| WC_region ?_
 refine WS_alloc (zs := [(sl (none, 0, 0)), (sl (none, 0, 0)), (sl (none, 0, 0)), (sl (none, 0, 0)), (sl (none, 0, 0))]) hs ti33 rfl rfl ?_
 intro b15 w16 hs
 replace hs := Sat.n3 (Γ := Φ) hs rfl
 refine WS_alloc (zs := [(.int .i64 0)]) hs ti34 rfl rfl ?_
 intro b17 w18 hs
 replace hs := Sat.n4 (Γ := Φ) hs rfl
 refine WS_alloc (zs := [(.int .i64 0)]) hs ti3 rfl rfl ?_
 intro b19 w20 hs
 replace hs := Sat.n5 (Γ := Φ) hs rfl
 refine WL_nil <| At_then <| WC_seq <| WC_region ?_
 refine W ?_
 obtain ⟨r21, hr22, hm⟩ := bind_some' hm
 refine WL_call (f := 22) (first := []) (cap := []) (xs := [(.tmp 10)]) (vs := [(S text)]) (args := [(S text)]) Tryd.call22 Opd.f (.cons (O rfl) .nil) rfl rfl (lex_Tokens_ok (hs.re 5 [0, 1, 2, 3, 4] rfl) hr22) ?_
 rintro _ w25 ⟨v23, R24, rfl, hs⟩
 replace hs := Sat.n6 (Γ := Φ) hs rfl
 iterate 7 refine W ?_
 refine WL_nil <| At_then <| WC_seq <| WC_seq <| WC_region ?_
 iterate 2 refine W ?_
 refine WL_nil <| At_then ?_
 refine WC_cond (O rfl) (fun hc26 => ?_) (fun hc26 => ?_)
 ·
  replace hm := bif_t hc26 hm
  refine WC_seq <| WC_region ?_
  refine Wo (Run_build (parts := []) (v := (.agg #[(sl (none, 0, 0)), (sl (none, 0, 0)), (sl (none, 0, 0)), (sl (none, 0, 0)), (sl (none, 0, 0))])) .nil (fun _ => by kernel_rfl)) rfl <| ?_
  iterate 2 refine W ?_
  refine WS_store (us := [(sl (none, 0, 0)), (sl (none, 0, 0)), (sl (none, 0, 0)), (sl (none, 0, 0)), (sl (none, 0, 0))]) (vs' := [(sl (none, 0, 0)), (sl (none, 0, 0)), (sl (none, 0, 0)), (sl (none, 0, 0)), (sl (none, 0, 0))]) hs 3 rfl ti33 (O rfl) (O rfl) rfl rfl rfl rfl rfl ?_
  intro w27 hs
  replace hs := Sat.n6 (Γ := Φ) hs rfl
  refine WS_store (us := [(.int .i64 r21.2.1)]) (vs' := [(.int .i64 r21.2.1)]) hs 2 rfl ti34 (O rfl) (O rfl) rfl rfl rfl rfl rfl ?_
  intro w28 hs
  replace hs := Sat.n6 (Γ := Φ) hs rfl
  refine WS_store (us := [(.int .i64 r21.2.2)]) (vs' := [(.int .i64 r21.2.2)]) hs 1 rfl ti3 (O rfl) (O rfl) rfl rfl rfl rfl rfl ?_
  intro w29 hs
  replace hs := Sat.n6 (Γ := Φ) hs rfl
  refine WL_nil <| At_then ?_
  refine WC_ret ?_
  refine At_then_ret <| ?_
  refine At_r3 rfl (ResIs.cA (vs := [(sl (none, 0, 0)), (sl (none, 0, 0)), (sl (none, 0, 0)), (sl (none, 0, 0)), (sl (none, 0, 0))]) rfl Tryd.underlying33 rfl ti33 ((hs.box (i := 3) rfl).part 0 rfl) rfl) (ResIs.c1 (vs := [(.int .i64 r21.2.1)]) rfl Tryd.underlying34 rfl ((hs.box (i := 2) rfl).part 0 rfl) rfl) (ResIs.c1 (vs := [(.int .i64 r21.2.2)]) rfl Tryd.underlying3 rfl ((hs.box (i := 1) rfl).part 0 rfl) rfl) ?_
  replace hs := hs.addNil RS 9
  replace hs := hs.addNil Q5 44
  replace hs := hs.addNil (RI .i64) 3
  replace hs := hs.addNil RS 9
  replace hs := hs.addNil Q2 54
  cases hm
  exact ⟨(none, 0, 0), [], (none, 0, 0), [], (none, 0, 0), [], (none, 0, 0), [], (none, 0, 0), [], rfl, (hs.re 11 [4, 3, 2, 1, 0] rfl)⟩
 ·
  replace hm := bif_f hc26 hm
  refine WC_skip ?_
  refine At_then <| WC_seq <| WC_region ?_
  refine Wo (Run_makeFunc (first := []) (cap := [(.tmp 2), (.tmp 3), (.tmp 4)]) .nil (.cons (O rfl) (.cons (O rfl) (.cons (O rfl) .nil)))) rfl <| ?_
  refine WL_defer (f := 23) (cap := [(.pointer (some ⟨b15, 0, none⟩)), (.pointer (some ⟨b17, 0, none⟩)), (.pointer (some ⟨b19, 0, none⟩))]) (O rfl) ?_
  refine WL_nil <| At_then <| WC_seq <| WC_region ?_
  refine W ?_
  refine Wo (Run_build (parts := [(0, (.tmp 21))]) (v := (.agg #[(sl v23), (.int .i64 0), (sl (none, 0, 0)), (sl (none, 0, 0)), (sl (none, 0, 0)), (sl (none, 0, 0)), (sl (none, 0, 0))])) (.cons (O rfl) .nil) (fun _ => by kernel_rfl)) rfl <| ?_
  refine WS_box (zs := [(sl v23), (.int .i64 0), (sl (none, 0, 0)), (sl (none, 0, 0)), (sl (none, 0, 0)), (sl (none, 0, 0)), (sl (none, 0, 0))]) hs (O rfl) rfl rfl ?_
  intro b30 w31 hs
  replace hs := Sat.n7 (Γ := Φ) hs rfl
  refine W ?_
  refine WL_nil <| At_then <| WC_seq <| WC_region ?_
  refine W ?_
  replace hs := hs.addNil RS 9
  replace hs := hs.addNil Q5 44
  replace hs := hs.addNil (RI .i64) 3
  replace hs := hs.addNil RS 9
  replace hs := hs.addNil Q2 54
  rcases elimE_some hm with ⟨p34, hp35, hm⟩ | ⟨r32, hr33, hm⟩
  ·
   refine WL_callP (f := 24) (first := []) (cap := []) (xs := [(.tmp 24)]) (vs := [(.pointer (some ⟨b30, 0, none⟩))]) (args := [(.pointer (some ⟨b30, 0, none⟩))]) Tryd.call24 Opd.f (.cons (O rfl) .nil) rfl rfl (model_read_all_ok (hs.re 12 [5, 6, 4, 3, 2, 1, 0, 10, 11, 7, 8, 9, 10, 11] rfl) hp35) ?_
   intro w47 hs
   refine At_then_panic <| ?_
   replace hs := hs.re 5 [2, 1, 0, 3, 4] rfl
   refine At_dfrP Tryd.call23 (clo23_pan p34 hs) (fun w48 hs => ?_)
   replace hs := Sat.n5 (Γ := Φ) hs rfl
   refine At_r3 rfl (ResIs.cA (vs := [(sl (none, 0, 0)), (sl (none, 0, 0)), (sl (none, 0, 0)), (sl (none, 0, 0)), (sl (none, 0, 0))]) rfl Tryd.underlying33 rfl ti33 ((hs.box (i := 0) rfl).part 0 rfl) rfl) (ResIs.c1 (vs := [(.int .i64 p34.1)]) rfl Tryd.underlying34 rfl ((hs.box (i := 1) rfl).part 0 rfl) rfl) (ResIs.c1 (vs := [(.int .i64 p34.2)]) rfl Tryd.underlying3 rfl ((hs.box (i := 2) rfl).part 0 rfl) rfl) ?_
   replace hs := hs.addNil RS 9
   replace hs := hs.addNil Q5 44
   replace hs := hs.addNil (RI .i64) 3
   replace hs := hs.addNil RS 9
   replace hs := hs.addNil Q2 54
   cases hm
   exact ⟨(none, 0, 0), [], (none, 0, 0), [], (none, 0, 0), [], (none, 0, 0), [], (none, 0, 0), [], rfl, (hs.re 10 [4, 3, 2, 1, 0] rfl)⟩
  refine WL_callN (f := 24) (first := []) (cap := []) (xs := [(.tmp 24)]) (vs := [(.pointer (some ⟨b30, 0, none⟩))]) (args := [(.pointer (some ⟨b30, 0, none⟩))]) Tryd.call24 Opd.f (.cons (O rfl) .nil) rfl rfl (model_read_all_ok (hs.re 12 [5, 6, 4, 3, 2, 1, 0, 10, 11, 7, 8, 9, 10, 11] rfl) hr33) ?_
  rintro _ w46 ⟨v36, R37, v38, R39, v40, R41, v42, R43, v44, R45, rfl, hs⟩
  replace hs := Sat.n12 (Γ := Φ) hs rfl
  refine WL_nil <| At_then <| WC_seq <| WC_region ?_
  iterate 3 refine W ?_
  refine Wo (Run_loadA (vs := [(sl v36), (sl v38), (sl v40), (sl v42), (sl v44)]) Tryd.underlying33 rfl ti33 (O rfl) (fun _ => (hs.box (i := 0) rfl).part 2 rfl) rfl) rfl <| ?_
  refine WS_store (us := [(sl v36), (sl v38), (sl v40), (sl v42), (sl v44)]) (vs' := [(sl v36), (sl v38), (sl v40), (sl v42), (sl v44)]) hs 9 rfl ti33 (O rfl) (O rfl) rfl rfl rfl rfl rfl ?_
  intro w49 hs
  replace hs := Sat.n12 (Γ := Φ) hs rfl
  refine WS_store (us := [(.int .i64 0)]) (vs' := [(.int .i64 0)]) hs 8 rfl ti34 (O rfl) Opd.c rfl rfl rfl rfl rfl ?_
  intro w50 hs
  replace hs := Sat.n12 (Γ := Φ) hs rfl
  refine WS_store (us := [(.int .i64 0)]) (vs' := [(.int .i64 0)]) hs 7 rfl ti3 (O rfl) Opd.c rfl rfl rfl rfl rfl ?_
  intro w51 hs
  replace hs := Sat.n12 (Γ := Φ) hs rfl
  refine WL_nil <| At_then ?_
  refine WC_ret ?_
  refine At_dfr Tryd.call23 (clo23_ret hs) (fun w52 hs => ?_)
  refine At_r3 rfl (ResIs.cA (vs := [(sl v36), (sl v38), (sl v40), (sl v42), (sl v44)]) rfl Tryd.underlying33 rfl ti33 ((hs.box (i := 9) rfl).part 0 rfl) rfl) (ResIs.c1 (vs := [(.int .i64 0)]) rfl Tryd.underlying34 rfl ((hs.box (i := 8) rfl).part 0 rfl) rfl) (ResIs.c1 (vs := [(.int .i64 0)]) rfl Tryd.underlying3 rfl ((hs.box (i := 7) rfl).part 0 rfl) rfl) ?_
  cases hm
  exact ⟨v36, R37, v38, R39, v40, R41, v42, R43, v44, R45, rfl, (hs.re 12 [2, 3, 4, 5, 6] rfl)⟩
theorem slices_Equal_string_string_ok {Φ w s1 s2 v1 v3 r} (hs : Sat (imm (RSl RS) [sl v1] s1 :: imm (RSl RS) [sl v3] s2 :: Φ) w) (hm : slices_Equal_string_string s1 s2 = some r) :
  CallsR Tryd.prog 29 [(sl v1), (sl v3)] w (fun v w' => v = (.bool r) ∧ Sat (Φ) w') := by
 refine CallsX_enter Tryd.func29 rfl Tryd.ntmps29 rfl ?_
 unfold slices_Equal_string_string at hm
 refine WC_seq <| WC_region ?_
 refine W ?_
 refine WL_nil <| At_then <| WC_seq <| WC_seq <| WC_region ?_
 iterate 5 refine W ?_
 refine WL_nil <| At_then ?_
 refine WC_cond (O rfl) (fun hc3 => ?_) (fun hc3 => ?_)
 ·
  replace hm := bif_t hc3 hm
  refine WC_seq <| WC_region ?_
  refine W ?_
  refine WL_nil <| At_then ?_
  refine WC_ret ?_
  refine At_then_ret <| ?_
  refine At_r1 rfl (ResIs.t rfl) ?_
  cases hm
  exact ⟨rfl, (hs.re 2 [] rfl)⟩
 ·
  replace hm := bif_f hc3 hm
  refine WC_skip ?_
  refine At_then <| WC_seq <| WC_seq <| WC_region ?_
  iterate 3 refine W ?_
  refine WL_nil <| At_then ?_
  refine WC_block ?_
  refine WC_loop (σ := Int) (γ := Unit) (F := (slices_Equal_string_string_L1 s1 s2)) (N := FUEL) (s0 := 0) (r := r) (fun t5 (_ : Unit) w4 => Sat (imm (RSl RS) [sl v1] s1 :: imm (RSl RS) [sl v3] s2 :: Φ) w4) (fun t5 (_ : Unit) => [(0, true, (sl v1)), (1, true, (sl v3)), (12, true, (.int .i64 (List.length s1 : Int))), (13, true, (.int .i64 t5))]) hm () (hs.re 2 [0, 1] rfl) rfl ?_
  rintro again6 t5 _ w4 hm hs
  unfold slices_Equal_string_string_L1 at hm
  refine WC_seq <| WC_region ?_
  refine W ?_
  refine WL_nil <| At_then <| WC_seq ?_
  refine WC_cond (O rfl) (fun hc7 => ?_) (fun hc7 => ?_)
  ·
   replace hm := bif_t hc7 hm
   refine WC_skip ?_
   refine At_then <| WC_seq ?_
   refine WC_block ?_
   refine WC_seq <| WC_region ?_
   iterate 2 refine W ?_
   refine WL_nil <| At_then <| WC_seq ?_
   refine WC_region_mixed [0, 0, 3, 4, 0, 0, 48, 64, 136] (.q 0 0 (.q 1 1 (.q 2 3 (.q 3 7 (.q 4 15 (.q 5 31 (.q 6 63 (.q 7 127 (.q 8 255 .nil))))))))) (by kernel_rfl) (by kernel_rfl) ?_
   intro w8 hx9
   replace hs := hs.ext hx9
   refine WD_pure (fun _ => (Run_move (O rfl))) rfl rfl rfl rfl <| WD_pure (fun _ => (Run_move (O rfl))) rfl rfl rfl rfl <| ?_
   obtain ⟨e10, he11, hm⟩ := bind_some' hm
   refine WD_pure (fun _ => (Run_idxAddr (p := (elA (sl v1) t5 1)) Tryd.underlying26 ti9 (O rfl) (O rfl) (fun hg => (SRd.atA (A := RS) (v := (sl v1)) (hs.sl (i := 0) rfl) he11).1))) rfl rfl rfl rfl <| WD_op (fun w => true = true → CellsAt w (elA (sl v1) t5 1) [(S e10)]) (fun hg => (SRd.cellsF (A := RS) (v := (sl v1)) (hs.sl (i := 0) rfl) he11 (fun _ h => openT9 h)).sub 0 rfl) (fun _ hJ => (Run_load1 (v := (S e10)) Tryd.underlying9 rfl (O rfl) hJ)) rfl rfl rfl rfl <| WD_pure (fun _ => (Run_move (O rfl))) rfl rfl rfl rfl <| WD_pure (fun _ => (Run_move (O rfl))) rfl rfl rfl rfl <| ?_
   obtain ⟨e12, he13, hm⟩ := bind_some' hm
   refine WD_pure (fun _ => (Run_idxAddr (p := (elA (sl v3) t5 1)) Tryd.underlying26 ti9 (O rfl) (O rfl) (fun hg => (SRd.atA (A := RS) (v := (sl v3)) (hs.sl (i := 1) rfl) he13).1))) rfl rfl rfl rfl <| WD_op (fun w => true = true → CellsAt w (elA (sl v3) t5 1) [(S e12)]) (fun hg => (SRd.cellsF (A := RS) (v := (sl v3)) (hs.sl (i := 1) rfl) he13 (fun _ h => openT9 h)).sub 0 rfl) (fun _ hJ => (Run_load1 (v := (S e12)) Tryd.underlying9 rfl (O rfl) hJ)) rfl rfl rfl rfl <| WD_pure (fun _ => (Run_neS (O rfl) (O rfl))) rfl rfl rfl rfl <| ?_
   refine WD_nil ?_
   refine At_then ?_
   refine WC_cond (O rfl) (fun hc14 => ?_) (fun hc14 => ?_)
   ·
    replace hm := bif_t hc14 hm
    refine WC_seq <| WC_region ?_
    refine W ?_
    refine WL_nil <| At_then ?_
    refine WC_ret ?_
    refine At_blk_ret <| At_then_ret <| At_then_ret <| At_blk_ret <| At_then_ret <| ?_
    refine At_r1 rfl (ResIs.t rfl) ?_
    cases hm
    exact ⟨rfl, (hs.re 2 [] rfl)⟩
   ·
    replace hm := bif_f hc14 hm
    refine WC_skip ?_
    refine At_blk_normal ?_
    refine At_then <| WC_region ?_
    iterate 2 refine W ?_
    refine WL_nil ?_
    exact At_again (IntKind.i64.wrap (t5 + 1)) () hm (hs.re 2 [0, 1] rfl) rfl
  ·
   replace hm := bif_f hc7 hm
   refine WC_exit ?_
   refine At_then_exit <| At_then_exit <| At_blk_here <| ?_
   refine At_then <| WC_seq <| WC_region ?_
   refine W ?_
   refine WL_nil <| At_then ?_
   refine WC_ret ?_
   refine At_r1 rfl (ResIs.t rfl) ?_
   cases hm
   exact ⟨rfl, (hs.re 2 [] rfl)⟩
theorem slices_Equal_api_Field_api_Field_ok {Φ w s1 s2 v1 v3 r} (hs : Sat (imm (RSl Q5) [sl v1] s1 :: imm (RSl Q5) [sl v3] s2 :: Φ) w) (hm : slices_Equal_api_Field_api_Field s1 s2 = some r) :
  CallsR Tryd.prog 30 [(sl v1), (sl v3)] w (fun v w' => v = (.bool r) ∧ Sat (Φ) w') := by
 refine CallsX_enter Tryd.func30 rfl Tryd.ntmps30 rfl ?_
 unfold slices_Equal_api_Field_api_Field at hm
 refine WC_seq <| WC_region ?_
 refine W ?_
 refine WL_nil <| At_then <| WC_seq <| WC_seq <| WC_region ?_
 iterate 5 refine W ?_
 refine WL_nil <| At_then ?_
 refine WC_cond (O rfl) (fun hc3 => ?_) (fun hc3 => ?_)
 ·
  replace hm := bif_t hc3 hm
  refine WC_seq <| WC_region ?_
  refine W ?_
  refine WL_nil <| At_then ?_
  refine WC_ret ?_
  refine At_then_ret <| ?_
  refine At_r1 rfl (ResIs.t rfl) ?_
  cases hm
  exact ⟨rfl, (hs.re 2 [] rfl)⟩
 ·
  replace hm := bif_f hc3 hm
  refine WC_skip ?_
  refine At_then <| WC_seq <| WC_seq <| WC_region ?_
  iterate 3 refine W ?_
  refine WL_nil <| At_then ?_
  refine WC_block ?_
  refine WC_loop (σ := Int) (γ := Unit) (F := (slices_Equal_api_Field_api_Field_L1 s1 s2)) (N := FUEL) (s0 := 0) (r := r) (fun t5 (_ : Unit) w4 => Sat (imm (RSl Q5) [sl v1] s1 :: imm (RSl Q5) [sl v3] s2 :: Φ) w4) (fun t5 (_ : Unit) => [(0, true, (sl v1)), (1, true, (sl v3)), (12, true, (.int .i64 (List.length s1 : Int))), (13, true, (.int .i64 t5))]) hm () (hs.re 2 [0, 1] rfl) rfl ?_
  rintro again6 t5 _ w4 hm hs
  unfold slices_Equal_api_Field_api_Field_L1 at hm
  refine WC_seq <| WC_region ?_
  refine W ?_
  refine WL_nil <| At_then <| WC_seq ?_
  refine WC_cond (O rfl) (fun hc7 => ?_) (fun hc7 => ?_)
  ·
   replace hm := bif_t hc7 hm
   refine WC_skip ?_
   refine At_then <| WC_seq ?_
   refine WC_block ?_
   refine WC_seq <| WC_region ?_
   iterate 2 refine W ?_
   refine WL_nil <| At_then <| WC_seq ?_
   refine WC_region_mixed [0, 0, 3, 4, 0, 0, 48, 64, 136] (.q 0 0 (.q 1 1 (.q 2 3 (.q 3 7 (.q 4 15 (.q 5 31 (.q 6 63 (.q 7 127 (.q 8 255 .nil))))))))) (by kernel_rfl) (by kernel_rfl) ?_
   intro w8 hx9
   replace hs := hs.ext hx9
   refine WD_pure (fun _ => (Run_move (O rfl))) rfl rfl rfl rfl <| WD_pure (fun _ => (Run_move (O rfl))) rfl rfl rfl rfl <| ?_
   obtain ⟨e10, he11, hm⟩ := bind_some' hm
   refine WD_pure (fun _ => (Run_idxAddr (p := (elA (sl v1) t5 2)) Tryd.underlying29 ti44 (O rfl) (O rfl) (fun hg => (SRd.atA (A := Q5) (v := (sl v1)) (hs.sl (i := 0) rfl) he11).1))) rfl rfl rfl rfl <| WD_op (fun w => true = true → CellsAt w (elA (sl v1) t5 2) [(.int .i64 e10.1), (.int .i64 e10.2)]) (fun hg => (SRd.cellsF (A := Q5) (v := (sl v1)) (hs.sl (i := 0) rfl) he11 (fun _ h => openT44 h)).sub 0 rfl) (fun _ hJ => (Run_loadA (vs := [(.int .i64 e10.1), (.int .i64 e10.2)]) Tryd.underlying44 rfl ti44 (O rfl) hJ rfl)) rfl rfl rfl rfl <| WD_pure (fun _ => (Run_move (O rfl))) rfl rfl rfl rfl <| WD_pure (fun _ => (Run_move (O rfl))) rfl rfl rfl rfl <| ?_
   obtain ⟨e12, he13, hm⟩ := bind_some' hm
   refine WD_pure (fun _ => (Run_idxAddr (p := (elA (sl v3) t5 2)) Tryd.underlying29 ti44 (O rfl) (O rfl) (fun hg => (SRd.atA (A := Q5) (v := (sl v3)) (hs.sl (i := 1) rfl) he13).1))) rfl rfl rfl rfl <| WD_op (fun w => true = true → CellsAt w (elA (sl v3) t5 2) [(.int .i64 e12.1), (.int .i64 e12.2)]) (fun hg => (SRd.cellsF (A := Q5) (v := (sl v3)) (hs.sl (i := 1) rfl) he13 (fun _ h => openT44 h)).sub 0 rfl) (fun _ hJ => (Run_loadA (vs := [(.int .i64 e12.1), (.int .i64 e12.2)]) Tryd.underlying44 rfl ti44 (O rfl) hJ rfl)) rfl rfl rfl rfl <| WD_pure (fun _ => (Run_bin (O rfl) (O rfl) (run_neT44 _ _ _ _ _))) rfl rfl rfl rfl <| ?_
   refine WD_nil ?_
   refine At_then ?_
   refine WC_cond (O rfl) (fun hc14 => ?_) (fun hc14 => ?_)
   ·
    replace hm := bif_t hc14 hm
    refine WC_seq <| WC_region ?_
    refine W ?_
    refine WL_nil <| At_then ?_
    refine WC_ret ?_
    refine At_blk_ret <| At_then_ret <| At_then_ret <| At_blk_ret <| At_then_ret <| ?_
    refine At_r1 rfl (ResIs.t rfl) ?_
    cases hm
    exact ⟨rfl, (hs.re 2 [] rfl)⟩
   ·
    replace hm := bif_f hc14 hm
    refine WC_skip ?_
    refine At_blk_normal ?_
    refine At_then <| WC_region ?_
    iterate 2 refine W ?_
    refine WL_nil ?_
    exact At_again (IntKind.i64.wrap (t5 + 1)) () hm (hs.re 2 [0, 1] rfl) rfl
  ·
   replace hm := bif_f hc7 hm
   refine WC_exit ?_
   refine At_then_exit <| At_then_exit <| At_blk_here <| ?_
   refine At_then <| WC_seq <| WC_region ?_
   refine W ?_
   refine WL_nil <| At_then ?_
   refine WC_ret ?_
   refine At_r1 rfl (ResIs.t rfl) ?_
   cases hm
   exact ⟨rfl, (hs.re 2 [] rfl)⟩
end Go.Proofs.YtdhgpnejphlfpaaDoor
namespace Go.Proofs.YtdhgpnejphlfpaaDoor
open Go.Proofs
theorem slices_Equal_int_int_ok {Φ w s1 s2 v1 v3 r} (hs : Sat (imm Q8 [sl v1] s1 :: imm Q8 [sl v3] s2 :: Φ) w) (hm : slices_Equal_int_int s1 s2 = some r) :
  CallsR Tryd.prog 31 [(sl v1), (sl v3)] w (fun v w' => v = (.bool r) ∧ Sat (Φ) w') := by
 refine CallsX_enter Tryd.func31 rfl Tryd.ntmps31 rfl ?_
 unfold slices_Equal_int_int at hm
 refine WC_seq <| WC_region ?_
 refine W ?_
 refine WL_nil <| At_then <| WC_seq <| WC_seq <| WC_region ?_
 iterate 5 refine W ?_
 refine WL_nil <| At_then ?_
 refine WC_cond (O rfl) (fun hc3 => ?_) (fun hc3 => ?_)
 ·
  replace hm := bif_t hc3 hm
  refine WC_seq <| WC_region ?_
  refine W ?_
  refine WL_nil <| At_then ?_
  refine WC_ret ?_
  refine At_then_ret <| ?_
  refine At_r1 rfl (ResIs.t rfl) ?_
  cases hm
  exact ⟨rfl, (hs.re 2 [] rfl)⟩
 ·
  replace hm := bif_f hc3 hm
  refine WC_skip ?_
  refine At_then <| WC_seq <| WC_seq <| WC_region ?_
  iterate 3 refine W ?_
  refine WL_nil <| At_then ?_
  refine WC_block ?_
  refine WC_loop (σ := Int) (γ := Unit) (F := (slices_Equal_int_int_L1 s1 s2)) (N := FUEL) (s0 := 0) (r := r) (fun t5 (_ : Unit) w4 => Sat (imm Q8 [sl v1] s1 :: imm Q8 [sl v3] s2 :: Φ) w4) (fun t5 (_ : Unit) => [(0, true, (sl v1)), (1, true, (sl v3)), (12, true, (.int .i64 (List.length s1 : Int))), (13, true, (.int .i64 t5))]) hm () (hs.re 2 [0, 1] rfl) rfl ?_
  rintro again6 t5 _ w4 hm hs
  unfold slices_Equal_int_int_L1 at hm
  refine WC_seq <| WC_region ?_
  refine W ?_
  refine WL_nil <| At_then <| WC_seq ?_
  refine WC_cond (O rfl) (fun hc7 => ?_) (fun hc7 => ?_)
  ·
   replace hm := bif_t hc7 hm
   refine WC_skip ?_
   refine At_then <| WC_seq ?_
   refine WC_block ?_
   refine WC_seq <| WC_region ?_
   iterate 2 refine W ?_
   refine WL_nil <| At_then <| WC_seq ?_
   refine WC_region_mixed [0, 0, 3, 4, 0, 0, 48, 64, 136] (.q 0 0 (.q 1 1 (.q 2 3 (.q 3 7 (.q 4 15 (.q 5 31 (.q 6 63 (.q 7 127 (.q 8 255 .nil))))))))) (by kernel_rfl) (by kernel_rfl) ?_
   intro w8 hx9
   replace hs := hs.ext hx9
   refine WD_pure (fun _ => (Run_move (O rfl))) rfl rfl rfl rfl <| WD_pure (fun _ => (Run_move (O rfl))) rfl rfl rfl rfl <| ?_
   obtain ⟨e10, he11, hm⟩ := bind_some' hm
   refine WD_pure (fun _ => (Run_idxAddr (p := (elA (sl v1) t5 1)) Tryd.underlying30 ti3 (O rfl) (O rfl) (fun hg => (SRd.atA (A := (RI .i64)) (v := (sl v1)) (hs.sl (i := 0) rfl) he11).1))) rfl rfl rfl rfl <| WD_op (fun w => true = true → CellsAt w (elA (sl v1) t5 1) [(.int .i64 e10)]) (fun hg => (SRd.cellsF (A := (RI .i64)) (v := (sl v1)) (hs.sl (i := 0) rfl) he11 (fun _ h => openT3 h)).sub 0 rfl) (fun _ hJ => (Run_load1 (v := (.int .i64 e10)) Tryd.underlying3 rfl (O rfl) hJ)) rfl rfl rfl rfl <| WD_pure (fun _ => (Run_move (O rfl))) rfl rfl rfl rfl <| WD_pure (fun _ => (Run_move (O rfl))) rfl rfl rfl rfl <| ?_
   obtain ⟨e12, he13, hm⟩ := bind_some' hm
   refine WD_pure (fun _ => (Run_idxAddr (p := (elA (sl v3) t5 1)) Tryd.underlying30 ti3 (O rfl) (O rfl) (fun hg => (SRd.atA (A := (RI .i64)) (v := (sl v3)) (hs.sl (i := 1) rfl) he13).1))) rfl rfl rfl rfl <| WD_op (fun w => true = true → CellsAt w (elA (sl v3) t5 1) [(.int .i64 e12)]) (fun hg => (SRd.cellsF (A := (RI .i64)) (v := (sl v3)) (hs.sl (i := 1) rfl) he13 (fun _ h => openT3 h)).sub 0 rfl) (fun _ hJ => (Run_load1 (v := (.int .i64 e12)) Tryd.underlying3 rfl (O rfl) hJ)) rfl rfl rfl rfl <| WD_pure (fun _ => (Run_neI (O rfl) (O rfl))) rfl rfl rfl rfl <| ?_
   refine WD_nil ?_
   refine At_then ?_
   refine WC_cond (O rfl) (fun hc14 => ?_) (fun hc14 => ?_)
   ·
    replace hm := bif_t hc14 hm
    refine WC_seq <| WC_region ?_
    refine W ?_
    refine WL_nil <| At_then ?_
    refine WC_ret ?_
    refine At_blk_ret <| At_then_ret <| At_then_ret <| At_blk_ret <| At_then_ret <| ?_
    refine At_r1 rfl (ResIs.t rfl) ?_
    cases hm
    exact ⟨rfl, (hs.re 2 [] rfl)⟩
   ·
    replace hm := bif_f hc14 hm
    refine WC_skip ?_
    refine At_blk_normal ?_
    refine At_then <| WC_region ?_
    iterate 2 refine W ?_
    refine WL_nil ?_
    exact At_again (IntKind.i64.wrap (t5 + 1)) () hm (hs.re 2 [0, 1] rfl) rfl
  ·
   replace hm := bif_f hc7 hm
   refine WC_exit ?_
   refine At_then_exit <| At_then_exit <| At_blk_here <| ?_
   refine At_then <| WC_seq <| WC_region ?_
   refine W ?_
   refine WL_nil <| At_then ?_
   refine WC_ret ?_
   refine At_r1 rfl (ResIs.t rfl) ?_
   cases hm
   exact ⟨rfl, (hs.re 2 [] rfl)⟩
theorem slices_EqualFunc_api_Expr_api_Expr_api_Expr_api_Expr_ok {k_expr_Same} (ih_expr_Same : ∀ {Φ : Ctx} {w : World} {a : Ex} {b : Ex} {v1 : SLV} {v3 : SLV} {r : Bool}, Sat (imm (RSl RExpr) [sl v1] a.l :: imm (RSl RExpr) [sl v3] b.l :: Φ) w → k_expr_Same (a, b) = some r → CallsR Tryd.prog 26 [(.agg #[(.int .i64 a.op), (.int .i64 a.n), (.int .i64 a.at_), (sl v1)]), (.agg #[(.int .i64 b.op), (.int .i64 b.n), (.int .i64 b.at_), (sl v3)])] w (fun v w' => v = (.bool r) ∧ Sat (Φ) w')) {Φ : Ctx} {w : World} {s1 : (List Ex)} {s2 : (List Ex)} {v1 : SLV} {v3 : SLV} {r : Bool} (hs : Sat (imm (RSl RExpr) [sl v1] s1 :: imm (RSl RExpr) [sl v3] s2 :: Φ) w) (hm : slices_EqualFunc_api_Expr_api_Expr_api_Expr_api_Expr k_expr_Same s1 s2 = some r) :
  CallsR Tryd.prog 46 [(sl v1), (sl v3), (.func (.func 26) #[] #[])] w (fun v w' => v = (.bool r) ∧ Sat (Φ) w') := by
 refine CallsX_enter Tryd.func46 rfl Tryd.ntmps46 rfl ?_
 unfold slices_EqualFunc_api_Expr_api_Expr_api_Expr_api_Expr at hm
 refine WC_seq <| WC_region ?_
 refine W ?_
 refine WL_nil <| At_then <| WC_seq <| WC_seq <| WC_region ?_
 iterate 5 refine W ?_
 refine WL_nil <| At_then ?_
 refine WC_cond (O rfl) (fun hc3 => ?_) (fun hc3 => ?_)
 ·
  replace hm := bif_t hc3 hm
  refine WC_seq <| WC_region ?_
  refine W ?_
  refine WL_nil <| At_then ?_
  refine WC_ret ?_
  refine At_then_ret <| ?_
  refine At_r1 rfl (ResIs.t rfl) ?_
  cases hm
  exact ⟨rfl, (hs.re 2 [] rfl)⟩
 ·
  replace hm := bif_f hc3 hm
  refine WC_skip ?_
  refine At_then <| WC_seq <| WC_seq <| WC_region ?_
  iterate 3 refine W ?_
  refine WL_nil <| At_then ?_
  refine WC_block ?_
  refine WC_loop (σ := Int) (γ := Unit) (F := (slices_EqualFunc_api_Expr_api_Expr_api_Expr_api_Expr_L1 k_expr_Same s1 s2)) (N := FUEL) (s0 := 0) (r := r) (fun t5 (_ : Unit) w4 => Sat (imm (RSl RExpr) [sl v3] s2 :: imm (RSl RExpr) [sl v1] s1 :: Φ) w4) (fun t5 (_ : Unit) => [(1, true, (sl v3)), (2, true, (.func (.func 26) #[] #[])), (15, true, (sl v1)), (16, true, (.int .i64 (List.length s1 : Int))), (17, true, (.int .i64 t5))]) hm () (hs.re 2 [1, 0] rfl) rfl ?_
  rintro again6 t5 _ w4 hm hs
  unfold slices_EqualFunc_api_Expr_api_Expr_api_Expr_api_Expr_L1 at hm
  refine WC_seq <| WC_region ?_
  refine W ?_
  refine WL_nil <| At_then <| WC_seq ?_
  refine WC_cond (O rfl) (fun hc7 => ?_) (fun hc7 => ?_)
  ·
   replace hm := bif_t hc7 hm
   refine WC_skip ?_
   refine At_then <| WC_seq ?_
   refine WC_block ?_
   refine WC_seq <| WC_region ?_
   refine W ?_
   obtain ⟨e8, he9, hm⟩ := bind_some' hm
   obtain ⟨v10, hC11, hN12, hR13⟩ := cellsM51 (g := true) (fun hg => (hs.sl (i := 1) rfl)) (fun hg => he9)
   replace hs := hs.addL [elem true (elA (sl v1) t5 4) [(.int .i64 e8.op), (.int .i64 e8.n), (.int .i64 e8.at_), (sl v10)], imm (RSl RExpr) [sl v10] e8.l] rfl ⟨fun hg => ⟨hN12 hg, hC11 hg⟩, ⟨_, rfl, hR13 rfl⟩, trivial⟩
   replace hs := Sat.n4 (Γ := Φ) hs rfl
   refine Wo (Run_idxAddr (p := (elA (sl v1) t5 4)) Tryd.underlying49 ti51 (O rfl) (O rfl) (fun hg => (SRd.atA (A := RExpr) (v := (sl v1)) (hs.sl (i := 3) rfl) he9).1)) rfl <| Wo (Run_loadA (vs := [(.int .i64 e8.op), (.int .i64 e8.n), (.int .i64 e8.at_), (sl v10)]) Tryd.underlying51 rfl ti51 (O rfl) (fun hg => ((hs.elem (i := 0) rfl) hg).sub 0 rfl) rfl) rfl <| ?_
   refine WS_alloc (zs := [(.int .i64 0), (.int .i64 0), (.int .i64 0), (sl (none, 0, 0))]) hs ti51 rfl rfl ?_
   intro b14 w15 hs
   replace hs := Sat.n5 (Γ := Φ) hs rfl
   refine W ?_
   refine WS_store (us := [(.int .i64 e8.op), (.int .i64 e8.n), (.int .i64 e8.at_), (sl v10)]) (vs' := [(.int .i64 e8.op), (.int .i64 e8.n), (.int .i64 e8.at_), (sl v10)]) hs 0 rfl ti51 (O rfl) (O rfl) rfl rfl rfl rfl rfl ?_
   intro w16 hs
   replace hs := Sat.n5 (Γ := Φ) hs rfl
   refine WL_nil <| At_then <| WC_seq <| WC_region ?_
   iterate 2 refine W ?_
   obtain ⟨e17, he18, hm⟩ := bind_some' hm
   obtain ⟨v19, hC20, hN21, hR22⟩ := cellsM51 (g := true) (fun hg => (hs.sl (i := 3) rfl)) (fun hg => he18)
   replace hs := hs.addL [elem true (elA (sl v3) t5 4) [(.int .i64 e17.op), (.int .i64 e17.n), (.int .i64 e17.at_), (sl v19)], imm (RSl RExpr) [sl v19] e17.l] rfl ⟨fun hg => ⟨hN21 hg, hC20 hg⟩, ⟨_, rfl, hR22 rfl⟩, trivial⟩
   replace hs := Sat.n7 (Γ := Φ) hs rfl
   refine Wo (Run_idxAddr (p := (elA (sl v3) t5 4)) Tryd.underlying49 ti51 (O rfl) (O rfl) (fun hg => (SRd.atA (A := RExpr) (v := (sl v3)) (hs.sl (i := 5) rfl) he18).1)) rfl <| Wo (Run_loadA (vs := [(.int .i64 e17.op), (.int .i64 e17.n), (.int .i64 e17.at_), (sl v19)]) Tryd.underlying51 rfl ti51 (O rfl) (fun hg => ((hs.elem (i := 0) rfl) hg).sub 0 rfl) rfl) rfl <| ?_
   refine WS_alloc (zs := [(.int .i64 0), (.int .i64 0), (.int .i64 0), (sl (none, 0, 0))]) hs ti51 rfl rfl ?_
   intro b23 w24 hs
   replace hs := Sat.n8 (Γ := Φ) hs rfl
   refine WS_store (us := [(.int .i64 e17.op), (.int .i64 e17.n), (.int .i64 e17.at_), (sl v19)]) (vs' := [(.int .i64 e17.op), (.int .i64 e17.n), (.int .i64 e17.at_), (sl v19)]) hs 0 rfl ti51 (O rfl) (O rfl) rfl rfl rfl rfl rfl ?_
   intro w25 hs
   replace hs := Sat.n8 (Γ := Φ) hs rfl
   refine WL_nil <| At_then <| WC_seq <| WC_region ?_
   refine W ?_
   refine Wo (Run_loadA (vs := [(.int .i64 e8.op), (.int .i64 e8.n), (.int .i64 e8.at_), (sl v10)]) Tryd.underlying51 rfl ti51 (O rfl) (fun _ => (hs.box (i := 3) rfl).part 0 rfl) rfl) rfl <| Wo (Run_loadA (vs := [(.int .i64 e17.op), (.int .i64 e17.n), (.int .i64 e17.at_), (sl v19)]) Tryd.underlying51 rfl ti51 (O rfl) (fun _ => (hs.box (i := 0) rfl).part 0 rfl) rfl) rfl <| ?_
   obtain ⟨r26, hr27, hm⟩ := bind_some' hm
   refine WL_call (f := 26) (first := []) (cap := []) (xs := [(.tmp 27), (.tmp 28)]) (vs := [(.agg #[(.int .i64 e8.op), (.int .i64 e8.n), (.int .i64 e8.at_), (sl v10)]), (.agg #[(.int .i64 e17.op), (.int .i64 e17.n), (.int .i64 e17.at_), (sl v19)])]) (args := [(.agg #[(.int .i64 e8.op), (.int .i64 e8.n), (.int .i64 e8.at_), (sl v10)]), (.agg #[(.int .i64 e17.op), (.int .i64 e17.n), (.int .i64 e17.at_), (sl v19)])]) Tryd.call26 (O rfl) (.cons (O rfl) (.cons (O rfl) .nil)) rfl rfl (ih_expr_Same (hs.re 8 [5, 2, 0, 1, 2, 3, 4, 5, 6, 7] rfl) hr27) ?_
   rintro _ w28 ⟨rfl, hs⟩
   replace hs := Sat.n8 (Γ := Φ) hs rfl
   refine W ?_
   refine WL_nil <| At_then ?_
   refine WC_cond (O rfl) (fun hc29 => ?_) (fun hc29 => ?_)
   ·
    replace hm := bif_t hc29 hm
    refine WC_seq <| WC_region ?_
    refine W ?_
    refine WL_nil <| At_then ?_
    refine WC_ret ?_
    refine At_blk_ret <| At_then_ret <| At_then_ret <| At_blk_ret <| At_then_ret <| ?_
    refine At_r1 rfl (ResIs.t rfl) ?_
    cases hm
    exact ⟨rfl, (hs.re 8 [] rfl)⟩
   ·
    replace hm := bif_f hc29 hm
    refine WC_skip ?_
    refine At_blk_normal ?_
    refine At_then <| WC_region ?_
    iterate 2 refine W ?_
    refine WL_nil ?_
    exact At_again (IntKind.i64.wrap (t5 + 1)) () hm (hs.re 8 [6, 7] rfl) rfl
  ·
   replace hm := bif_f hc7 hm
   refine WC_exit ?_
   refine At_then_exit <| At_then_exit <| At_blk_here <| ?_
   refine At_then <| WC_seq <| WC_region ?_
   refine W ?_
   refine WL_nil <| At_then ?_
   refine WC_ret ?_
   refine At_r1 rfl (ResIs.t rfl) ?_
   cases hm
   exact ⟨rfl, (hs.re 2 [] rfl)⟩
theorem expr_Same_F_ok {k_expr_Same} (ih_expr_Same : ∀ {Φ : Ctx} {w : World} {a : Ex} {b : Ex} {v1 : SLV} {v3 : SLV} {r : Bool}, Sat (imm (RSl RExpr) [sl v1] a.l :: imm (RSl RExpr) [sl v3] b.l :: Φ) w → k_expr_Same (a, b) = some r → CallsR Tryd.prog 26 [(.agg #[(.int .i64 a.op), (.int .i64 a.n), (.int .i64 a.at_), (sl v1)]), (.agg #[(.int .i64 b.op), (.int .i64 b.n), (.int .i64 b.at_), (sl v3)])] w (fun v w' => v = (.bool r) ∧ Sat (Φ) w')) {Φ : Ctx} {w : World} {a : Ex} {b : Ex} {v1 : SLV} {v3 : SLV} {r : Bool} (hs : Sat (imm (RSl RExpr) [sl v1] a.l :: imm (RSl RExpr) [sl v3] b.l :: Φ) w) (hm : expr_Same_F k_expr_Same a b = some r) :
  CallsR Tryd.prog 26 [(.agg #[(.int .i64 a.op), (.int .i64 a.n), (.int .i64 a.at_), (sl v1)]), (.agg #[(.int .i64 b.op), (.int .i64 b.n), (.int .i64 b.at_), (sl v3)])] w (fun v w' => v = (.bool r) ∧ Sat (Φ) w') := by
 refine CallsX_enter Tryd.func26 rfl Tryd.ntmps26 rfl ?_
 unfold expr_Same_F at hm
 refine WC_seq <| WC_region ?_
 refine WS_box (zs := [(.int .i64 a.op), (.int .i64 a.n), (.int .i64 a.at_), (sl v1)]) hs (O rfl) rfl rfl ?_
 intro b3 w4 hs
 replace hs := Sat.n3 (Γ := Φ) hs rfl
 refine WS_box (zs := [(.int .i64 b.op), (.int .i64 b.n), (.int .i64 b.at_), (sl v3)]) hs (O rfl) rfl rfl ?_
 intro b5 w6 hs
 replace hs := Sat.n4 (Γ := Φ) hs rfl
 refine W ?_
 refine WL_nil <| At_then <| WC_seq <| WC_region ?_
 iterate 4 refine W ?_
 obtain ⟨b7, e8, hm⟩ := letv_som hm
 iterate 2 refine W ?_
 iterate 4 refine WG ?_
 obtain ⟨b9, e10, hm⟩ := letv_som hm
 refine WG ?_
 obtain ⟨b11, e12, hm⟩ := letv_som hm
 iterate 2 refine W ?_
 iterate 4 refine WG ?_
 obtain ⟨r13, hr14, -, hm⟩ := callG_some hm
 refine WL_callG rfl rfl rfl guard_pos (f := 46) (first := []) (cap := []) (xs := [(.tmp 19), (.tmp 21), (.func 26)]) (vs := [(sl v1), (sl v3), (.func (.func 26) #[] #[])]) (args := [(sl v1), (sl v3), (.func (.func 26) #[] #[])]) Tryd.call46 Opd.f (.cons (Opd.g rfl id) (.cons (Opd.g rfl id) (.cons Opd.f .nil))) rfl rfl (fun hg => slices_EqualFunc_api_Expr_api_Expr_api_Expr_api_Expr_ok (@ih_expr_Same) (hs.re 4 [2, 3, 0, 1, 2, 3] rfl) (hr14 hg)) ?_
 intro v16 w15 hv17 hz18
 replace hs := Sat.ofG (fun hg => (hv17 hg).2.re 4 [0, 1, 2, 3] rfl) hz18 hs
 refine WL_sub1 (v := (.bool r13)) (fun hg => (hv17 hg).1) ?_
 replace hs := Sat.n4 (Γ := Φ) hs rfl
 obtain ⟨b19, e20, hm⟩ := letv_som hm
 iterate 2 refine W ?_
 refine WL_nil <| At_then ?_
 refine WC_ret ?_
 refine At_r1 rfl (ResIs.t rfl) ?_
 cases hm
 exact ⟨rfl, (hs.re 4 [] rfl)⟩
theorem expr_Same_ok {Φ w a b v1 v3 r} (hs : Sat (imm (RSl RExpr) [sl v1] a.l :: imm (RSl RExpr) [sl v3] b.l :: Φ) w) (hm : expr_Same a b = some r) :
  CallsR Tryd.prog 26 [(.agg #[(.int .i64 a.op), (.int .i64 a.n), (.int .i64 a.at_), (sl v1)]), (.agg #[(.int .i64 b.op), (.int .i64 b.n), (.int .i64 b.at_), (sl v3)])] w (fun v w' => v = (.bool r) ∧ Sat (Φ) w') := by
 have key : ∀ (N : Nat) {Φ : Ctx} {w : World} {a : Ex} {b : Ex} {v1 : SLV} {v3 : SLV} {r : Bool}, Sat (imm (RSl RExpr) [sl v1] a.l :: imm (RSl RExpr) [sl v3] b.l :: Φ) w → fixN (fun k (s : (Ex × Ex)) => expr_Same_F k s.1 s.2) N (a, b) = some r → CallsR Tryd.prog 26 [(.agg #[(.int .i64 a.op), (.int .i64 a.n), (.int .i64 a.at_), (sl v1)]), (.agg #[(.int .i64 b.op), (.int .i64 b.n), (.int .i64 b.at_), (sl v3)])] w (fun v w' => v = (.bool r) ∧ Sat (Φ) w') := by
  intro N
  induction N with
  | zero => intros; rename_i h; cases h
  | succ N ih => intros; rename_i hs hm; rw [fixN_succ] at hm; exact expr_Same_F_ok (@ih) hs hm
 unfold expr_Same at hm
 exact key FUEL hs hm
theorem model_Same_c1_ok {Φ w x y v1 v3 r} (hs : Sat (imm (RSl RExpr) [sl v1] x.2.l :: imm (RSl RExpr) [sl v3] y.2.l :: Φ) w) (hm : model_Same_c1 x y = some r) :
  CallsR Tryd.prog 25 [(.agg #[(.int .i64 x.1), (.int .i64 x.2.op), (.int .i64 x.2.n), (.int .i64 x.2.at_), (sl v1)]), (.agg #[(.int .i64 y.1), (.int .i64 y.2.op), (.int .i64 y.2.n), (.int .i64 y.2.at_), (sl v3)])] w (fun v w' => v = (.bool r) ∧ Sat (Φ) w') := by
 refine CallsX_enter Tryd.func25 rfl Tryd.ntmps25 rfl ?_
 unfold model_Same_c1 at hm
 refine WC_seq <| WC_region ?_
 refine WS_box (zs := [(.int .i64 x.1), (.int .i64 x.2.op), (.int .i64 x.2.n), (.int .i64 x.2.at_), (sl v1)]) hs (O rfl) rfl rfl ?_
 intro b3 w4 hs
 replace hs := Sat.n3 (Γ := Φ) hs rfl
 refine WS_box (zs := [(.int .i64 y.1), (.int .i64 y.2.op), (.int .i64 y.2.n), (.int .i64 y.2.at_), (sl v3)]) hs (O rfl) rfl rfl ?_
 intro b5 w6 hs
 replace hs := Sat.n4 (Γ := Φ) hs rfl
 refine W ?_
 refine WL_nil <| At_then <| WC_seq <| WC_region ?_
 iterate 4 refine W ?_
 obtain ⟨b7, e8, hm⟩ := letv_som hm
 iterate 2 refine W ?_
 refine WG ?_
 refine WL_opG rfl rfl rfl rfl guard_pos (Run_loadA (vs := [(.int .i64 x.2.op), (.int .i64 x.2.n), (.int .i64 x.2.at_), (sl v1)]) Tryd.underlying51 rfl ti51 (Opd.g rfl id) (fun _ => (hs.box (i := 1) rfl).part 1 rfl) rfl) rfl rfl rfl <| ?_
 refine WG ?_
 refine WL_opG rfl rfl rfl rfl guard_pos (Run_loadA (vs := [(.int .i64 y.2.op), (.int .i64 y.2.n), (.int .i64 y.2.at_), (sl v3)]) Tryd.underlying51 rfl ti51 (Opd.g rfl id) (fun _ => (hs.box (i := 0) rfl).part 1 rfl) rfl) rfl rfl rfl <| ?_
 obtain ⟨r9, hr10, -, hm⟩ := callG_some hm
 refine WL_callG rfl rfl rfl guard_pos (f := 26) (first := []) (cap := []) (xs := [(.tmp 12), (.tmp 14)]) (vs := [(.agg #[(.int .i64 x.2.op), (.int .i64 x.2.n), (.int .i64 x.2.at_), (sl v1)]), (.agg #[(.int .i64 y.2.op), (.int .i64 y.2.n), (.int .i64 y.2.at_), (sl v3)])]) (args := [(.agg #[(.int .i64 x.2.op), (.int .i64 x.2.n), (.int .i64 x.2.at_), (sl v1)]), (.agg #[(.int .i64 y.2.op), (.int .i64 y.2.n), (.int .i64 y.2.at_), (sl v3)])]) Tryd.call26 Opd.f (.cons (Opd.g rfl id) (.cons (Opd.g rfl id) .nil)) rfl rfl (fun hg => expr_Same_ok (hs.re 4 [2, 3, 0, 1, 2, 3] rfl) (hr10 hg)) ?_
 intro v12 w11 hv13 hz14
 replace hs := Sat.ofG (fun hg => (hv13 hg).2.re 4 [0, 1, 2, 3] rfl) hz14 hs
 refine WL_sub1 (v := (.bool r9)) (fun hg => (hv13 hg).1) ?_
 replace hs := Sat.n4 (Γ := Φ) hs rfl
 obtain ⟨b15, e16, hm⟩ := letv_som hm
 iterate 2 refine W ?_
 refine WL_nil <| At_then ?_
 refine WC_ret ?_
 refine At_r1 rfl (ResIs.t rfl) ?_
 cases hm
 exact ⟨rfl, (hs.re 4 [] rfl)⟩
end Go.Proofs.YtdhgpnejphlfpaaDoor
namespace Go.Proofs.YtdhgpnejphlfpaaDoor
open Go.Proofs
theorem slices_EqualFunc_api_Set_api_Set_api_Set_api_Set_ok {Φ w s1 s2 v1 v3 r} (hs : Sat (imm (RSl Q6) [sl v1] s1 :: imm (RSl Q6) [sl v3] s2 :: Φ) w) (hm : slices_EqualFunc_api_Set_api_Set_api_Set_api_Set s1 s2 = some r) :
  CallsR Tryd.prog 28 [(sl v1), (sl v3), (.func (.func 25) #[] #[])] w (fun v w' => v = (.bool r) ∧ Sat (Φ) w') := by
 refine CallsX_enter Tryd.func28 rfl Tryd.ntmps28 rfl ?_
 unfold slices_EqualFunc_api_Set_api_Set_api_Set_api_Set at hm
 refine WC_seq <| WC_region ?_
 refine W ?_
 refine WL_nil <| At_then <| WC_seq <| WC_seq <| WC_region ?_
 iterate 5 refine W ?_
 refine WL_nil <| At_then ?_
 refine WC_cond (O rfl) (fun hc3 => ?_) (fun hc3 => ?_)
 ·
  replace hm := bif_t hc3 hm
  refine WC_seq <| WC_region ?_
  refine W ?_
  refine WL_nil <| At_then ?_
  refine WC_ret ?_
  refine At_then_ret <| ?_
  refine At_r1 rfl (ResIs.t rfl) ?_
  cases hm
  exact ⟨rfl, (hs.re 2 [] rfl)⟩
 ·
  replace hm := bif_f hc3 hm
  refine WC_skip ?_
  refine At_then <| WC_seq <| WC_seq <| WC_region ?_
  iterate 3 refine W ?_
  refine WL_nil <| At_then ?_
  refine WC_block ?_
  refine WC_loop (σ := Int) (γ := Unit) (F := (slices_EqualFunc_api_Set_api_Set_api_Set_api_Set_L1 s1 s2)) (N := FUEL) (s0 := 0) (r := r) (fun t5 (_ : Unit) w4 => Sat (imm (RSl Q6) [sl v3] s2 :: imm (RSl Q6) [sl v1] s1 :: Φ) w4) (fun t5 (_ : Unit) => [(1, true, (sl v3)), (2, true, (.func (.func 25) #[] #[])), (15, true, (sl v1)), (16, true, (.int .i64 (List.length s1 : Int))), (17, true, (.int .i64 t5))]) hm () (hs.re 2 [1, 0] rfl) rfl ?_
  rintro again6 t5 _ w4 hm hs
  unfold slices_EqualFunc_api_Set_api_Set_api_Set_api_Set_L1 at hm
  refine WC_seq <| WC_region ?_
  refine W ?_
  refine WL_nil <| At_then <| WC_seq ?_
  refine WC_cond (O rfl) (fun hc7 => ?_) (fun hc7 => ?_)
  ·
   replace hm := bif_t hc7 hm
   refine WC_skip ?_
   refine At_then <| WC_seq ?_
   refine WC_block ?_
   refine WC_seq <| WC_region ?_
   refine W ?_
   obtain ⟨e8, he9, hm⟩ := bind_some' hm
   obtain ⟨v10, hC11, hN12, hR13⟩ := cellsM57 (g := true) (fun hg => (hs.sl (i := 1) rfl)) (fun hg => he9)
   replace hs := hs.addL [elem true (elA (sl v1) t5 5) [(.int .i64 e8.1), (.int .i64 e8.2.op), (.int .i64 e8.2.n), (.int .i64 e8.2.at_), (sl v10)], imm (RSl RExpr) [sl v10] e8.2.l] rfl ⟨fun hg => ⟨hN12 hg, hC11 hg⟩, ⟨_, rfl, hR13 rfl⟩, trivial⟩
   replace hs := Sat.n4 (Γ := Φ) hs rfl
   refine Wo (Run_idxAddr (p := (elA (sl v1) t5 5)) Tryd.underlying52 ti57 (O rfl) (O rfl) (fun hg => (SRd.atA (A := Q6) (v := (sl v1)) (hs.sl (i := 3) rfl) he9).1)) rfl <| Wo (Run_loadA (vs := [(.int .i64 e8.1), (.int .i64 e8.2.op), (.int .i64 e8.2.n), (.int .i64 e8.2.at_), (sl v10)]) Tryd.underlying57 rfl ti57 (O rfl) (fun hg => ((hs.elem (i := 0) rfl) hg).sub 0 rfl) rfl) rfl <| ?_
   refine WS_alloc (zs := [(.int .i64 0), (.int .i64 0), (.int .i64 0), (.int .i64 0), (sl (none, 0, 0))]) hs ti57 rfl rfl ?_
   intro b14 w15 hs
   replace hs := Sat.n5 (Γ := Φ) hs rfl
   refine W ?_
   refine WS_store (us := [(.int .i64 e8.1), (.int .i64 e8.2.op), (.int .i64 e8.2.n), (.int .i64 e8.2.at_), (sl v10)]) (vs' := [(.int .i64 e8.1), (.int .i64 e8.2.op), (.int .i64 e8.2.n), (.int .i64 e8.2.at_), (sl v10)]) hs 0 rfl ti57 (O rfl) (O rfl) rfl rfl rfl rfl rfl ?_
   intro w16 hs
   replace hs := Sat.n5 (Γ := Φ) hs rfl
   refine WL_nil <| At_then <| WC_seq <| WC_region ?_
   iterate 2 refine W ?_
   obtain ⟨e17, he18, hm⟩ := bind_some' hm
   obtain ⟨v19, hC20, hN21, hR22⟩ := cellsM57 (g := true) (fun hg => (hs.sl (i := 3) rfl)) (fun hg => he18)
   replace hs := hs.addL [elem true (elA (sl v3) t5 5) [(.int .i64 e17.1), (.int .i64 e17.2.op), (.int .i64 e17.2.n), (.int .i64 e17.2.at_), (sl v19)], imm (RSl RExpr) [sl v19] e17.2.l] rfl ⟨fun hg => ⟨hN21 hg, hC20 hg⟩, ⟨_, rfl, hR22 rfl⟩, trivial⟩
   replace hs := Sat.n7 (Γ := Φ) hs rfl
   refine Wo (Run_idxAddr (p := (elA (sl v3) t5 5)) Tryd.underlying52 ti57 (O rfl) (O rfl) (fun hg => (SRd.atA (A := Q6) (v := (sl v3)) (hs.sl (i := 5) rfl) he18).1)) rfl <| Wo (Run_loadA (vs := [(.int .i64 e17.1), (.int .i64 e17.2.op), (.int .i64 e17.2.n), (.int .i64 e17.2.at_), (sl v19)]) Tryd.underlying57 rfl ti57 (O rfl) (fun hg => ((hs.elem (i := 0) rfl) hg).sub 0 rfl) rfl) rfl <| ?_
   refine WS_alloc (zs := [(.int .i64 0), (.int .i64 0), (.int .i64 0), (.int .i64 0), (sl (none, 0, 0))]) hs ti57 rfl rfl ?_
   intro b23 w24 hs
   replace hs := Sat.n8 (Γ := Φ) hs rfl
   refine WS_store (us := [(.int .i64 e17.1), (.int .i64 e17.2.op), (.int .i64 e17.2.n), (.int .i64 e17.2.at_), (sl v19)]) (vs' := [(.int .i64 e17.1), (.int .i64 e17.2.op), (.int .i64 e17.2.n), (.int .i64 e17.2.at_), (sl v19)]) hs 0 rfl ti57 (O rfl) (O rfl) rfl rfl rfl rfl rfl ?_
   intro w25 hs
   replace hs := Sat.n8 (Γ := Φ) hs rfl
   refine WL_nil <| At_then <| WC_seq <| WC_region ?_
   refine W ?_
   refine Wo (Run_loadA (vs := [(.int .i64 e8.1), (.int .i64 e8.2.op), (.int .i64 e8.2.n), (.int .i64 e8.2.at_), (sl v10)]) Tryd.underlying57 rfl ti57 (O rfl) (fun _ => (hs.box (i := 3) rfl).part 0 rfl) rfl) rfl <| Wo (Run_loadA (vs := [(.int .i64 e17.1), (.int .i64 e17.2.op), (.int .i64 e17.2.n), (.int .i64 e17.2.at_), (sl v19)]) Tryd.underlying57 rfl ti57 (O rfl) (fun _ => (hs.box (i := 0) rfl).part 0 rfl) rfl) rfl <| ?_
   obtain ⟨r26, hr27, hm⟩ := bind_some' hm
   refine WL_call (f := 25) (first := []) (cap := []) (xs := [(.tmp 27), (.tmp 28)]) (vs := [(.agg #[(.int .i64 e8.1), (.int .i64 e8.2.op), (.int .i64 e8.2.n), (.int .i64 e8.2.at_), (sl v10)]), (.agg #[(.int .i64 e17.1), (.int .i64 e17.2.op), (.int .i64 e17.2.n), (.int .i64 e17.2.at_), (sl v19)])]) (args := [(.agg #[(.int .i64 e8.1), (.int .i64 e8.2.op), (.int .i64 e8.2.n), (.int .i64 e8.2.at_), (sl v10)]), (.agg #[(.int .i64 e17.1), (.int .i64 e17.2.op), (.int .i64 e17.2.n), (.int .i64 e17.2.at_), (sl v19)])]) Tryd.call25 (O rfl) (.cons (O rfl) (.cons (O rfl) .nil)) rfl rfl (model_Same_c1_ok (hs.re 8 [5, 2, 0, 1, 2, 3, 4, 5, 6, 7] rfl) hr27) ?_
   rintro _ w28 ⟨rfl, hs⟩
   replace hs := Sat.n8 (Γ := Φ) hs rfl
   refine W ?_
   refine WL_nil <| At_then ?_
   refine WC_cond (O rfl) (fun hc29 => ?_) (fun hc29 => ?_)
   ·
    replace hm := bif_t hc29 hm
    refine WC_seq <| WC_region ?_
    refine W ?_
    refine WL_nil <| At_then ?_
    refine WC_ret ?_
    refine At_blk_ret <| At_then_ret <| At_then_ret <| At_blk_ret <| At_then_ret <| ?_
    refine At_r1 rfl (ResIs.t rfl) ?_
    cases hm
    exact ⟨rfl, (hs.re 8 [] rfl)⟩
   ·
    replace hm := bif_f hc29 hm
    refine WC_skip ?_
    refine At_blk_normal ?_
    refine At_then <| WC_region ?_
    iterate 2 refine W ?_
    refine WL_nil ?_
    exact At_again (IntKind.i64.wrap (t5 + 1)) () hm (hs.re 8 [6, 7] rfl) rfl
  ·
   replace hm := bif_f hc7 hm
   refine WC_exit ?_
   refine At_then_exit <| At_then_exit <| At_blk_here <| ?_
   refine At_then <| WC_seq <| WC_region ?_
   refine W ?_
   refine WL_nil <| At_then ?_
   refine WC_ret ?_
   refine At_r1 rfl (ResIs.t rfl) ?_
   cases hm
   exact ⟨rfl, (hs.re 2 [] rfl)⟩
theorem model_Same_c2_ok {Φ w x y v1 v3 v5 v7 b r} (hs : Sat (imm (RSl RExpr) [sl v1] x.2.1.l :: imm (RSl Q6) [sl v3] x.2.2 :: imm (RSl RExpr) [sl v5] y.2.1.l :: imm (RSl Q6) [sl v7] y.2.2 :: box b 71 [(.func (.func 25) #[] #[])] :: Φ) w) (hm : model_Same_c2 x y = some r) :
  CallsR Tryd.prog 27 [(.agg #[(.int .i64 x.1), (.int .i64 x.2.1.op), (.int .i64 x.2.1.n), (.int .i64 x.2.1.at_), (sl v1), (sl v3)]), (.agg #[(.int .i64 y.1), (.int .i64 y.2.1.op), (.int .i64 y.2.1.n), (.int .i64 y.2.1.at_), (sl v5), (sl v7)]), (.pointer (some ⟨b, 0, none⟩))] w (fun v w' => v = (.bool r) ∧ Sat (box b 71 [(.func (.func 25) #[] #[])] :: Φ) w') := by
 refine CallsX_enter Tryd.func27 rfl Tryd.ntmps27 rfl ?_
 unfold model_Same_c2 at hm
 refine WC_seq <| WC_region ?_
 refine WS_box (zs := [(.int .i64 x.1), (.int .i64 x.2.1.op), (.int .i64 x.2.1.n), (.int .i64 x.2.1.at_), (sl v1), (sl v3)]) hs (O rfl) rfl rfl ?_
 intro b3 w4 hs
 replace hs := Sat.n6 (Γ := Φ) hs rfl
 refine WS_box (zs := [(.int .i64 y.1), (.int .i64 y.2.1.op), (.int .i64 y.2.1.n), (.int .i64 y.2.1.at_), (sl v5), (sl v7)]) hs (O rfl) rfl rfl ?_
 intro b5 w6 hs
 replace hs := Sat.n7 (Γ := Φ) hs rfl
 refine W ?_
 refine WL_nil <| At_then <| WC_seq <| WC_region ?_
 iterate 4 refine W ?_
 obtain ⟨b7, e8, hm⟩ := letv_som hm
 iterate 2 refine W ?_
 refine WG ?_
 refine WL_opG rfl rfl rfl rfl guard_pos (Run_loadA (vs := [(.int .i64 x.2.1.op), (.int .i64 x.2.1.n), (.int .i64 x.2.1.at_), (sl v1)]) Tryd.underlying51 rfl ti51 (Opd.g rfl id) (fun _ => (hs.box (i := 1) rfl).part 1 rfl) rfl) rfl rfl rfl <| ?_
 refine WG ?_
 refine WL_opG rfl rfl rfl rfl guard_pos (Run_loadA (vs := [(.int .i64 y.2.1.op), (.int .i64 y.2.1.n), (.int .i64 y.2.1.at_), (sl v5)]) Tryd.underlying51 rfl ti51 (Opd.g rfl id) (fun _ => (hs.box (i := 0) rfl).part 1 rfl) rfl) rfl rfl rfl <| ?_
 obtain ⟨r9, hr10, -, hm⟩ := callG_some hm
 refine WL_callG rfl rfl rfl guard_pos (f := 26) (first := []) (cap := []) (xs := [(.tmp 13), (.tmp 15)]) (vs := [(.agg #[(.int .i64 x.2.1.op), (.int .i64 x.2.1.n), (.int .i64 x.2.1.at_), (sl v1)]), (.agg #[(.int .i64 y.2.1.op), (.int .i64 y.2.1.n), (.int .i64 y.2.1.at_), (sl v5)])]) (args := [(.agg #[(.int .i64 x.2.1.op), (.int .i64 x.2.1.n), (.int .i64 x.2.1.at_), (sl v1)]), (.agg #[(.int .i64 y.2.1.op), (.int .i64 y.2.1.n), (.int .i64 y.2.1.at_), (sl v5)])]) Tryd.call26 Opd.f (.cons (Opd.g rfl id) (.cons (Opd.g rfl id) .nil)) rfl rfl (fun hg => expr_Same_ok (hs.re 7 [2, 4, 0, 1, 2, 3, 4, 5, 6] rfl) (hr10 hg)) ?_
 intro v12 w11 hv13 hz14
 replace hs := Sat.ofG (fun hg => (hv13 hg).2.re 7 [0, 1, 2, 3, 4, 5, 6] rfl) hz14 hs
 refine WL_sub1 (v := (.bool r9)) (fun hg => (hv13 hg).1) ?_
 replace hs := Sat.n7 (Γ := Φ) hs rfl
 obtain ⟨b15, e16, hm⟩ := letv_som hm
 iterate 2 refine W ?_
 iterate 5 refine WG ?_
 obtain ⟨r17, hr18, -, hm⟩ := callG_some hm
 refine WL_callG rfl rfl rfl guard_pos (f := 28) (first := []) (cap := []) (xs := [(.tmp 20), (.tmp 22), (.tmp 23)]) (vs := [(sl v3), (sl v7), (.func (.func 25) #[] #[])]) (args := [(sl v3), (sl v7), (.func (.func 25) #[] #[])]) Tryd.call28 Opd.f (.cons (Opd.g rfl id) (.cons (Opd.g rfl id) (.cons (Opd.g rfl id) .nil))) rfl rfl (fun hg => slices_EqualFunc_api_Set_api_Set_api_Set_api_Set_ok (hs.re 7 [3, 5, 0, 1, 2, 3, 4, 5, 6] rfl) (hr18 hg)) ?_
 intro v20 w19 hv21 hz22
 replace hs := Sat.ofG (fun hg => (hv21 hg).2.re 7 [0, 1, 2, 3, 4, 5, 6] rfl) hz22 hs
 refine WL_sub1 (v := (.bool r17)) (fun hg => (hv21 hg).1) ?_
 replace hs := Sat.n7 (Γ := Φ) hs rfl
 obtain ⟨b23, e24, hm⟩ := letv_som hm
 iterate 2 refine W ?_
 refine WL_nil <| At_then ?_
 refine WC_ret ?_
 refine At_r1 rfl (ResIs.t rfl) ?_
 cases hm
 exact ⟨rfl, (hs.re 7 [6] rfl)⟩
theorem slices_EqualFunc_api_Cmd_api_Cmd_api_Cmd_api_Cmd_ok {Φ w s1 s2 v1 v3 b r} (hs : Sat (imm (RSl Q2) [sl v1] s1 :: imm (RSl Q2) [sl v3] s2 :: box b 71 [(.func (.func 25) #[] #[])] :: Φ) w) (hm : slices_EqualFunc_api_Cmd_api_Cmd_api_Cmd_api_Cmd s1 s2 = some r) :
  CallsR Tryd.prog 32 [(sl v1), (sl v3), (.func (.func 27) #[] #[(.pointer (some ⟨b, 0, none⟩))])] w (fun v w' => v = (.bool r) ∧ Sat (box b 71 [(.func (.func 25) #[] #[])] :: Φ) w') := by
 refine CallsX_enter Tryd.func32 rfl Tryd.ntmps32 rfl ?_
 unfold slices_EqualFunc_api_Cmd_api_Cmd_api_Cmd_api_Cmd at hm
 refine WC_seq <| WC_region ?_
 refine W ?_
 refine WL_nil <| At_then <| WC_seq <| WC_seq <| WC_region ?_
 iterate 5 refine W ?_
 refine WL_nil <| At_then ?_
 refine WC_cond (O rfl) (fun hc3 => ?_) (fun hc3 => ?_)
 ·
  replace hm := bif_t hc3 hm
  refine WC_seq <| WC_region ?_
  refine W ?_
  refine WL_nil <| At_then ?_
  refine WC_ret ?_
  refine At_then_ret <| ?_
  refine At_r1 rfl (ResIs.t rfl) ?_
  cases hm
  exact ⟨rfl, (hs.re 3 [2] rfl)⟩
 ·
  replace hm := bif_f hc3 hm
  refine WC_skip ?_
  refine At_then <| WC_seq <| WC_seq <| WC_region ?_
  iterate 3 refine W ?_
  refine WL_nil <| At_then ?_
  refine WC_block ?_
  refine WC_loop (σ := Int) (γ := Unit) (F := (slices_EqualFunc_api_Cmd_api_Cmd_api_Cmd_api_Cmd_L1 s1 s2)) (N := FUEL) (s0 := 0) (r := r) (fun t5 (_ : Unit) w4 => Sat (imm (RSl Q2) [sl v3] s2 :: box b 71 [(.func (.func 25) #[] #[])] :: imm (RSl Q2) [sl v1] s1 :: Φ) w4) (fun t5 (_ : Unit) => [(1, true, (sl v3)), (2, true, (.func (.func 27) #[] #[(.pointer (some ⟨b, 0, none⟩))])), (15, true, (sl v1)), (16, true, (.int .i64 (List.length s1 : Int))), (17, true, (.int .i64 t5))]) hm () (hs.re 3 [1, 2, 0] rfl) rfl ?_
  rintro again6 t5 _ w4 hm hs
  unfold slices_EqualFunc_api_Cmd_api_Cmd_api_Cmd_api_Cmd_L1 at hm
  refine WC_seq <| WC_region ?_
  refine W ?_
  refine WL_nil <| At_then <| WC_seq ?_
  refine WC_cond (O rfl) (fun hc7 => ?_) (fun hc7 => ?_)
  ·
   replace hm := bif_t hc7 hm
   refine WC_skip ?_
   refine At_then <| WC_seq ?_
   refine WC_block ?_
   refine WC_seq <| WC_region ?_
   refine W ?_
   obtain ⟨e8, he9, hm⟩ := bind_some' hm
   obtain ⟨v10, v11, hC12, hN13, hR14, hR15⟩ := cellsM54 (g := true) (fun hg => (hs.sl (i := 2) rfl)) (fun hg => he9)
   replace hs := hs.addL [elem true (elA (sl v1) t5 6) [(.int .i64 e8.1), (.int .i64 e8.2.1.op), (.int .i64 e8.2.1.n), (.int .i64 e8.2.1.at_), (sl v10), (sl v11)], imm (RSl RExpr) [sl v10] e8.2.1.l, imm (RSl Q6) [sl v11] e8.2.2] rfl ⟨fun hg => ⟨hN13 hg, hC12 hg⟩, ⟨_, rfl, hR14 rfl⟩, ⟨_, rfl, hR15 rfl⟩, trivial⟩
   replace hs := Sat.n6 (Γ := Φ) hs rfl
   refine WL_op (Run_idxAddr (p := (elA (sl v1) t5 6)) Tryd.underlying31 ti54 (O rfl) (O rfl) (fun hg => (SRd.atA (A := Q2) (v := (sl v1)) (hs.sl (i := 5) rfl) he9).1)) rfl rfl rfl rfl <| Wo (Run_loadA (vs := [(.int .i64 e8.1), (.int .i64 e8.2.1.op), (.int .i64 e8.2.1.n), (.int .i64 e8.2.1.at_), (sl v10), (sl v11)]) Tryd.underlying54 rfl ti54 (O rfl) (fun hg => ((hs.elem (i := 0) rfl) hg).sub 0 rfl) rfl) rfl <| ?_
   refine WS_alloc (zs := [(.int .i64 0), (.int .i64 0), (.int .i64 0), (.int .i64 0), (sl (none, 0, 0)), (sl (none, 0, 0))]) hs ti54 rfl rfl ?_
   intro b16 w17 hs
   replace hs := Sat.n7 (Γ := Φ) hs rfl
   refine W ?_
   refine WS_store (us := [(.int .i64 e8.1), (.int .i64 e8.2.1.op), (.int .i64 e8.2.1.n), (.int .i64 e8.2.1.at_), (sl v10), (sl v11)]) (vs' := [(.int .i64 e8.1), (.int .i64 e8.2.1.op), (.int .i64 e8.2.1.n), (.int .i64 e8.2.1.at_), (sl v10), (sl v11)]) hs 0 rfl ti54 (O rfl) (O rfl) rfl rfl rfl rfl rfl ?_
   intro w18 hs
   replace hs := Sat.n7 (Γ := Φ) hs rfl
   refine WL_nil <| At_then <| WC_seq <| WC_region ?_
   iterate 2 refine W ?_
   obtain ⟨e19, he20, hm⟩ := bind_some' hm
   obtain ⟨v21, v22, hC23, hN24, hR25, hR26⟩ := cellsM54 (g := true) (fun hg => (hs.sl (i := 4) rfl)) (fun hg => he20)
   replace hs := hs.addL [elem true (elA (sl v3) t5 6) [(.int .i64 e19.1), (.int .i64 e19.2.1.op), (.int .i64 e19.2.1.n), (.int .i64 e19.2.1.at_), (sl v21), (sl v22)], imm (RSl RExpr) [sl v21] e19.2.1.l, imm (RSl Q6) [sl v22] e19.2.2] rfl ⟨fun hg => ⟨hN24 hg, hC23 hg⟩, ⟨_, rfl, hR25 rfl⟩, ⟨_, rfl, hR26 rfl⟩, trivial⟩
   replace hs := Sat.n10 (Γ := Φ) hs rfl
   refine WL_op (Run_idxAddr (p := (elA (sl v3) t5 6)) Tryd.underlying31 ti54 (O rfl) (O rfl) (fun hg => (SRd.atA (A := Q2) (v := (sl v3)) (hs.sl (i := 7) rfl) he20).1)) rfl rfl rfl rfl <| Wo (Run_loadA (vs := [(.int .i64 e19.1), (.int .i64 e19.2.1.op), (.int .i64 e19.2.1.n), (.int .i64 e19.2.1.at_), (sl v21), (sl v22)]) Tryd.underlying54 rfl ti54 (O rfl) (fun hg => ((hs.elem (i := 0) rfl) hg).sub 0 rfl) rfl) rfl <| ?_
   refine WS_alloc (zs := [(.int .i64 0), (.int .i64 0), (.int .i64 0), (.int .i64 0), (sl (none, 0, 0)), (sl (none, 0, 0))]) hs ti54 rfl rfl ?_
   intro b27 w28 hs
   replace hs := Sat.n11 (Γ := Φ) hs rfl
   refine WS_store (us := [(.int .i64 e19.1), (.int .i64 e19.2.1.op), (.int .i64 e19.2.1.n), (.int .i64 e19.2.1.at_), (sl v21), (sl v22)]) (vs' := [(.int .i64 e19.1), (.int .i64 e19.2.1.op), (.int .i64 e19.2.1.n), (.int .i64 e19.2.1.at_), (sl v21), (sl v22)]) hs 0 rfl ti54 (O rfl) (O rfl) rfl rfl rfl rfl rfl ?_
   intro w29 hs
   replace hs := Sat.n11 (Γ := Φ) hs rfl
   refine WL_nil <| At_then <| WC_seq <| WC_region ?_
   refine W ?_
   refine Wo (Run_loadA (vs := [(.int .i64 e8.1), (.int .i64 e8.2.1.op), (.int .i64 e8.2.1.n), (.int .i64 e8.2.1.at_), (sl v10), (sl v11)]) Tryd.underlying54 rfl ti54 (O rfl) (fun _ => (hs.box (i := 4) rfl).part 0 rfl) rfl) rfl <| Wo (Run_loadA (vs := [(.int .i64 e19.1), (.int .i64 e19.2.1.op), (.int .i64 e19.2.1.n), (.int .i64 e19.2.1.at_), (sl v21), (sl v22)]) Tryd.underlying54 rfl ti54 (O rfl) (fun _ => (hs.box (i := 0) rfl).part 0 rfl) rfl) rfl <| ?_
   obtain ⟨r30, hr31, hm⟩ := bind_some' hm
   refine WL_call (f := 27) (first := []) (cap := [(.pointer (some ⟨b, 0, none⟩))]) (xs := [(.tmp 27), (.tmp 28)]) (vs := [(.agg #[(.int .i64 e8.1), (.int .i64 e8.2.1.op), (.int .i64 e8.2.1.n), (.int .i64 e8.2.1.at_), (sl v10), (sl v11)]), (.agg #[(.int .i64 e19.1), (.int .i64 e19.2.1.op), (.int .i64 e19.2.1.n), (.int .i64 e19.2.1.at_), (sl v21), (sl v22)])]) (args := [(.agg #[(.int .i64 e8.1), (.int .i64 e8.2.1.op), (.int .i64 e8.2.1.n), (.int .i64 e8.2.1.at_), (sl v10), (sl v11)]), (.agg #[(.int .i64 e19.1), (.int .i64 e19.2.1.op), (.int .i64 e19.2.1.n), (.int .i64 e19.2.1.at_), (sl v21), (sl v22)]), (.pointer (some ⟨b, 0, none⟩))]) Tryd.call27 (O rfl) (.cons (O rfl) (.cons (O rfl) .nil)) rfl rfl (model_Same_c2_ok (hs.re 11 [6, 7, 2, 3, 9, 0, 1, 2, 3, 4, 5, 6, 7, 8, 10] rfl) hr31) ?_
   rintro _ w32 ⟨rfl, hs⟩
   replace hs := Sat.n11 (Γ := Φ) hs rfl
   refine W ?_
   refine WL_nil <| At_then ?_
   refine WC_cond (O rfl) (fun hc33 => ?_) (fun hc33 => ?_)
   ·
    replace hm := bif_t hc33 hm
    refine WC_seq <| WC_region ?_
    refine W ?_
    refine WL_nil <| At_then ?_
    refine WC_ret ?_
    refine At_blk_ret <| At_then_ret <| At_then_ret <| At_blk_ret <| At_then_ret <| ?_
    refine At_r1 rfl (ResIs.t rfl) ?_
    cases hm
    exact ⟨rfl, (hs.re 11 [0] rfl)⟩
   ·
    replace hm := bif_f hc33 hm
    refine WC_skip ?_
    refine At_blk_normal ?_
    refine At_then <| WC_region ?_
    iterate 2 refine W ?_
    refine WL_nil ?_
    exact At_again (IntKind.i64.wrap (t5 + 1)) () hm (hs.re 11 [9, 0, 10] rfl) rfl
  ·
   replace hm := bif_f hc7 hm
   refine WC_exit ?_
   refine At_then_exit <| At_then_exit <| At_blk_here <| ?_
   refine At_then <| WC_seq <| WC_region ?_
   refine W ?_
   refine WL_nil <| At_then ?_
   refine WC_ret ?_
   refine At_r1 rfl (ResIs.t rfl) ?_
   cases hm
   exact ⟨rfl, (hs.re 3 [1] rfl)⟩
theorem model_Same_ok {Φ w a b v1 v3 v5 v7 v9 v11 v13 v15 v17 v19 r} (hs : Sat (imm (RSl RS) [sl v1] a.1 :: imm (RSl Q5) [sl v3] a.2.1 :: imm Q8 [sl v5] a.2.2.1 :: imm (RSl RS) [sl v7] a.2.2.2.1 :: imm (RSl Q2) [sl v9] a.2.2.2.2 :: imm (RSl RS) [sl v11] b.1 :: imm (RSl Q5) [sl v13] b.2.1 :: imm Q8 [sl v15] b.2.2.1 :: imm (RSl RS) [sl v17] b.2.2.2.1 :: imm (RSl Q2) [sl v19] b.2.2.2.2 :: Φ) w) (hm : model_Same a b = some r) :
  CallsR Tryd.prog 12 [(.agg #[(sl v1), (sl v3), (sl v5), (sl v7), (sl v9)]), (.agg #[(sl v11), (sl v13), (sl v15), (sl v17), (sl v19)])] w (fun v w' => v = (.bool r) ∧ Sat (Φ) w') := by
 refine CallsX_enter Tryd.func12 rfl Tryd.ntmps12 rfl ?_
 unfold model_Same at hm
 refine WC_seq <| WC_region ?_
 refine WS_box (zs := [(sl v1), (sl v3), (sl v5), (sl v7), (sl v9)]) hs (O rfl) rfl rfl ?_
 intro b3 w4 hs
 replace hs := Sat.n11 (Γ := Φ) hs rfl
 refine WS_box (zs := [(sl v11), (sl v13), (sl v15), (sl v17), (sl v19)]) hs (O rfl) rfl rfl ?_
 intro b5 w6 hs
 replace hs := Sat.n12 (Γ := Φ) hs rfl
 refine W ?_
 refine WL_nil <| At_then <| WC_seq <| WC_region ?_
 refine WS_alloc (zs := [.nilFunc]) hs ti71 rfl rfl ?_
 intro b7 w8 hs
 replace hs := Sat.n13 (Γ := Φ) hs rfl
 refine WS_store (us := [(.func (.func 25) #[] #[])]) (vs' := [(.func (.func 25) #[] #[])]) hs 0 rfl ti71 (O rfl) Opd.f rfl rfl rfl rfl rfl ?_
 intro w9 hs
 replace hs := Sat.n13 (Γ := Φ) hs rfl
 refine WL_nil <| At_then <| WC_seq <| WC_region ?_
 refine Wo (Run_makeFunc (first := []) (cap := [(.tmp 5)]) .nil (.cons (O rfl) .nil)) rfl <| ?_
 refine W ?_
 refine WL_nil <| At_then <| WC_seq <| WC_region ?_
 iterate 4 refine W ?_
 obtain ⟨r10, hr11, hm⟩ := bind_some' hm
 refine WL_call (f := 29) (first := []) (cap := []) (xs := [(.tmp 9), (.tmp 11)]) (vs := [(sl v1), (sl v11)]) (args := [(sl v1), (sl v11)]) Tryd.call29 Opd.f (.cons (O rfl) (.cons (O rfl) .nil)) rfl rfl (slices_Equal_string_string_ok (hs.re 13 [3, 8, 0, 1, 2, 3, 4, 5, 6, 7, 8, 9, 10, 11, 12] rfl) hr11) ?_
 rintro _ w12 ⟨rfl, hs⟩
 replace hs := Sat.n13 (Γ := Φ) hs rfl
 refine W ?_
 iterate 4 refine WG ?_
 obtain ⟨r13, hr14, -, hm⟩ := callG_some hm
 refine WL_callG rfl rfl rfl guard_pos (f := 30) (first := []) (cap := []) (xs := [(.tmp 15), (.tmp 17)]) (vs := [(sl v3), (sl v13)]) (args := [(sl v3), (sl v13)]) Tryd.call30 Opd.f (.cons (Opd.g rfl id) (.cons (Opd.g rfl id) .nil)) rfl rfl (fun hg => slices_Equal_api_Field_api_Field_ok (hs.re 13 [4, 9, 0, 1, 2, 3, 4, 5, 6, 7, 8, 9, 10, 11, 12] rfl) (hr14 hg)) ?_
 intro v16 w15 hv17 hz18
 replace hs := Sat.ofG (fun hg => (hv17 hg).2.re 13 [0, 1, 2, 3, 4, 5, 6, 7, 8, 9, 10, 11, 12] rfl) hz18 hs
 refine WL_sub1 (v := (.bool r13)) (fun hg => (hv17 hg).1) ?_
 replace hs := Sat.n13 (Γ := Φ) hs rfl
 obtain ⟨b19, e20, hm⟩ := letv_som hm
 iterate 2 refine W ?_
 iterate 4 refine WG ?_
 obtain ⟨r21, hr22, -, hm⟩ := callG_some hm
 refine WL_callG rfl rfl rfl guard_pos (f := 31) (first := []) (cap := []) (xs := [(.tmp 22), (.tmp 24)]) (vs := [(sl v5), (sl v15)]) (args := [(sl v5), (sl v15)]) Tryd.call31 Opd.f (.cons (Opd.g rfl id) (.cons (Opd.g rfl id) .nil)) rfl rfl (fun hg => slices_Equal_int_int_ok (hs.re 13 [5, 10, 0, 1, 2, 3, 4, 5, 6, 7, 8, 9, 10, 11, 12] rfl) (hr22 hg)) ?_
 intro v24 w23 hv25 hz26
 replace hs := Sat.ofG (fun hg => (hv25 hg).2.re 13 [0, 1, 2, 3, 4, 5, 6, 7, 8, 9, 10, 11, 12] rfl) hz26 hs
 refine WL_sub1 (v := (.bool r21)) (fun hg => (hv25 hg).1) ?_
 replace hs := Sat.n13 (Γ := Φ) hs rfl
 obtain ⟨b27, e28, hm⟩ := letv_som hm
 iterate 2 refine W ?_
 iterate 4 refine WG ?_
 obtain ⟨r29, hr30, -, hm⟩ := callG_some hm
 refine WL_callG rfl rfl rfl guard_pos (f := 29) (first := []) (cap := []) (xs := [(.tmp 29), (.tmp 31)]) (vs := [(sl v7), (sl v17)]) (args := [(sl v7), (sl v17)]) Tryd.call29 Opd.f (.cons (Opd.g rfl id) (.cons (Opd.g rfl id) .nil)) rfl rfl (fun hg => slices_Equal_string_string_ok (hs.re 13 [6, 11, 0, 1, 2, 3, 4, 5, 6, 7, 8, 9, 10, 11, 12] rfl) (hr30 hg)) ?_
 intro v32 w31 hv33 hz34
 replace hs := Sat.ofG (fun hg => (hv33 hg).2.re 13 [0, 1, 2, 3, 4, 5, 6, 7, 8, 9, 10, 11, 12] rfl) hz34 hs
 refine WL_sub1 (v := (.bool r29)) (fun hg => (hv33 hg).1) ?_
 replace hs := Sat.n13 (Γ := Φ) hs rfl
 obtain ⟨b35, e36, hm⟩ := letv_som hm
 iterate 2 refine W ?_
 iterate 5 refine WG ?_
 obtain ⟨r37, hr38, -, hm⟩ := callG_some hm
 refine WL_callG rfl rfl rfl guard_pos (f := 32) (first := []) (cap := []) (xs := [(.tmp 36), (.tmp 38), (.tmp 39)]) (vs := [(sl v9), (sl v19), (.func (.func 27) #[] #[(.pointer (some ⟨b7, 0, none⟩))])]) (args := [(sl v9), (sl v19), (.func (.func 27) #[] #[(.pointer (some ⟨b7, 0, none⟩))])]) Tryd.call32 Opd.f (.cons (Opd.g rfl id) (.cons (Opd.g rfl id) (.cons (Opd.g rfl id) .nil))) rfl rfl (fun hg => slices_EqualFunc_api_Cmd_api_Cmd_api_Cmd_api_Cmd_ok (hs.re 13 [7, 12, 0, 1, 2, 3, 4, 5, 6, 7, 8, 9, 10, 11, 12] rfl) (hr38 hg)) ?_
 intro v40 w39 hv41 hz42
 replace hs := Sat.ofG (fun hg => (hv41 hg).2.re 13 [0, 1, 2, 3, 4, 5, 6, 7, 8, 9, 10, 11, 12] rfl) hz42 hs
 refine WL_sub1 (v := (.bool r37)) (fun hg => (hv41 hg).1) ?_
 replace hs := Sat.n13 (Γ := Φ) hs rfl
 obtain ⟨b43, e44, hm⟩ := letv_som hm
 iterate 2 refine W ?_
 refine WL_nil <| At_then ?_
 refine WC_ret ?_
 refine At_r1 rfl (ResIs.t rfl) ?_
 cases hm
 exact ⟨rfl, (hs.re 13 [] rfl)⟩
end Go.Proofs.YtdhgpnejphlfpaaDoor
namespace Go.Proofs.YtdhgpnejphlfpaaDoor
open Go.Proofs
theorem scrutinylaw14_shown_ok {Φ : Ctx} {w : World} {r : Bool} (hs : Sat (gl 0 (keysL.map S) :: gl 1 (textsL.map S) :: Φ) w) (hm : scrutinylaw14_shown = some r) :
  CallsR Tryd.prog 9 [] w (fun v w' => v = (.bool r) ∧ Sat (Φ) w') := by
 refine CallsX_enter Tryd.func9 rfl Tryd.ntmps9 rfl ?_
 unfold scrutinylaw14_shown at hm
 refine WC_seq <| WC_region ?_
 refine Wo (Run_assign Opd.c) rfl <| ?_
 refine WL_nil <| At_then <| WC_seq <| WC_region ?_
 obtain ⟨r3, hr4, hm⟩ := bind_some' hm
 refine WL_call (f := 11) (first := []) (cap := []) (xs := [(.const (.string ⟨#[118, 97, 114, 32, 120, 32, 48, 32, 51, 32, 48, 59, 32, 112, 114, 111, 99, 32, 80, 32, 123, 32, 120, 32, 60, 32, 51, 32, 58, 32, 120, 32, 61, 32, 120, 32, 43, 32, 49, 59, 32, 125]⟩))]) (vs := [(S [118, 97, 114, 32, 120, 32, 48, 32, 51, 32, 48, 59, 32, 112, 114, 111, 99, 32, 80, 32, 123, 32, 120, 32, 60, 32, 51, 32, 58, 32, 120, 32, 61, 32, 120, 32, 43, 32, 49, 59, 32, 125])]) (args := [(S [118, 97, 114, 32, 120, 32, 48, 32, 51, 32, 48, 59, 32, 112, 114, 111, 99, 32, 80, 32, 123, 32, 120, 32, 60, 32, 51, 32, 58, 32, 120, 32, 61, 32, 120, 32, 43, 32, 49, 59, 32, 125])]) Tryd.call11 Opd.f (.cons Opd.c .nil) rfl rfl (model_Parse_ok (hs.re 2 [0, 1, 0, 1] rfl) hr4) ?_
 rintro _ w15 ⟨v5, R6, v7, R8, v9, R10, v11, R12, v13, R14, rfl, hs⟩
 replace hs := Sat.n7 (Γ := Φ) hs rfl
 refine Wo (Run_move (O rfl)) rfl <| Wo (Run_extract (vs := [(.agg #[(sl v5), (sl v7), (sl v9), (sl v11), (sl v13)]), (.int .i64 r3.2.1), (.int .i64 r3.2.2)]) (O rfl) rfl) rfl <| Wo (Run_extract (vs := [(.agg #[(sl v5), (sl v7), (sl v9), (sl v11), (sl v13)]), (.int .i64 r3.2.1), (.int .i64 r3.2.2)]) (O rfl) rfl) rfl <| Wo (Run_extract (vs := [(.agg #[(sl v5), (sl v7), (sl v9), (sl v11), (sl v13)]), (.int .i64 r3.2.1), (.int .i64 r3.2.2)]) (O rfl) rfl) rfl <| ?_
 refine WS_alloc (zs := [(sl (none, 0, 0)), (sl (none, 0, 0)), (sl (none, 0, 0)), (sl (none, 0, 0)), (sl (none, 0, 0))]) hs ti33 rfl rfl ?_
 intro b16 w17 hs
 replace hs := Sat.n8 (Γ := Φ) hs rfl
 refine WS_store (us := [(sl v5), (sl v7), (sl v9), (sl v11), (sl v13)]) (vs' := [(sl v5), (sl v7), (sl v9), (sl v11), (sl v13)]) hs 0 rfl ti33 (O rfl) (O rfl) rfl rfl rfl rfl rfl ?_
 intro w18 hs
 replace hs := Sat.n8 (Γ := Φ) hs rfl
 refine Wo (Run_assign (O rfl)) rfl <| Wo (Run_assign (O rfl)) rfl <| ?_
 refine WL_nil <| At_then <| WC_seq <| WC_region ?_
 obtain ⟨r19, hr20, hm⟩ := bind_some' hm
 refine WL_call (f := 11) (first := []) (cap := []) (xs := [(.const (.string ⟨#[118, 97, 114, 32, 120, 32, 48, 32, 51, 32, 52, 59]⟩))]) (vs := [(S [118, 97, 114, 32, 120, 32, 48, 32, 51, 32, 52, 59])]) (args := [(S [118, 97, 114, 32, 120, 32, 48, 32, 51, 32, 52, 59])]) Tryd.call11 Opd.f (.cons Opd.c .nil) rfl rfl (model_Parse_ok (hs.re 8 [6, 7, 0, 1, 2, 3, 4, 5, 6, 7] rfl) hr20) ?_
 rintro _ w31 ⟨v21, R22, v23, R24, v25, R26, v27, R28, v29, R30, rfl, hs⟩
 replace hs := Sat.n13 (Γ := Φ) hs rfl
 refine Wo (Run_move (O rfl)) rfl <| Wo (Run_extract (vs := [(.agg #[(sl v21), (sl v23), (sl v25), (sl v27), (sl v29)]), (.int .i64 r19.2.1), (.int .i64 r19.2.2)]) (O rfl) rfl) rfl <| Wo (Run_extract (vs := [(.agg #[(sl v21), (sl v23), (sl v25), (sl v27), (sl v29)]), (.int .i64 r19.2.1), (.int .i64 r19.2.2)]) (O rfl) rfl) rfl <| Wo (Run_extract (vs := [(.agg #[(sl v21), (sl v23), (sl v25), (sl v27), (sl v29)]), (.int .i64 r19.2.1), (.int .i64 r19.2.2)]) (O rfl) rfl) rfl <| ?_
 refine WS_alloc (zs := [(sl (none, 0, 0)), (sl (none, 0, 0)), (sl (none, 0, 0)), (sl (none, 0, 0)), (sl (none, 0, 0))]) hs ti33 rfl rfl ?_
 intro b32 w33 hs
 replace hs := Sat.n14 (Γ := Φ) hs rfl
 refine WS_store (us := [(sl v21), (sl v23), (sl v25), (sl v27), (sl v29)]) (vs' := [(sl v21), (sl v23), (sl v25), (sl v27), (sl v29)]) hs 0 rfl ti33 (O rfl) (O rfl) rfl rfl rfl rfl rfl ?_
 intro w34 hs
 replace hs := Sat.n14 (Γ := Φ) hs rfl
 refine Wo (Run_assign (O rfl)) rfl <| Wo (Run_assign (O rfl)) rfl <| ?_
 refine WL_nil <| At_then <| WC_seq <| WC_region ?_
 obtain ⟨r35, hr36, hm⟩ := bind_some' hm
 refine WL_call (f := 11) (first := []) (cap := []) (xs := [(.const (.string ⟨#[118, 97, 114, 32, 120, 32, 48, 32, 51, 32, 48, 59, 32, 112, 114, 111, 99, 32, 80, 32, 123, 32, 120, 32, 58, 32, 120, 32, 61, 32, 49, 59, 32, 125]⟩))]) (vs := [(S [118, 97, 114, 32, 120, 32, 48, 32, 51, 32, 48, 59, 32, 112, 114, 111, 99, 32, 80, 32, 123, 32, 120, 32, 58, 32, 120, 32, 61, 32, 49, 59, 32, 125])]) (args := [(S [118, 97, 114, 32, 120, 32, 48, 32, 51, 32, 48, 59, 32, 112, 114, 111, 99, 32, 80, 32, 123, 32, 120, 32, 58, 32, 120, 32, 61, 32, 49, 59, 32, 125])]) Tryd.call11 Opd.f (.cons Opd.c .nil) rfl rfl (model_Parse_ok (hs.re 14 [12, 13, 0, 1, 2, 3, 4, 5, 6, 7, 8, 9, 10, 11, 12, 13] rfl) hr36) ?_
 rintro _ w47 ⟨v37, R38, v39, R40, v41, R42, v43, R44, v45, R46, rfl, hs⟩
 replace hs := Sat.n19 (Γ := Φ) hs rfl
 refine Wo (Run_move (O rfl)) rfl <| Wo (Run_extract (vs := [(.agg #[(sl v37), (sl v39), (sl v41), (sl v43), (sl v45)]), (.int .i64 r35.2.1), (.int .i64 r35.2.2)]) (O rfl) rfl) rfl <| Wo (Run_extract (vs := [(.agg #[(sl v37), (sl v39), (sl v41), (sl v43), (sl v45)]), (.int .i64 r35.2.1), (.int .i64 r35.2.2)]) (O rfl) rfl) rfl <| Wo (Run_extract (vs := [(.agg #[(sl v37), (sl v39), (sl v41), (sl v43), (sl v45)]), (.int .i64 r35.2.1), (.int .i64 r35.2.2)]) (O rfl) rfl) rfl <| ?_
 refine WS_alloc (zs := [(sl (none, 0, 0)), (sl (none, 0, 0)), (sl (none, 0, 0)), (sl (none, 0, 0)), (sl (none, 0, 0))]) hs ti33 rfl rfl ?_
 intro b48 w49 hs
 replace hs := Sat.n20 (Γ := Φ) hs rfl
 refine WS_store (us := [(sl v37), (sl v39), (sl v41), (sl v43), (sl v45)]) (vs' := [(sl v37), (sl v39), (sl v41), (sl v43), (sl v45)]) hs 0 rfl ti33 (O rfl) (O rfl) rfl rfl rfl rfl rfl ?_
 intro w50 hs
 replace hs := Sat.n20 (Γ := Φ) hs rfl
 refine Wo (Run_assign (O rfl)) rfl <| Wo (Run_assign (O rfl)) rfl <| ?_
 refine WL_nil <| At_then <| WC_seq <| WC_region ?_
 obtain ⟨r51, hr52, hm⟩ := bind_some' hm
 refine WL_call (f := 11) (first := []) (cap := []) (xs := [(.const (.string ⟨#[112, 114, 111, 99, 32, 80, 32, 123, 125]⟩))]) (vs := [(S [112, 114, 111, 99, 32, 80, 32, 123, 125])]) (args := [(S [112, 114, 111, 99, 32, 80, 32, 123, 125])]) Tryd.call11 Opd.f (.cons Opd.c .nil) rfl rfl (model_Parse_ok (hs.re 20 [18, 19, 0, 1, 2, 3, 4, 5, 6, 7, 8, 9, 10, 11, 12, 13, 14, 15, 16, 17, 18, 19] rfl) hr52) ?_
 rintro _ w63 ⟨v53, R54, v55, R56, v57, R58, v59, R60, v61, R62, rfl, hs⟩
 replace hs := Sat.n25 (Γ := Φ) hs rfl
 refine Wo (Run_move (O rfl)) rfl <| Wo (Run_extract (vs := [(.agg #[(sl v53), (sl v55), (sl v57), (sl v59), (sl v61)]), (.int .i64 r51.2.1), (.int .i64 r51.2.2)]) (O rfl) rfl) rfl <| Wo (Run_extract (vs := [(.agg #[(sl v53), (sl v55), (sl v57), (sl v59), (sl v61)]), (.int .i64 r51.2.1), (.int .i64 r51.2.2)]) (O rfl) rfl) rfl <| Wo (Run_extract (vs := [(.agg #[(sl v53), (sl v55), (sl v57), (sl v59), (sl v61)]), (.int .i64 r51.2.1), (.int .i64 r51.2.2)]) (O rfl) rfl) rfl <| ?_
 refine WS_alloc (zs := [(sl (none, 0, 0)), (sl (none, 0, 0)), (sl (none, 0, 0)), (sl (none, 0, 0)), (sl (none, 0, 0))]) hs ti33 rfl rfl ?_
 intro b64 w65 hs
 replace hs := Sat.n26 (Γ := Φ) hs rfl
 refine WS_store (us := [(sl v53), (sl v55), (sl v57), (sl v59), (sl v61)]) (vs' := [(sl v53), (sl v55), (sl v57), (sl v59), (sl v61)]) hs 0 rfl ti33 (O rfl) (O rfl) rfl rfl rfl rfl rfl ?_
 intro w66 hs
 replace hs := hs.re 26 [18, 19, 20, 21, 22, 23, 24, 25] rfl
 replace hs := Sat.n8 (Γ := Φ) hs rfl
 refine Wo (Run_assign (O rfl)) rfl <| Wo (Run_assign (O rfl)) rfl <| ?_
 refine WL_nil <| At_then <| WC_seq <| WC_region ?_
 obtain ⟨r67, hr68, hm⟩ := bind_some' hm
 refine WL_call (f := 11) (first := []) (cap := []) (xs := [(.const (.string ⟨#[118, 97, 114, 32, 120, 32, 48, 32, 51, 32, 48, 59, 32, 112, 114, 111, 99, 32, 120, 32, 123, 125]⟩))]) (vs := [(S [118, 97, 114, 32, 120, 32, 48, 32, 51, 32, 48, 59, 32, 112, 114, 111, 99, 32, 120, 32, 123, 125])]) (args := [(S [118, 97, 114, 32, 120, 32, 48, 32, 51, 32, 48, 59, 32, 112, 114, 111, 99, 32, 120, 32, 123, 125])]) Tryd.call11 Opd.f (.cons Opd.c .nil) rfl rfl (model_Parse_ok (hs.re 8 [6, 7, 0, 1, 2, 3, 4, 5, 6, 7] rfl) hr68) ?_
 rintro _ w79 ⟨v69, R70, v71, R72, v73, R74, v75, R76, v77, R78, rfl, hs⟩
 replace hs := Sat.n13 (Γ := Φ) hs rfl
 refine Wo (Run_move (O rfl)) rfl <| Wo (Run_extract (vs := [(.agg #[(sl v69), (sl v71), (sl v73), (sl v75), (sl v77)]), (.int .i64 r67.2.1), (.int .i64 r67.2.2)]) (O rfl) rfl) rfl <| Wo (Run_extract (vs := [(.agg #[(sl v69), (sl v71), (sl v73), (sl v75), (sl v77)]), (.int .i64 r67.2.1), (.int .i64 r67.2.2)]) (O rfl) rfl) rfl <| Wo (Run_extract (vs := [(.agg #[(sl v69), (sl v71), (sl v73), (sl v75), (sl v77)]), (.int .i64 r67.2.1), (.int .i64 r67.2.2)]) (O rfl) rfl) rfl <| ?_
 refine WS_alloc (zs := [(sl (none, 0, 0)), (sl (none, 0, 0)), (sl (none, 0, 0)), (sl (none, 0, 0)), (sl (none, 0, 0))]) hs ti33 rfl rfl ?_
 intro b80 w81 hs
 replace hs := Sat.n14 (Γ := Φ) hs rfl
 refine WS_store (us := [(sl v69), (sl v71), (sl v73), (sl v75), (sl v77)]) (vs' := [(sl v69), (sl v71), (sl v73), (sl v75), (sl v77)]) hs 0 rfl ti33 (O rfl) (O rfl) rfl rfl rfl rfl rfl ?_
 intro w82 hs
 replace hs := Sat.n14 (Γ := Φ) hs rfl
 refine Wo (Run_assign (O rfl)) rfl <| Wo (Run_assign (O rfl)) rfl <| ?_
 refine WL_nil <| At_then <| WC_seq <| WC_seq <| WC_region ?_
 refine Wo (Run_fieldAddr fo33_4 (O rfl)) rfl <| Wo (Run_load1 (v := (sl v13)) Tryd.underlying31 rfl (O rfl) (fun _ => (hs.box (i := 6) rfl).part 4 rfl)) rfl <| Wo (Run_lenSlG Tryd.underlying31 (O rfl) (fun _ => (hs.own (i := 11) rfl).len)) rfl <| ?_
 obtain ⟨b83, e84, hm⟩ := letv_some hm
 refine Wo (Run.eqB (Run_neI (O rfl) Opd.c) e84) rfl <| Wo (Run_move (O rfl)) rfl <| Wg rfl guard_neg (Run_fieldAddr fo33_4 (O rfl)) rfl <| Wg rfl guard_neg (Run_load1 (v := (sl v13)) Tryd.underlying31 rfl (Opd.g rfl id) (fun _ => (hs.box (i := 6) rfl).part 4 rfl)) rfl <| ?_
 obtain ⟨e85, he86, -, hm⟩ := callG_some hm
 obtain ⟨v87, v88, hC89, hN90, hR91, hR92⟩ := cellsMO54 (g := (!b83)) (fun hg => (hs.own (i := 11) rfl)) (fun hg => (he86 hg))
 replace hs := hs.addL [immG (!b83) (RSl RExpr) [sl v87] e85.2.1.l, immG (!b83) (RSl Q6) [sl v88] e85.2.2] rfl ⟨fun hg => ⟨_, rfl, hR91 hg⟩, fun hg => ⟨_, rfl, hR92 hg⟩, trivial⟩
 replace hs := Sat.n16 (Γ := Φ) hs rfl
 refine WL_opG rfl rfl rfl rfl guard_neg (Run_idxAddr (p := (elA (sl v13) 0 6)) Tryd.underlying31 ti54 (Opd.g rfl id) Opd.c (fun hg => (Own.atA (A := Q2) (v := (sl v13)) (hs.own (i := 13) rfl) (he86 hg)).1)) rfl rfl rfl <| Wg rfl guard_neg (Run_fieldAddr fo54_2 (Opd.g rfl id)) rfl <| Wg rfl guard_neg (Run_load1 (v := (sl v88)) Tryd.underlying52 rfl (Opd.g rfl id) (fun hg => ((hC89 hg).sub (us := [(sl v88)]) 5 rfl).sub 0 rfl)) rfl <| Wg rfl guard_neg (Run_lenSlG Tryd.underlying52 (Opd.g rfl id) (fun hg => ((hs.slG (i := 1) rfl) hg).len)) rfl <| ?_
 obtain ⟨b93, e94, hm⟩ := letv_some hm
 refine Wg rfl guard_neg (Run.eqB (Run_neI (Opd.g rfl id) Opd.c) e94) rfl <| ?_
 obtain ⟨b95, e96, hm⟩ := letv_some hm
 refine Wo (Run.eqB (Run_or (O rfl) (Opd.g rfl id)) e96) rfl <| ?_
 refine WL_nil <| At_then ?_
 refine WC_cond (O rfl) (fun hc97 => ?_) (fun hc97 => ?_)
 ·
  replace hm := bif_t hc97 hm
  refine WC_seq <| WC_region ?_
  refine Wo (Run_assign Opd.c) rfl <| ?_
  refine WL_nil <| At_then ?_
  refine WC_ret ?_
  refine At_then_ret <| ?_
  refine At_r1 rfl (ResIs.t rfl) ?_
  cases hm
  exact ⟨rfl, (hs.re 16 [] rfl)⟩
 ·
  replace hm := bif_f hc97 hm
  refine WC_skip ?_
  refine At_then <| WC_seq <| WC_region ?_
  refine Wo (Run_move (O rfl)) rfl <| ?_
  obtain ⟨b98, e99, hm⟩ := letv_some hm
  refine Wo (Run.eqB (Run_eqI (O rfl) Opd.c) e99) rfl <| Wo (Run_move (O rfl)) rfl <| WL_opG rfl rfl rfl rfl guard_pos (Run_fieldAddr fo33_0 (O rfl)) rfl rfl rfl <| WL_opG rfl rfl rfl rfl guard_pos (Run_load1 (v := (sl v5)) Tryd.underlying26 rfl (Opd.g rfl id) (fun _ => (hs.box (i := 8) rfl).part 0 rfl)) rfl rfl rfl <| WL_opG rfl rfl rfl rfl guard_pos (Run_lenSlG Tryd.underlying26 (Opd.g rfl id) (fun _ => (hs.own (i := 9) rfl).len)) rfl rfl rfl <| ?_
  obtain ⟨b100, e101, hm⟩ := letv_some hm
  refine WL_opG rfl rfl rfl rfl guard_pos (Run.eqB (Run_eqI (Opd.g rfl id) Opd.c) e101) rfl rfl rfl <| ?_
  obtain ⟨b102, e103, hm⟩ := letv_some hm
  refine Wo (Run.eqB (Run_and (O rfl) (Opd.g rfl id)) e103) rfl <| Wo (Run_move (O rfl)) rfl <| WL_opG rfl rfl rfl rfl guard_pos (Run_fieldAddr fo33_1 (O rfl)) rfl rfl rfl <| WL_opG rfl rfl rfl rfl guard_pos (Run_load1 (v := (sl v7)) Tryd.underlying29 rfl (Opd.g rfl id) (fun _ => (hs.box (i := 8) rfl).part 1 rfl)) rfl rfl rfl <| ?_
  obtain ⟨e104, he105, -, hm⟩ := callG_some hm
  refine WL_opG rfl rfl rfl rfl guard_pos (Run_idxAddr (p := (elA (sl v7) 0 2)) Tryd.underlying29 ti44 (Opd.g rfl id) Opd.c (fun hg => (Own.atA (A := Q5) (v := (sl v7)) (hs.own (i := 10) rfl) (he105 hg)).1)) rfl rfl rfl <| WL_opG rfl rfl rfl rfl guard_pos (Run_loadA (vs := [(.int .i64 e104.1), (.int .i64 e104.2)]) Tryd.underlying44 rfl ti44 (Opd.g rfl id) (fun hg => (Own.cellsF (A := Q5) (v := (sl v7)) (hs.own (i := 10) rfl) (he105 hg) (fun _ h => openT44 h)).sub 0 rfl) rfl) rfl rfl rfl <| WL_opG rfl rfl rfl rfl guard_pos (Run_build (parts := [(0, (.const (.int .i64 0))), (1, (.const (.int .i64 3)))]) (v := (.agg #[(.int .i64 0), (.int .i64 3)])) (.cons Opd.c (.cons Opd.c .nil)) (fun _ => by kernel_rfl)) rfl rfl rfl <| ?_
  obtain ⟨b106, e107, hm⟩ := letv_some hm
  refine WL_opG rfl rfl rfl rfl guard_pos (Run.eqB (Run_bin (Opd.g rfl id) (Opd.g rfl id) (run_eqT44 _ _ _ _ _)) e107) rfl rfl rfl <| ?_
  obtain ⟨b108, e109, hm⟩ := letv_some hm
  refine Wo (Run.eqB (Run_and (O rfl) (Opd.g rfl id)) e109) rfl <| Wo (Run_move (O rfl)) rfl <| WL_opG rfl rfl rfl rfl guard_pos (Run_fieldAddr fo33_2 (O rfl)) rfl rfl rfl <| WL_opG rfl rfl rfl rfl guard_pos (Run_load1 (v := (sl v9)) Tryd.underlying30 rfl (Opd.g rfl id) (fun _ => (hs.box (i := 8) rfl).part 2 rfl)) rfl rfl rfl <| ?_
  obtain ⟨e110, he111, -, hm⟩ := callG_some hm
  refine WL_opG rfl rfl rfl rfl guard_pos (Run_idxAddr (p := (elA (sl v9) 0 1)) Tryd.underlying30 ti3 (Opd.g rfl id) Opd.c (fun hg => (Own.atA (A := (RI .i64)) (v := (sl v9)) (hs.own (i := 11) rfl) (he111 hg)).1)) rfl rfl rfl <| WL_opG rfl rfl rfl rfl guard_pos (Run_load1 (v := (.int .i64 e110)) Tryd.underlying3 rfl (Opd.g rfl id) (fun hg => (Own.cellsF (A := (RI .i64)) (v := (sl v9)) (hs.own (i := 11) rfl) (he111 hg) (fun _ h => openT3 h)).sub 0 rfl)) rfl rfl rfl <| ?_
  obtain ⟨b112, e113, hm⟩ := letv_some hm
  refine WL_opG rfl rfl rfl rfl guard_pos (Run.eqB (Run_eqI (Opd.g rfl id) Opd.c) e113) rfl rfl rfl <| ?_
  obtain ⟨b114, e115, hm⟩ := letv_some hm
  refine Wo (Run.eqB (Run_and (O rfl) (Opd.g rfl id)) e115) rfl <| Wo (Run_move (O rfl)) rfl <| WL_opG rfl rfl rfl rfl guard_pos (Run_fieldAddr fo33_3 (O rfl)) rfl rfl rfl <| WL_opG rfl rfl rfl rfl guard_pos (Run_load1 (v := (sl v11)) Tryd.underlying26 rfl (Opd.g rfl id) (fun _ => (hs.box (i := 8) rfl).part 3 rfl)) rfl rfl rfl <| WL_opG rfl rfl rfl rfl guard_pos (Run_lenSlG Tryd.underlying26 (Opd.g rfl id) (fun _ => (hs.own (i := 12) rfl).len)) rfl rfl rfl <| ?_
  obtain ⟨b116, e117, hm⟩ := letv_some hm
  refine WL_opG rfl rfl rfl rfl guard_pos (Run.eqB (Run_eqI (Opd.g rfl id) Opd.c) e117) rfl rfl rfl <| ?_
  obtain ⟨b118, e119, hm⟩ := letv_some hm
  refine Wo (Run.eqB (Run_and (O rfl) (Opd.g rfl id)) e119) rfl <| Wo (Run_move (O rfl)) rfl <| WL_opG rfl rfl rfl rfl guard_pos (Run_fieldAddr fo33_4 (O rfl)) rfl rfl rfl <| WL_opG rfl rfl rfl rfl guard_pos (Run_load1 (v := (sl v13)) Tryd.underlying31 rfl (Opd.g rfl id) (fun _ => (hs.box (i := 8) rfl).part 4 rfl)) rfl rfl rfl <| ?_
  obtain ⟨e120, he121, -, hm⟩ := callG_some hm
  obtain ⟨v122, v123, hC124, hN125, hR126, hR127⟩ := cellsMO54 (g := b118) (fun hg => (hs.own (i := 13) rfl)) (fun hg => (he121 hg))
  replace hs := hs.addL [immG b118 (RSl RExpr) [sl v122] e120.2.1.l, immG b118 (RSl Q6) [sl v123] e120.2.2] rfl ⟨fun hg => ⟨_, rfl, hR126 hg⟩, fun hg => ⟨_, rfl, hR127 hg⟩, trivial⟩
  replace hs := Sat.n18 (Γ := Φ) hs rfl
  refine WL_opG rfl rfl rfl rfl guard_pos (Run_idxAddr (p := (elA (sl v13) 0 6)) Tryd.underlying31 ti54 (Opd.g rfl id) Opd.c (fun hg => (Own.atA (A := Q2) (v := (sl v13)) (hs.own (i := 15) rfl) (he121 hg)).1)) rfl rfl rfl <| WL_opG rfl rfl rfl rfl guard_pos (Run_fieldAddr fo54_1 (Opd.g rfl id)) rfl rfl rfl <| WL_opG rfl rfl rfl rfl guard_pos (Run_fieldAddr fo51_0 (Opd.g rfl id)) rfl rfl rfl <| WL_opG rfl rfl rfl rfl guard_pos (Run_load1 (v := (.int .i64 e120.2.1.op)) Tryd.underlying3 rfl (Opd.g rfl id) (fun hg => (((hC124 hg).sub (us := [(.int .i64 e120.2.1.op), (.int .i64 e120.2.1.n), (.int .i64 e120.2.1.at_), (sl v122)]) 1 rfl).sub (us := [(.int .i64 e120.2.1.op)]) 0 rfl).sub 0 rfl)) rfl rfl rfl <| ?_
  obtain ⟨b128, e129, hm⟩ := letv_some hm
  refine WL_opG rfl rfl rfl rfl guard_pos (Run.eqB (Run_eqI (Opd.g rfl id) Opd.c) e129) rfl rfl rfl <| ?_
  obtain ⟨b130, e131, hm⟩ := letv_some hm
  refine Wo (Run.eqB (Run_and (O rfl) (Opd.g rfl id)) e131) rfl <| Wo (Run_move (O rfl)) rfl <| WL_opG rfl rfl rfl rfl guard_pos (Run_fieldAddr fo33_4 (O rfl)) rfl rfl rfl <| WL_opG rfl rfl rfl rfl guard_pos (Run_load1 (v := (sl v13)) Tryd.underlying31 rfl (Opd.g rfl id) (fun _ => (hs.box (i := 10) rfl).part 4 rfl)) rfl rfl rfl <| ?_
  obtain ⟨e132, he133, -, hm⟩ := callG_some hm
  obtain ⟨v134, v135, hC136, hN137, hR138, hR139⟩ := cellsMO54 (g := b130) (fun hg => (hs.own (i := 15) rfl)) (fun hg => (he133 hg))
  replace hs := hs.addL [immG b130 (RSl RExpr) [sl v134] e132.2.1.l, immG b130 (RSl Q6) [sl v135] e132.2.2] rfl ⟨fun hg => ⟨_, rfl, hR138 hg⟩, fun hg => ⟨_, rfl, hR139 hg⟩, trivial⟩
  replace hs := Sat.n20 (Γ := Φ) hs rfl
  refine WL_opG rfl rfl rfl rfl guard_pos (Run_idxAddr (p := (elA (sl v13) 0 6)) Tryd.underlying31 ti54 (Opd.g rfl id) Opd.c (fun hg => (Own.atA (A := Q2) (v := (sl v13)) (hs.own (i := 17) rfl) (he133 hg)).1)) rfl rfl rfl <| WL_opG rfl rfl rfl rfl guard_pos (Run_fieldAddr fo54_2 (Opd.g rfl id)) rfl rfl rfl <| WL_opG rfl rfl rfl rfl guard_pos (Run_load1 (v := (sl v135)) Tryd.underlying52 rfl (Opd.g rfl id) (fun hg => ((hC136 hg).sub (us := [(sl v135)]) 5 rfl).sub 0 rfl)) rfl rfl rfl <| ?_
  obtain ⟨e140, he141, -, hm⟩ := callG_some hm
  obtain ⟨v142, hC143, hN144, hR145⟩ := cellsM57 (g := b130) (fun hg => ((hs.slG (i := 1) rfl) hg)) (fun hg => (he141 hg))
  replace hs := hs.addL [elem b130 (elA (sl v135) 0 5) [(.int .i64 e140.1), (.int .i64 e140.2.op), (.int .i64 e140.2.n), (.int .i64 e140.2.at_), (sl v142)], immG b130 (RSl RExpr) [sl v142] e140.2.l] rfl ⟨fun hg => ⟨hN144 hg, hC143 hg⟩, fun hg => ⟨_, rfl, hR145 hg⟩, trivial⟩
  replace hs := Sat.n22 (Γ := Φ) hs rfl
  refine WL_opG rfl rfl rfl rfl guard_pos (Run_idxAddr (p := (elA (sl v135) 0 5)) Tryd.underlying52 ti57 (Opd.g rfl id) Opd.c (fun hg => (SRd.atA (A := Q6) (v := (sl v135)) ((hs.slG (i := 3) rfl) hg) (he141 hg)).1)) rfl rfl rfl <| WL_opG rfl rfl rfl rfl guard_pos (Run_fieldAddr fo57_1 (Opd.g rfl id)) rfl rfl rfl <| WL_opG rfl rfl rfl rfl guard_pos (Run_fieldAddr fo51_0 (Opd.g rfl id)) rfl rfl rfl <| WL_opG rfl rfl rfl rfl guard_pos (Run_load1 (v := (.int .i64 e140.2.op)) Tryd.underlying3 rfl (Opd.g rfl id) (fun hg => ((((hs.elem (i := 0) rfl) hg).sub (us := [(.int .i64 e140.2.op), (.int .i64 e140.2.n), (.int .i64 e140.2.at_), (sl v142)]) 1 rfl).sub (us := [(.int .i64 e140.2.op)]) 0 rfl).sub 0 rfl)) rfl rfl rfl <| ?_
  obtain ⟨b146, e147, hm⟩ := letv_some hm
  refine WL_opG rfl rfl rfl rfl guard_pos (Run.eqB (Run_eqI (Opd.g rfl id) Opd.c) e147) rfl rfl rfl <| ?_
  obtain ⟨b148, e149, hm⟩ := letv_some hm
  refine Wo (Run.eqB (Run_and (O rfl) (Opd.g rfl id)) e149) rfl <| Wo (Run_move (O rfl)) rfl <| WL_opG rfl rfl rfl rfl guard_pos (Run_move (O rfl)) rfl rfl rfl <| ?_
  obtain ⟨b150, e151, hm⟩ := letv_some hm
  refine WL_opG rfl rfl rfl rfl guard_pos (Run.eqB (Run_eqI (Opd.g rfl id) Opd.c) e151) rfl rfl rfl <| ?_
  obtain ⟨b152, e153, hm⟩ := letv_some hm
  refine Wo (Run.eqB (Run_and (O rfl) (Opd.g rfl id)) e153) rfl <| Wo (Run_move (O rfl)) rfl <| WL_opG rfl rfl rfl rfl guard_pos (Run_move (O rfl)) rfl rfl rfl <| ?_
  obtain ⟨b154, e155, hm⟩ := letv_some hm
  refine WL_opG rfl rfl rfl rfl guard_pos (Run.eqB (Run_eqI (Opd.g rfl id) Opd.c) e155) rfl rfl rfl <| ?_
  obtain ⟨b156, e157, hm⟩ := letv_some hm
  refine Wo (Run.eqB (Run_and (O rfl) (Opd.g rfl id)) e157) rfl <| Wo (Run_move (O rfl)) rfl <| WL_opG rfl rfl rfl rfl guard_pos (Run_move (O rfl)) rfl rfl rfl <| ?_
  obtain ⟨b158, e159, hm⟩ := letv_some hm
  refine WL_opG rfl rfl rfl rfl guard_pos (Run.eqB (Run_eqI (Opd.g rfl id) Opd.c) e159) rfl rfl rfl <| ?_
  obtain ⟨b160, e161, hm⟩ := letv_some hm
  refine Wo (Run.eqB (Run_and (O rfl) (Opd.g rfl id)) e161) rfl <| Wo (Run_move (O rfl)) rfl <| WL_opG rfl rfl rfl rfl guard_pos (Run_move (O rfl)) rfl rfl rfl <| ?_
  obtain ⟨b162, e163, hm⟩ := letv_some hm
  refine WL_opG rfl rfl rfl rfl guard_pos (Run.eqB (Run_eqI (Opd.g rfl id) Opd.c) e163) rfl rfl rfl <| ?_
  obtain ⟨b164, e165, hm⟩ := letv_some hm
  refine Wo (Run.eqB (Run_and (O rfl) (Opd.g rfl id)) e165) rfl <| Wo (Run_move (O rfl)) rfl <| WL_opG rfl rfl rfl rfl guard_pos (Run_move (O rfl)) rfl rfl rfl <| ?_
  obtain ⟨b166, e167, hm⟩ := letv_some hm
  refine WL_opG rfl rfl rfl rfl guard_pos (Run.eqB (Run_eqI (Opd.g rfl id) Opd.c) e167) rfl rfl rfl <| ?_
  obtain ⟨b168, e169, hm⟩ := letv_some hm
  refine Wo (Run.eqB (Run_and (O rfl) (Opd.g rfl id)) e169) rfl <| Wo (Run_move (O rfl)) rfl <| WL_opG rfl rfl rfl rfl guard_pos (Run_move (O rfl)) rfl rfl rfl <| ?_
  obtain ⟨b170, e171, hm⟩ := letv_some hm
  refine WL_opG rfl rfl rfl rfl guard_pos (Run.eqB (Run_eqI (Opd.g rfl id) Opd.c) e171) rfl rfl rfl <| ?_
  obtain ⟨b172, e173, hm⟩ := letv_some hm
  refine Wo (Run.eqB (Run_and (O rfl) (Opd.g rfl id)) e173) rfl <| Wo (Run_move (O rfl)) rfl <| WL_opG rfl rfl rfl rfl guard_pos (Run_move (O rfl)) rfl rfl rfl <| ?_
  obtain ⟨b174, e175, hm⟩ := letv_some hm
  refine WL_opG rfl rfl rfl rfl guard_pos (Run.eqB (Run_eqI (Opd.g rfl id) Opd.c) e175) rfl rfl rfl <| ?_
  obtain ⟨b176, e177, hm⟩ := letv_some hm
  refine Wo (Run.eqB (Run_and (O rfl) (Opd.g rfl id)) e177) rfl <| Wo (Run_move (O rfl)) rfl <| WL_opG rfl rfl rfl rfl guard_pos (Run_move (O rfl)) rfl rfl rfl <| ?_
  obtain ⟨b178, e179, hm⟩ := letv_some hm
  refine WL_opG rfl rfl rfl rfl guard_pos (Run.eqB (Run_eqI (Opd.g rfl id) Opd.c) e179) rfl rfl rfl <| ?_
  obtain ⟨b180, e181, hm⟩ := letv_some hm
  refine Wo (Run.eqB (Run_and (O rfl) (Opd.g rfl id)) e181) rfl <| Wo (Run_move (O rfl)) rfl <| WL_opG rfl rfl rfl rfl guard_pos (Run_loadA (vs := [(sl v5), (sl v7), (sl v9), (sl v11), (sl v13)]) Tryd.underlying33 rfl ti33 (O rfl) (fun _ => (hs.box (i := 14) rfl).part 0 rfl) rfl) rfl rfl rfl <| WL_opG rfl rfl rfl rfl guard_pos (Run_loadA (vs := [(sl v5), (sl v7), (sl v9), (sl v11), (sl v13)]) Tryd.underlying33 rfl ti33 (O rfl) (fun _ => (hs.box (i := 14) rfl).part 0 rfl) rfl) rfl rfl rfl <| ?_
  replace hs := hs.freeze (i := 15) rfl
  replace hs := hs.freeze (i := 16) rfl
  replace hs := hs.freeze (i := 17) rfl
  replace hs := hs.freeze (i := 18) rfl
  replace hs := hs.freeze (i := 19) rfl
  obtain ⟨r182, hr183, -, hm⟩ := callG_some hm
  refine WL_callG rfl rfl rfl guard_pos (f := 12) (first := []) (cap := []) (xs := [(.tmp 137), (.tmp 138)]) (vs := [(.agg #[(sl v5), (sl v7), (sl v9), (sl v11), (sl v13)]), (.agg #[(sl v5), (sl v7), (sl v9), (sl v11), (sl v13)])]) (args := [(.agg #[(sl v5), (sl v7), (sl v9), (sl v11), (sl v13)]), (.agg #[(sl v5), (sl v7), (sl v9), (sl v11), (sl v13)])]) Tryd.call12 Opd.f (.cons (Opd.g rfl id) (.cons (Opd.g rfl id) .nil)) rfl rfl (fun hg => model_Same_ok (hs.re 22 [15, 16, 17, 18, 19, 15, 16, 17, 18, 19, 0, 1, 2, 3, 4, 5, 6, 7, 8, 9, 10, 11, 12, 13, 14, 15, 16, 17, 18, 19, 20, 21] rfl) (hr183 hg)) ?_
  intro v185 w184 hv186 hz187
  replace hs := Sat.ofG (fun hg => (hv186 hg).2.re 22 [0, 1, 2, 3, 4, 5, 6, 7, 8, 9, 10, 11, 12, 13, 14, 15, 16, 17, 18, 19, 20, 21] rfl) hz187 hs
  refine WL_sub1 (v := (.bool r182)) (fun hg => (hv186 hg).1) ?_
  replace hs := Sat.n22 (Γ := Φ) hs rfl
  obtain ⟨b188, e189, hm⟩ := letv_some hm
  refine Wo (Run.eqB (Run_and (O rfl) (Opd.g rfl id)) e189) rfl <| Wo (Run_move (O rfl)) rfl <| WL_opG rfl rfl rfl rfl guard_pos (Run_loadA (vs := [(sl v5), (sl v7), (sl v9), (sl v11), (sl v13)]) Tryd.underlying33 rfl ti33 (O rfl) (fun _ => (hs.box (i := 14) rfl).part 0 rfl) rfl) rfl rfl rfl <| WL_opG rfl rfl rfl rfl guard_pos (Run_build (parts := []) (v := (.agg #[(sl (none, 0, 0)), (sl (none, 0, 0)), (sl (none, 0, 0)), (sl (none, 0, 0)), (sl (none, 0, 0))])) .nil (fun _ => by kernel_rfl)) rfl rfl rfl <| ?_
  replace hs := hs.addNilI RS
  replace hs := hs.addNilI Q5
  replace hs := hs.addNilI (RI .i64)
  replace hs := hs.addNilI RS
  replace hs := hs.addNilI Q2
  obtain ⟨r190, hr191, -, hm⟩ := callG_some hm
  refine WL_callG rfl rfl rfl guard_pos (f := 12) (first := []) (cap := []) (xs := [(.tmp 142), (.tmp 143)]) (vs := [(.agg #[(sl v5), (sl v7), (sl v9), (sl v11), (sl v13)]), (.agg #[(sl (none, 0, 0)), (sl (none, 0, 0)), (sl (none, 0, 0)), (sl (none, 0, 0)), (sl (none, 0, 0))])]) (args := [(.agg #[(sl v5), (sl v7), (sl v9), (sl v11), (sl v13)]), (.agg #[(sl (none, 0, 0)), (sl (none, 0, 0)), (sl (none, 0, 0)), (sl (none, 0, 0)), (sl (none, 0, 0))])]) Tryd.call12 Opd.f (.cons (Opd.g rfl id) (.cons (Opd.g rfl id) .nil)) rfl rfl (fun hg => model_Same_ok (b := ([], [], [], [], [])) (hs.re 27 [20, 21, 22, 23, 24, 4, 3, 2, 1, 0, 0, 1, 2, 3, 4, 5, 6, 7, 8, 9, 10, 11, 12, 13, 14, 15, 16, 17, 18, 19, 20, 21, 22, 23, 24, 25, 26] rfl) (hr191 hg)) ?_
  intro v193 w192 hv194 hz195
  replace hs := Sat.ofG (fun hg => (hv194 hg).2.re 27 [0, 1, 2, 3, 4, 5, 6, 7, 8, 9, 10, 11, 12, 13, 14, 15, 16, 17, 18, 19, 20, 21, 22, 23, 24, 25, 26] rfl) hz195 hs
  refine WL_sub1 (v := (.bool r190)) (fun hg => (hv194 hg).1) ?_
  replace hs := Sat.n27 (Γ := Φ) hs rfl
  obtain ⟨b196, e197, hm⟩ := letv_some hm
  refine WL_opG rfl rfl rfl rfl guard_pos (Run.eqB (Run_notB (Opd.g rfl id)) e197) rfl rfl rfl <| ?_
  obtain ⟨b198, e199, hm⟩ := letv_some hm
  refine Wo (Run.eqB (Run_and (O rfl) (Opd.g rfl id)) e199) rfl <| Wo (Run_assign (O rfl)) rfl <| ?_
  refine WL_nil <| At_then ?_
  refine WC_ret ?_
  refine At_r1 rfl (ResIs.t rfl) ?_
  cases hm
  exact ⟨rfl, (hs.re 27 [] rfl)⟩
theorem scrutinyref12_kind_ok {Φ w c r} (hs : Sat (Φ) w) (hm : scrutinyref12_kind c = some r) :
  CallsR Tryd.prog 20 [(.int .u8 c)] w (fun v w' => v = (.int .i64 r) ∧ Sat (Φ) w') := by
 refine CallsX_enter Tryd.func20 rfl Tryd.ntmps20 rfl ?_
 unfold scrutinyref12_kind at hm
 refine WC_seq <| WC_region ?_
 refine W ?_
 refine WL_nil <| At_then <| WC_seq <| WC_seq <| WC_region ?_
 refine W ?_
 obtain ⟨b3, e4, hm⟩ := letv_som hm
 iterate 2 refine W ?_
 refine WG ?_
 obtain ⟨b5, e6, hm⟩ := letv_som hm
 refine WG ?_
 obtain ⟨b7, e8, hm⟩ := letv_som hm
 iterate 2 refine W ?_
 refine WG ?_
 obtain ⟨b9, e10, hm⟩ := letv_som hm
 refine WG ?_
 obtain ⟨b11, e12, hm⟩ := letv_som hm
 iterate 2 refine W ?_
 refine WG ?_
 obtain ⟨b13, e14, hm⟩ := letv_som hm
 refine WG ?_
 obtain ⟨b15, e16, hm⟩ := letv_som hm
 refine W ?_
 refine WL_nil <| At_then ?_
 refine WC_cond (O rfl) (fun hc17 => ?_) (fun hc17 => ?_)
 ·
  replace hm := bif_t hc17 hm
  refine WC_seq <| WC_region ?_
  refine W ?_
  refine WL_nil <| At_then ?_
  refine WC_ret ?_
  refine At_then_ret <| ?_
  refine At_r1 rfl (ResIs.t rfl) ?_
  cases hm
  exact ⟨rfl, (hs.re 0 [] rfl)⟩
 ·
  replace hm := bif_f hc17 hm
  refine WC_skip ?_
  refine At_then <| WC_seq <| WC_seq <| WC_region ?_
  refine W ?_
  obtain ⟨b18, e19, hm⟩ := letv_som hm
  iterate 2 refine W ?_
  refine WG ?_
  obtain ⟨b20, e21, hm⟩ := letv_som hm
  refine WG ?_
  obtain ⟨b22, e23, hm⟩ := letv_som hm
  iterate 2 refine W ?_
  refine WG ?_
  obtain ⟨b24, e25, hm⟩ := letv_som hm
  iterate 3 refine WG ?_
  obtain ⟨b26, e27, hm⟩ := letv_som hm
  refine WG ?_
  obtain ⟨b28, e29, hm⟩ := letv_som hm
  refine WG ?_
  obtain ⟨b30, e31, hm⟩ := letv_som hm
  iterate 2 refine W ?_
  refine WG ?_
  obtain ⟨b32, e33, hm⟩ := letv_som hm
  refine WG ?_
  obtain ⟨b34, e35, hm⟩ := letv_som hm
  refine W ?_
  refine WL_nil <| At_then ?_
  refine WC_cond (O rfl) (fun hc36 => ?_) (fun hc36 => ?_)
  ·
   replace hm := bif_t hc36 hm
   refine WC_seq <| WC_region ?_
   refine W ?_
   refine WL_nil <| At_then ?_
   refine WC_ret ?_
   refine At_then_ret <| ?_
   refine At_r1 rfl (ResIs.t rfl) ?_
   cases hm
   exact ⟨rfl, (hs.re 0 [] rfl)⟩
  ·
   replace hm := bif_f hc36 hm
   refine WC_skip ?_
   refine At_then <| WC_seq <| WC_seq <| WC_region ?_
   refine W ?_
   obtain ⟨b37, e38, hm⟩ := letv_som hm
   iterate 2 refine W ?_
   refine WG ?_
   obtain ⟨b39, e40, hm⟩ := letv_som hm
   refine WG ?_
   obtain ⟨b41, e42, hm⟩ := letv_som hm
   refine W ?_
   refine WL_nil <| At_then ?_
   refine WC_cond (O rfl) (fun hc43 => ?_) (fun hc43 => ?_)
   ·
    replace hm := bif_t hc43 hm
    refine WC_seq <| WC_region ?_
    refine W ?_
    refine WL_nil <| At_then ?_
    refine WC_ret ?_
    refine At_then_ret <| ?_
    refine At_r1 rfl (ResIs.t rfl) ?_
    cases hm
    exact ⟨rfl, (hs.re 0 [] rfl)⟩
   ·
    replace hm := bif_f hc43 hm
    refine WC_skip ?_
    refine At_then <| WC_seq <| WC_region ?_
    refine W ?_
    refine WL_nil <| At_then ?_
    refine WC_ret ?_
    refine At_r1 rfl (ResIs.t rfl) ?_
    cases hm
    exact ⟨rfl, (hs.re 0 [] rfl)⟩
theorem scrutinyref12_Signs_ok {Φ w r} (hs : Sat (Φ) w) (hm : scrutinyref12_Signs = some r) :
  CallsR Tryd.prog 21 [] w (fun v w' => ∃ v3 : SLV, ∃ R4 : List Nat, v = (sl v3) ∧ Sat (osl RS 9 (sl v3) r R4 :: Φ) w') := by
 refine CallsX_enter Tryd.func21 rfl Tryd.ntmps21 rfl ?_
 unfold scrutinyref12_Signs at hm
 refine WC_seq <| WC_region ?_
 refine W ?_
 refine WL_nil <| At_then <| WC_seq <| WC_region ?_
 refine WS_lit (A := RS) (xs := [[60, 45, 62], [45, 62], [61, 61], [33, 61], [60, 61], [62, 61], [60], [62], [61], [43], [45], [42], [40], [41], [123], [125], [59], [44], [58], [38], [124], [33]]) (zs := [(S [])]) (cells := [(S [60, 45, 62]), (S [45, 62]), (S [61, 61]), (S [33, 61]), (S [60, 61]), (S [62, 61]), (S [60]), (S [62]), (S [61]), (S [43]), (S [45]), (S [42]), (S [40]), (S [41]), (S [123]), (S [125]), (S [59]), (S [44]), (S [58]), (S [38]), (S [124]), (S [33])]) (parts := [(0, (.const (.string ⟨#[60, 45, 62]⟩))), (1, (.const (.string ⟨#[45, 62]⟩))), (2, (.const (.string ⟨#[61, 61]⟩))), (3, (.const (.string ⟨#[33, 61]⟩))), (4, (.const (.string ⟨#[60, 61]⟩))), (5, (.const (.string ⟨#[62, 61]⟩))), (6, (.const (.string ⟨#[60]⟩))), (7, (.const (.string ⟨#[62]⟩))), (8, (.const (.string ⟨#[61]⟩))), (9, (.const (.string ⟨#[43]⟩))), (10, (.const (.string ⟨#[45]⟩))), (11, (.const (.string ⟨#[42]⟩))), (12, (.const (.string ⟨#[40]⟩))), (13, (.const (.string ⟨#[41]⟩))), (14, (.const (.string ⟨#[123]⟩))), (15, (.const (.string ⟨#[125]⟩))), (16, (.const (.string ⟨#[59]⟩))), (17, (.const (.string ⟨#[44]⟩))), (18, (.const (.string ⟨#[58]⟩))), (19, (.const (.string ⟨#[38]⟩))), (20, (.const (.string ⟨#[124]⟩))), (21, (.const (.string ⟨#[33]⟩)))]) hs Tryd.underlying26 ti9 rfl rfl rfl (.cons Opd.c (.cons Opd.c (.cons Opd.c (.cons Opd.c (.cons Opd.c (.cons Opd.c (.cons Opd.c (.cons Opd.c (.cons Opd.c (.cons Opd.c (.cons Opd.c (.cons Opd.c (.cons Opd.c (.cons Opd.c (.cons Opd.c (.cons Opd.c (.cons Opd.c (.cons Opd.c (.cons Opd.c (.cons Opd.c (.cons Opd.c (.cons Opd.c .nil)))))))))))))))))))))) (by kernel_rfl) rfl (ARd.cons (A := RS) (c := [(S [60, 45, 62])]) (x := [60, 45, 62]) rfl (ARd.cons (A := RS) (c := [(S [45, 62])]) (x := [45, 62]) rfl (ARd.cons (A := RS) (c := [(S [61, 61])]) (x := [61, 61]) rfl (ARd.cons (A := RS) (c := [(S [33, 61])]) (x := [33, 61]) rfl (ARd.cons (A := RS) (c := [(S [60, 61])]) (x := [60, 61]) rfl (ARd.cons (A := RS) (c := [(S [62, 61])]) (x := [62, 61]) rfl (ARd.cons (A := RS) (c := [(S [60])]) (x := [60]) rfl (ARd.cons (A := RS) (c := [(S [62])]) (x := [62]) rfl (ARd.cons (A := RS) (c := [(S [61])]) (x := [61]) rfl (ARd.cons (A := RS) (c := [(S [43])]) (x := [43]) rfl (ARd.cons (A := RS) (c := [(S [45])]) (x := [45]) rfl (ARd.cons (A := RS) (c := [(S [42])]) (x := [42]) rfl (ARd.cons (A := RS) (c := [(S [40])]) (x := [40]) rfl (ARd.cons (A := RS) (c := [(S [41])]) (x := [41]) rfl (ARd.cons (A := RS) (c := [(S [123])]) (x := [123]) rfl (ARd.cons (A := RS) (c := [(S [125])]) (x := [125]) rfl (ARd.cons (A := RS) (c := [(S [59])]) (x := [59]) rfl (ARd.cons (A := RS) (c := [(S [44])]) (x := [44]) rfl (ARd.cons (A := RS) (c := [(S [58])]) (x := [58]) rfl (ARd.cons (A := RS) (c := [(S [38])]) (x := [38]) rfl (ARd.cons (A := RS) (c := [(S [124])]) (x := [124]) rfl (ARd.cons (A := RS) (c := [(S [33])]) (x := [33]) rfl ARd.nil)))))))))))))))))))))) rfl ?_
 intro b5 w6 hs
 replace hs := Sat.n1 (Γ := Φ) hs rfl
 refine W ?_
 refine WL_nil <| At_then ?_
 refine WC_ret ?_
 refine At_r1 rfl (ResIs.t rfl) ?_
 cases hm
 exact ⟨(some ⟨b5, 0, none⟩, 22, 22), [b5], rfl, (hs.re 1 [0] rfl)⟩
end Go.Proofs.YtdhgpnejphlfpaaDoor
namespace Go.Proofs.YtdhgpnejphlfpaaDoor
open Go.Proofs
theorem scrutinyref12_Tokens_ok {Φ : Ctx} {w : World} {text : Str} {r : (Q3 × Int × Int)} (hs : Sat (Φ) w) (hm : scrutinyref12_Tokens text = some r) :
  CallsR Tryd.prog 10 [(S text)] w (fun v w' => ∃ v3 : SLV, ∃ R4 : List Nat, v = (.tuple #[(sl v3), (.int .i64 r.2.1), (.int .i64 r.2.2)]) ∧ Sat (osl Q1 28 (sl v3) r.1 R4 :: Φ) w') := by
 refine CallsX_enter Tryd.func10 rfl Tryd.ntmps10 rfl ?_
 unfold scrutinyref12_Tokens at hm
 refine WC_seq <| WC_region ?_
 refine Wo (Run_assign Opd.c) rfl <| Wo (Run_assign Opd.c) rfl <| Wo (Run_assign Opd.c) rfl <| ?_
 refine WL_nil <| At_then <| WC_seq <| WC_seq <| WC_region ?_
 refine Wo (Run_move (O rfl)) rfl <| Wo (Run_lenS Tryd.underlying9 (O rfl)) rfl <| Wo (Run_gtI (O rfl) Opd.c) rfl <| ?_
 refine WL_nil <| At_then ?_
 refine WC_cond (O rfl) (fun hc7 => ?_) (fun hc7 => ?_)
 ·
  replace hm := bif_t hc7 hm
  refine WC_seq <| WC_region ?_
  refine Wo (Run_assign Opd.c) rfl <| Wo (Run_assign Opd.c) rfl <| Wo (Run_assign Opd.c) rfl <| ?_
  refine WL_nil <| At_then ?_
  refine WC_ret ?_
  refine At_then_ret <| ?_
  refine At_r3 rfl (ResIs.t rfl) (ResIs.t rfl) (ResIs.t rfl) ?_
  replace hs := hs.addNil Q1 28
  cases hm
  exact ⟨(none, 0, 0), [], rfl, (hs.re 1 [0] rfl)⟩
 ·
  replace hm := bif_f hc7 hm
  refine WC_skip ?_
  refine At_then <| WC_seq <| WC_region ?_
  refine Wo (Run_assign Opd.c) rfl <| ?_
  refine WL_nil <| At_then <| WC_seq <| WC_region ?_
  refine Wo (Run_assign Opd.c) rfl <| ?_
  refine WL_nil <| At_then <| WC_seq ?_
  refine WC_block ?_
  replace hs := hs.addNil Q1 28
  refine WC_loop (σ := Q3 × Int) (γ := SLV × List Nat) (F := (scrutinyref12_Tokens_L1 text)) (N := FUEL) (s0 := ([], 0)) (r := r) (fun ⟨out9, i12⟩ ⟨v10, R11⟩ w8 => Sat (osl Q1 28 (sl v10) out9 R11 :: Φ) w8) (fun ⟨out9, i12⟩ ⟨v10, R11⟩ => [(0, true, (S text)), (5, true, (sl v10)), (6, true, (.int .i64 i12))]) hm ((none, 0, 0), []) (hs.re 1 [0] rfl) rfl ?_
  rintro again13 ⟨out9, i12⟩ ⟨v10, R11⟩ w8 hm hs
  unfold scrutinyref12_Tokens_L1 at hm
  dsimp only at hm
  refine WC_seq <| WC_seq <| WC_region ?_
  refine Wo (Run_move (O rfl)) rfl <| Wo (Run_move (O rfl)) rfl <| Wo (Run_lenS Tryd.underlying9 (O rfl)) rfl <| Wo (Run_ltI (O rfl) (O rfl)) rfl <| ?_
  refine WL_nil <| At_then ?_
  refine WC_cond (O rfl) (fun hc14 => ?_) (fun hc14 => ?_)
  ·
   replace hm := bif_t hc14 hm
   refine WC_skip ?_
   refine At_then ?_
   refine WC_block ?_
   refine WC_seq <| WC_region ?_
   refine Wo (Run_move (O rfl)) rfl <| Wo (Run_move (O rfl)) rfl <| ?_
   obtain ⟨k15, hm⟩ := chk_some hm
   refine Wo (Run_idxS Tryd.underlying9 (O rfl) (O rfl) (fun _ => k15)) rfl <| ?_
   obtain ⟨r16, hr17, hm⟩ := bind_some' hm
   refine WL_call (f := 20) (first := []) (cap := []) (xs := [(.tmp 22)]) (vs := [(.int .u8 (byteAt text i12))]) (args := [(.int .u8 (byteAt text i12))]) Tryd.call20 Opd.f (.cons (O rfl) .nil) rfl rfl (scrutinyref12_kind_ok (hs.re 1 [0] rfl) hr17) ?_
   rintro _ w18 ⟨rfl, hs⟩
   replace hs := Sat.n1 (Γ := Φ) hs rfl
   refine Wo (Run_assign (O rfl)) rfl <| ?_
   refine WL_nil <| At_then <| WC_seq <| WC_seq <| WC_region ?_
   refine Wo (Run_move (O rfl)) rfl <| Wo (Run_eqI (O rfl) Opd.c) rfl <| ?_
   refine WL_nil <| At_then ?_
   refine WC_cond (O rfl) (fun hc19 => ?_) (fun hc19 => ?_)
   ·
    replace hm := bif_t hc19 hm
    refine WC_seq <| WC_region ?_
    refine Wo (Run_move (O rfl)) rfl <| Wo (Run_add (O rfl) Opd.c) rfl <| Wo (Run_assign (O rfl)) rfl <| ?_
    refine WL_nil <| At_then ?_
    refine WC_exit ?_
    refine At_then_exit <| At_blk_here <| ?_
    exact At_again (out9, (IntKind.i64.wrap (i12 + 1))) (v10, R11) hm (hs.re 1 [0] rfl) rfl
   ·
    replace hm := bif_f hc19 hm
    refine WC_skip ?_
    refine At_then <| WC_seq <| WC_seq <| WC_region ?_
    refine Wo (Run_move (O rfl)) rfl <| Wo (Run_move (O rfl)) rfl <| ?_
    obtain ⟨k20, hm⟩ := chk_some hm
    refine Wo (Run_idxS Tryd.underlying9 (O rfl) (O rfl) (fun _ => k20)) rfl <| Wo (Run_eqI (O rfl) Opd.c) rfl <| ?_
    refine WL_nil <| At_then ?_
    refine WC_cond (O rfl) (fun hc21 => ?_) (fun hc21 => ?_)
    ·
     replace hm := bif_t hc21 hm
     refine WC_seq ?_
     refine WC_block ?_
     refine WC_loop (σ := Int) (γ := Unit) (F := (scrutinyref12_Tokens_L2 text out9 again13)) (N := FUEL) (s0 := i12) (r := r) (fun i23 (_ : Unit) w22 => Sat (osl Q1 28 (sl v10) out9 R11 :: Φ) w22) (fun i23 (_ : Unit) => [(0, true, (S text)), (5, true, (sl v10)), (6, true, (.int .i64 i23))]) hm () (hs.re 1 [0] rfl) rfl ?_
     rintro again24 i23 _ w22 hm hs
     unfold scrutinyref12_Tokens_L2 at hm
     refine WC_seq <| WC_seq <| WC_region ?_
     refine Wo (Run_move (O rfl)) rfl <| Wo (Run_move (O rfl)) rfl <| Wo (Run_lenS Tryd.underlying9 (O rfl)) rfl <| ?_
     obtain ⟨b25, e26, hm⟩ := letv_some hm
     refine Wo (Run.eqB (Run_ltI (O rfl) (O rfl)) e26) rfl <| Wo (Run_move (O rfl)) rfl <| WL_opG rfl rfl rfl rfl guard_pos (Run_move (O rfl)) rfl rfl rfl <| WL_opG rfl rfl rfl rfl guard_pos (Run_move (O rfl)) rfl rfl rfl <| ?_
     obtain ⟨k27, hm⟩ := chkG_some hm
     refine WL_opG rfl rfl rfl rfl guard_pos (Run_idxS Tryd.underlying9 (Opd.g rfl id) (Opd.g rfl id) k27) rfl rfl rfl <| ?_
     obtain ⟨b28, e29, hm⟩ := letv_some hm
     refine WL_opG rfl rfl rfl rfl guard_pos (Run.eqB (Run_neI (Opd.g rfl id) Opd.c) e29) rfl rfl rfl <| ?_
     obtain ⟨b30, e31, hm⟩ := letv_some hm
     refine Wo (Run.eqB (Run_and (O rfl) (Opd.g rfl id)) e31) rfl <| ?_
     refine WL_nil <| At_then ?_
     refine WC_cond (O rfl) (fun hc32 => ?_) (fun hc32 => ?_)
     ·
      replace hm := bif_t hc32 hm
      refine WC_skip ?_
      refine At_then ?_
      refine WC_block ?_
      refine WC_region ?_
      refine Wo (Run_move (O rfl)) rfl <| Wo (Run_add (O rfl) Opd.c) rfl <| Wo (Run_assign (O rfl)) rfl <| ?_
      refine WL_nil ?_
      refine At_blk_normal ?_
      exact At_again (IntKind.i64.wrap (i23 + 1)) () hm (hs.re 1 [0] rfl) rfl
     ·
      replace hm := bif_f hc32 hm
      refine WC_exit ?_
      refine At_then_exit <| At_then_exit <| At_blk_here <| ?_
      refine At_then ?_
      refine WC_exit ?_
      refine At_then_exit <| At_blk_here <| ?_
      exact At_again (out9, i23) (v10, R11) hm (hs.re 1 [0] rfl) rfl
    ·
     replace hm := bif_f hc21 hm
     refine WC_skip ?_
     refine At_then <| WC_seq <| WC_region ?_
     refine Wo (Run_move (O rfl)) rfl <| Wo (Run_assign (O rfl)) rfl <| ?_
     refine WL_nil <| At_then <| WC_seq <| WC_seq <| WC_region ?_
     refine Wo (Run_move (O rfl)) rfl <| Wo (Run_eqI (O rfl) Opd.c) rfl <| ?_
     refine WL_nil <| At_then ?_
     refine WC_cond (O rfl) (fun hc33 => ?_) (fun hc33 => ?_)
     ·
      replace hm := bif_t hc33 hm
      refine WC_seq ?_
      refine WC_block ?_
      refine WC_loop (σ := Int) (γ := Unit) (F := (scrutinyref12_Tokens_L3 text out9 i12 again13)) (N := FUEL) (s0 := i12) (r := r) (fun i35 (_ : Unit) w34 => Sat (osl Q1 28 (sl v10) out9 R11 :: Φ) w34) (fun i35 (_ : Unit) => [(0, true, (S text)), (5, true, (sl v10)), (6, true, (.int .i64 i35)), (8, true, (.int .i64 i12))]) hm () (hs.re 1 [0] rfl) rfl ?_
      rintro again36 i35 _ w34 hm hs
      unfold scrutinyref12_Tokens_L3 at hm
      refine WC_seq <| WC_seq <| WC_region ?_
      refine Wo (Run_move (O rfl)) rfl <| Wo (Run_move (O rfl)) rfl <| Wo (Run_lenS Tryd.underlying9 (O rfl)) rfl <| ?_
      obtain ⟨b37, e38, hm⟩ := letv_some hm
      refine Wo (Run.eqB (Run_ltI (O rfl) (O rfl)) e38) rfl <| Wo (Run_move (O rfl)) rfl <| WL_opG rfl rfl rfl rfl guard_pos (Run_move (O rfl)) rfl rfl rfl <| WL_opG rfl rfl rfl rfl guard_pos (Run_move (O rfl)) rfl rfl rfl <| ?_
      obtain ⟨k39, hm⟩ := chkG_some hm
      refine WL_opG rfl rfl rfl rfl guard_pos (Run_idxS Tryd.underlying9 (Opd.g rfl id) (Opd.g rfl id) k39) rfl rfl rfl <| ?_
      obtain ⟨r40, hr41, -, hm⟩ := callG_some hm
      refine WL_callG rfl rfl rfl guard_pos (f := 20) (first := []) (cap := []) (xs := [(.tmp 54)]) (vs := [(.int .u8 (byteAt text i35))]) (args := [(.int .u8 (byteAt text i35))]) Tryd.call20 Opd.f (.cons (Opd.g rfl id) .nil) rfl rfl (fun hg => scrutinyref12_kind_ok (hs.re 1 [0] rfl) (hr41 hg)) ?_
      intro v43 w42 hv44 hz45
      replace hs := Sat.ofG (fun hg => (hv44 hg).2.re 1 [0] rfl) hz45 hs
      refine WL_sub1 (v := (.int .i64 r40)) (fun hg => (hv44 hg).1) ?_
      replace hs := Sat.n1 (Γ := Φ) hs rfl
      obtain ⟨b46, e47, hm⟩ := letv_some hm
      refine WL_opG rfl rfl rfl rfl guard_pos (Run.eqB (Run_eqI (Opd.g rfl id) Opd.c) e47) rfl rfl rfl <| WL_opG rfl rfl rfl rfl guard_pos (Run_move (Opd.g rfl id)) rfl rfl rfl <| WL_opG rfl rfl rfl rfl guard_neg' (Run_move (O rfl)) rfl rfl rfl <| WL_opG rfl rfl rfl rfl guard_neg' (Run_move (O rfl)) rfl rfl rfl <| ?_
      obtain ⟨k48, hm⟩ := chkG_some hm
      refine WL_opG rfl rfl rfl rfl guard_neg' (Run_idxS Tryd.underlying9 (Opd.g rfl id) (Opd.g rfl id) k48) rfl rfl rfl <| ?_
      obtain ⟨r49, hr50, -, hm⟩ := callG_some hm
      refine WL_callG rfl rfl rfl guard_neg' (f := 20) (first := []) (cap := []) (xs := [(.tmp 60)]) (vs := [(.int .u8 (byteAt text i35))]) (args := [(.int .u8 (byteAt text i35))]) Tryd.call20 Opd.f (.cons (Opd.g rfl id) .nil) rfl rfl (fun hg => scrutinyref12_kind_ok (hs.re 1 [0] rfl) (hr50 hg)) ?_
      intro v52 w51 hv53 hz54
      replace hs := Sat.ofG (fun hg => (hv53 hg).2.re 1 [0] rfl) hz54 hs
      refine WL_sub1 (v := (.int .i64 r49)) (fun hg => (hv53 hg).1) ?_
      replace hs := Sat.n1 (Γ := Φ) hs rfl
      obtain ⟨b55, e56, hm⟩ := letv_some hm
      refine WL_opG rfl rfl rfl rfl guard_neg' (Run.eqB (Run_eqI (Opd.g rfl id) Opd.c) e56) rfl rfl rfl <| ?_
      obtain ⟨b57, e58, hm⟩ := letv_some hm
      refine WL_opG rfl rfl rfl rfl guard_pos (Run.eqB (Run_or (Opd.g rfl id) (Opd.g rfl id)) e58) rfl rfl rfl <| ?_
      obtain ⟨b59, e60, hm⟩ := letv_some hm
      refine Wo (Run.eqB (Run_and (O rfl) (Opd.g rfl id)) e60) rfl <| ?_
      refine WL_nil <| At_then ?_
      refine WC_cond (O rfl) (fun hc61 => ?_) (fun hc61 => ?_)
      ·
       replace hm := bif_t hc61 hm
       refine WC_skip ?_
       refine At_then ?_
       refine WC_block ?_
       refine WC_region ?_
       refine Wo (Run_move (O rfl)) rfl <| Wo (Run_add (O rfl) Opd.c) rfl <| Wo (Run_assign (O rfl)) rfl <| ?_
       refine WL_nil ?_
       refine At_blk_normal ?_
       exact At_again (IntKind.i64.wrap (i35 + 1)) () hm (hs.re 1 [0] rfl) rfl
      ·
       replace hm := bif_f hc61 hm
       refine WC_exit ?_
       refine At_then_exit <| At_then_exit <| At_blk_here <| ?_
       refine At_then <| WC_seq <| WC_seq <| WC_region ?_
       refine Wo (Run_move (O rfl)) rfl <| Wo (Run_move (O rfl)) rfl <| Wo (Run_sub (O rfl) (O rfl)) rfl <| Wo (Run_gtI (O rfl) Opd.c) rfl <| ?_
       refine WL_nil <| At_then ?_
       refine WC_cond (O rfl) (fun hc62 => ?_) (fun hc62 => ?_)
       ·
        replace hm := bif_t hc62 hm
        refine WC_seq <| WC_region ?_
        refine Wo (Run_move (O rfl)) rfl <| Wo (Run_assign Opd.c) rfl <| Wo (Run_assign Opd.c) rfl <| Wo (Run_assign (O rfl)) rfl <| ?_
        refine WL_nil <| At_then ?_
        refine WC_ret ?_
        refine At_then_ret <| At_then_ret <| At_blk_ret <| At_then_ret <| At_blk_ret <| At_then_ret <| ?_
        refine At_r3 rfl (ResIs.t rfl) (ResIs.t rfl) (ResIs.t rfl) ?_
        replace hs := hs.addNil Q1 28
        cases hm
        exact ⟨(none, 0, 0), [], rfl, (hs.re 2 [0] rfl)⟩
       ·
        replace hm := bif_f hc62 hm
        refine WC_skip ?_
        refine At_then <| WC_seq <| WC_region ?_
        refine Wo (Run_move (O rfl)) rfl <| Wo (Run_move (O rfl)) rfl <| Wo (Run_move (O rfl)) rfl <| Wo (Run_move (O rfl)) rfl <| ?_
        obtain ⟨k63, hm⟩ := chk_some hm
        refine Wo (Run_cutS (lo := (some (.tmp 74))) (hi := (some (.tmp 75))) Tryd.underlying9 (O rfl) ⟨_, (O rfl)⟩ ⟨_, (O rfl)⟩ (fun _ => k63)) rfl <| Wo (Run_move (O rfl)) rfl <| Wo (Run_build (parts := [(0, (.const (.int .i64 1))), (1, (.tmp 76)), (3, (.tmp 77))]) (v := (.agg #[(.int .i64 1), (S (cut text i12 i35)), (.int .i64 0), (.int .i64 i12)])) (.cons Opd.c (.cons (O rfl) (.cons (O rfl) .nil))) (fun _ => by kernel_rfl)) rfl <| ?_
        refine WS_lit (A := Q1) (xs := [(1, (cut text i12 i35), 0, i12)]) (zs := [(.int .i64 0), (S []), (.int .i64 0), (.int .i64 0)]) (cells := [(.int .i64 1), (S (cut text i12 i35)), (.int .i64 0), (.int .i64 i12)]) (parts := [(0, (.tmp 78))]) hs Tryd.underlying23 ti28 rfl rfl rfl (.cons (O rfl) .nil) (by kernel_rfl) rfl (ARd.cons (A := Q1) (c := [(.int .i64 1), (S (cut text i12 i35)), (.int .i64 0), (.int .i64 i12)]) (x := (1, (cut text i12 i35), 0, i12)) ⟨_, _, rfl, rfl, ⟨_, _, rfl, rfl, ⟨_, _, rfl, rfl, rfl⟩⟩⟩ ARd.nil) rfl ?_
        intro b64 w65 hs
        replace hs := Sat.n2 (Γ := Φ) hs rfl
        replace hs := hs.freeze (i := 0) rfl
        obtain ⟨k66, hm⟩ := chk_some hm
        refine WS_append (A := Q1) hs 1 rfl Tryd.underlying23 ti28 rfl rfl (O rfl) (O rfl) (hs.sl (i := 0) rfl) k66 rfl ?_
        intro v67 R68 w69 hs
        replace hs := Sat.n2 (Γ := Φ) hs rfl
        refine Wo (Run_assign (O rfl)) rfl <| ?_
        refine WL_nil <| At_then ?_
        refine WC_exit ?_
        refine At_then_exit <| At_blk_here <| ?_
        exact At_again ((out9 ++ ([(1, (cut text i12 i35), 0, i12)] : List (Int × Str × Int × Int))), i35) (v67, R68) hm (hs.re 2 [1] rfl) rfl
     ·
      replace hm := bif_f hc33 hm
      refine WC_skip ?_
      refine At_then <| WC_seq <| WC_seq <| WC_region ?_
      refine Wo (Run_move (O rfl)) rfl <| Wo (Run_eqI (O rfl) Opd.c) rfl <| ?_
      refine WL_nil <| At_then ?_
      refine WC_cond (O rfl) (fun hc70 => ?_) (fun hc70 => ?_)
      ·
       replace hm := bif_t hc70 hm
       refine WC_seq <| WC_region ?_
       refine Wo (Run_assign Opd.c) rfl <| ?_
       refine WL_nil <| At_then <| WC_seq ?_
       refine WC_block ?_
       refine WC_loop (σ := Int × Int) (γ := Unit) (F := (scrutinyref12_Tokens_L4 text out9 i12 again13)) (N := FUEL) (s0 := (i12, 0)) (r := r) (fun ⟨i72, n73⟩ (_ : Unit) w71 => Sat (osl Q1 28 (sl v10) out9 R11 :: Φ) w71) (fun ⟨i72, n73⟩ (_ : Unit) => [(0, true, (S text)), (5, true, (sl v10)), (6, true, (.int .i64 i72)), (8, true, (.int .i64 i12)), (9, true, (.int .i64 n73))]) hm () (hs.re 1 [0] rfl) rfl ?_
       rintro again74 ⟨i72, n73⟩ _ w71 hm hs
       unfold scrutinyref12_Tokens_L4 at hm
       dsimp only at hm
       refine WC_seq <| WC_seq <| WC_region ?_
       refine Wo (Run_move (O rfl)) rfl <| Wo (Run_move (O rfl)) rfl <| Wo (Run_lenS Tryd.underlying9 (O rfl)) rfl <| ?_
       obtain ⟨b75, e76, hm⟩ := letv_some hm
       refine Wo (Run.eqB (Run_ltI (O rfl) (O rfl)) e76) rfl <| Wo (Run_move (O rfl)) rfl <| WL_opG rfl rfl rfl rfl guard_pos (Run_move (O rfl)) rfl rfl rfl <| WL_opG rfl rfl rfl rfl guard_pos (Run_move (O rfl)) rfl rfl rfl <| ?_
       obtain ⟨k77, hm⟩ := chkG_some hm
       refine WL_opG rfl rfl rfl rfl guard_pos (Run_idxS Tryd.underlying9 (Opd.g rfl id) (Opd.g rfl id) k77) rfl rfl rfl <| ?_
       obtain ⟨r78, hr79, -, hm⟩ := callG_some hm
       refine WL_callG rfl rfl rfl guard_pos (f := 20) (first := []) (cap := []) (xs := [(.tmp 90)]) (vs := [(.int .u8 (byteAt text i72))]) (args := [(.int .u8 (byteAt text i72))]) Tryd.call20 Opd.f (.cons (Opd.g rfl id) .nil) rfl rfl (fun hg => scrutinyref12_kind_ok (hs.re 1 [0] rfl) (hr79 hg)) ?_
       intro v81 w80 hv82 hz83
       replace hs := Sat.ofG (fun hg => (hv82 hg).2.re 1 [0] rfl) hz83 hs
       refine WL_sub1 (v := (.int .i64 r78)) (fun hg => (hv82 hg).1) ?_
       replace hs := Sat.n1 (Γ := Φ) hs rfl
       obtain ⟨b84, e85, hm⟩ := letv_some hm
       refine WL_opG rfl rfl rfl rfl guard_pos (Run.eqB (Run_eqI (Opd.g rfl id) Opd.c) e85) rfl rfl rfl <| ?_
       obtain ⟨b86, e87, hm⟩ := letv_some hm
       refine Wo (Run.eqB (Run_and (O rfl) (Opd.g rfl id)) e87) rfl <| ?_
       refine WL_nil <| At_then ?_
       refine WC_cond (O rfl) (fun hc88 => ?_) (fun hc88 => ?_)
       ·
        replace hm := bif_t hc88 hm
        refine WC_skip ?_
        refine At_then ?_
        refine WC_block ?_
        refine WC_seq <| WC_seq <| WC_region ?_
        refine Wo (Run_move (O rfl)) rfl <| Wo (Run_leI (O rfl) Opd.c) rfl <| ?_
        refine WL_nil <| At_then ?_
        refine WC_cond (O rfl) (fun hc89 => ?_) (fun hc89 => ?_)
        ·
         replace hm := bif_t hc89 hm
         refine WC_region ?_
         refine Wo (Run_move (O rfl)) rfl <| Wo (Run_mul Opd.c (O rfl)) rfl <| Wo (Run_move (O rfl)) rfl <| Wo (Run_move (O rfl)) rfl <| ?_
         obtain ⟨k90, hm⟩ := chk_some hm
         refine Wo (Run_idxS Tryd.underlying9 (O rfl) (O rfl) (fun _ => k90)) rfl <| Wo (Run_conv Tryd.underlying5 Tryd.underlying3 (O rfl)) rfl <| Wo (Run_add (O rfl) (O rfl)) rfl <| Wo (Run_sub (O rfl) Opd.c) rfl <| Wo (Run_assign (O rfl)) rfl <| ?_
         refine WL_nil <| At_then <| WC_region ?_
         refine Wo (Run_move (O rfl)) rfl <| Wo (Run_add (O rfl) Opd.c) rfl <| Wo (Run_assign (O rfl)) rfl <| ?_
         refine WL_nil ?_
         refine At_blk_normal ?_
         exact At_again ((IntKind.i64.wrap (i72 + 1)), (IntKind.i64.wrap ((IntKind.i64.wrap ((IntKind.i64.wrap (10 * n73)) + (IntKind.i64.wrap (byteAt text i72)))) - 48))) () hm (hs.re 1 [0] rfl) rfl
        ·
         replace hm := bif_f hc89 hm
         refine WC_skip ?_
         refine At_then <| WC_region ?_
         refine Wo (Run_move (O rfl)) rfl <| Wo (Run_add (O rfl) Opd.c) rfl <| Wo (Run_assign (O rfl)) rfl <| ?_
         refine WL_nil ?_
         refine At_blk_normal ?_
         exact At_again ((IntKind.i64.wrap (i72 + 1)), n73) () hm (hs.re 1 [0] rfl) rfl
       ·
        replace hm := bif_f hc88 hm
        refine WC_exit ?_
        refine At_then_exit <| At_then_exit <| At_blk_here <| ?_
        refine At_then <| WC_seq <| WC_seq <| WC_region ?_
        refine Wo (Run_move (O rfl)) rfl <| Wo (Run_gtI (O rfl) Opd.c) rfl <| ?_
        refine WL_nil <| At_then ?_
        refine WC_cond (O rfl) (fun hc91 => ?_) (fun hc91 => ?_)
        ·
         replace hm := bif_t hc91 hm
         refine WC_seq <| WC_region ?_
         refine Wo (Run_move (O rfl)) rfl <| Wo (Run_assign Opd.c) rfl <| Wo (Run_assign Opd.c) rfl <| Wo (Run_assign (O rfl)) rfl <| ?_
         refine WL_nil <| At_then ?_
         refine WC_ret ?_
         refine At_then_ret <| At_then_ret <| At_blk_ret <| At_then_ret <| At_blk_ret <| At_then_ret <| ?_
         refine At_r3 rfl (ResIs.t rfl) (ResIs.t rfl) (ResIs.t rfl) ?_
         replace hs := hs.addNil Q1 28
         cases hm
         exact ⟨(none, 0, 0), [], rfl, (hs.re 2 [0] rfl)⟩
        ·
         replace hm := bif_f hc91 hm
         refine WC_skip ?_
         refine At_then <| WC_seq <| WC_region ?_
         refine Wo (Run_move (O rfl)) rfl <| Wo (Run_move (O rfl)) rfl <| Wo (Run_move (O rfl)) rfl <| Wo (Run_move (O rfl)) rfl <| ?_
         obtain ⟨k92, hm⟩ := chk_some hm
         refine Wo (Run_cutS (lo := (some (.tmp 111))) (hi := (some (.tmp 112))) Tryd.underlying9 (O rfl) ⟨_, (O rfl)⟩ ⟨_, (O rfl)⟩ (fun _ => k92)) rfl <| Wo (Run_move (O rfl)) rfl <| Wo (Run_move (O rfl)) rfl <| Wo (Run_build (parts := [(0, (.const (.int .i64 2))), (1, (.tmp 113)), (2, (.tmp 114)), (3, (.tmp 115))]) (v := (.agg #[(.int .i64 2), (S (cut text i12 i72)), (.int .i64 n73), (.int .i64 i12)])) (.cons Opd.c (.cons (O rfl) (.cons (O rfl) (.cons (O rfl) .nil)))) (fun _ => by kernel_rfl)) rfl <| ?_
         refine WS_lit (A := Q1) (xs := [(2, (cut text i12 i72), n73, i12)]) (zs := [(.int .i64 0), (S []), (.int .i64 0), (.int .i64 0)]) (cells := [(.int .i64 2), (S (cut text i12 i72)), (.int .i64 n73), (.int .i64 i12)]) (parts := [(0, (.tmp 116))]) hs Tryd.underlying23 ti28 rfl rfl rfl (.cons (O rfl) .nil) (by kernel_rfl) rfl (ARd.cons (A := Q1) (c := [(.int .i64 2), (S (cut text i12 i72)), (.int .i64 n73), (.int .i64 i12)]) (x := (2, (cut text i12 i72), n73, i12)) ⟨_, _, rfl, rfl, ⟨_, _, rfl, rfl, ⟨_, _, rfl, rfl, rfl⟩⟩⟩ ARd.nil) rfl ?_
         intro b93 w94 hs
         replace hs := Sat.n2 (Γ := Φ) hs rfl
         replace hs := hs.freeze (i := 0) rfl
         obtain ⟨k95, hm⟩ := chk_some hm
         refine WS_append (A := Q1) hs 1 rfl Tryd.underlying23 ti28 rfl rfl (O rfl) (O rfl) (hs.sl (i := 0) rfl) k95 rfl ?_
         intro v96 R97 w98 hs
         replace hs := Sat.n2 (Γ := Φ) hs rfl
         refine Wo (Run_assign (O rfl)) rfl <| ?_
         refine WL_nil <| At_then ?_
         refine WC_exit ?_
         refine At_then_exit <| At_blk_here <| ?_
         exact At_again ((out9 ++ ([(2, (cut text i12 i72), n73, i12)] : List (Int × Str × Int × Int))), i72) (v96, R97) hm (hs.re 2 [1] rfl) rfl
      ·
       replace hm := bif_f hc70 hm
       refine WC_skip ?_
       refine At_then <| WC_seq <| WC_region ?_
       obtain ⟨r99, hr100, hm⟩ := bind_some' hm
       refine WL_call (f := 21) (first := []) (cap := []) (xs := []) (vs := []) (args := []) Tryd.call21 Opd.f .nil rfl rfl (scrutinyref12_Signs_ok (hs.re 1 [0] rfl) hr100) ?_
       rintro _ w103 ⟨v101, R102, rfl, hs⟩
       replace hs := Sat.n2 (Γ := Φ) hs rfl
       refine Wo (Run_assign (O rfl)) rfl <| ?_
       refine WL_nil <| At_then <| WC_seq <| WC_region ?_
       refine Wo (Run_assign Opd.c) rfl <| ?_
       refine WL_nil <| At_then <| WC_seq <| WC_seq <| WC_region ?_
       refine Wo (Run_assign Opd.c) rfl <| ?_
       refine WL_nil <| At_then ?_
       refine WC_block ?_
       refine WC_loop (σ := Str × Int) (γ := Unit) (F := (scrutinyref12_Tokens_L5 text out9 i12 again13 r99)) (N := FUEL) (s0 := ([], 0)) (r := r) (fun ⟨s105, j106⟩ (_ : Unit) w104 => Sat (osl Q1 28 (sl v10) out9 R11 :: osl RS 9 (sl v101) r99 R102 :: Φ) w104) (fun ⟨s105, j106⟩ (_ : Unit) => [(0, true, (S text)), (5, true, (sl v10)), (8, true, (.int .i64 i12)), (10, true, (sl v101)), (11, true, (S s105)), (12, true, (.int .i64 j106))]) hm () (hs.re 2 [1, 0] rfl) rfl ?_
       rintro again107 ⟨s105, j106⟩ _ w104 hm hs
       unfold scrutinyref12_Tokens_L5 at hm
       dsimp only at hm
       refine WC_seq <| WC_seq <| WC_region ?_
       refine Wo (Run_move (O rfl)) rfl <| Wo (Run_move (O rfl)) rfl <| Wo (Run_lenSlG Tryd.underlying26 (O rfl) (fun _ => (hs.own (i := 1) rfl).len)) rfl <| ?_
       obtain ⟨b108, e109, hm⟩ := letv_some hm
       refine Wo (Run.eqB (Run_ltI (O rfl) (O rfl)) e109) rfl <| Wo (Run_move (O rfl)) rfl <| WL_opG rfl rfl rfl rfl guard_pos (Run_move (O rfl)) rfl rfl rfl <| ?_
       obtain ⟨b110, e111, hm⟩ := letv_some hm
       refine WL_opG rfl rfl rfl rfl guard_pos (Run.eqB (Run_eqS (Opd.g rfl id) Opd.c) e111) rfl rfl rfl <| ?_
       obtain ⟨b112, e113, hm⟩ := letv_some hm
       refine Wo (Run.eqB (Run_and (O rfl) (Opd.g rfl id)) e113) rfl <| ?_
       refine WL_nil <| At_then ?_
       refine WC_cond (O rfl) (fun hc114 => ?_) (fun hc114 => ?_)
       ·
        replace hm := bif_t hc114 hm
        refine WC_skip ?_
        refine At_then <| WC_seq ?_
        refine WC_block ?_
        refine WC_seq ?_
        refine WC_region_mixed [0, 0, 3, 4, 8, 0, 32, 0, 192, 272, 512, 1024, 1024, 1024, 1024, 1024, 50176, 66560, 132096, 271360, 531456, 1024, 1024, 6292480, 8389632, 17826816, 33555456] (.q 0 0 (.q 1 1 (.q 2 3 (.q 3 7 (.q 4 15 (.q 5 31 (.q 6 63 (.q 7 127 (.q 8 255 (.q 9 511 (.q 10 1023 (.q 11 2047 (.q 12 4095 (.q 13 8191 (.q 14 16383 (.q 15 32767 (.q 16 65535 (.q 17 131071 (.q 18 262143 (.q 19 524287 (.q 20 1048575 (.q 21 2097151 (.q 22 4194303 (.q 23 8388607 (.q 24 16777215 (.q 25 33554431 (.q 26 67108863 .nil))))))))))))))))))))))))))) (by kernel_rfl) (by kernel_rfl) ?_
        intro w115 hx116
        replace hs := hs.ext hx116
        refine WD_pure (fun _ => (Run_move (O rfl))) rfl rfl rfl rfl <| WD_pure (fun _ => (Run_move (O rfl))) rfl rfl rfl rfl <| ?_
        obtain ⟨e117, he118, hm⟩ := bind_some' hm
        refine WD_pure (fun _ => (Run_idxAddr (p := (elA (sl v101) j106 1)) Tryd.underlying26 ti9 (O rfl) (O rfl) (fun hg => (Own.atA (A := RS) (v := (sl v101)) (hs.own (i := 1) rfl) he118).1))) rfl rfl rfl rfl <| WD_op (fun w => true = true → CellsAt w (elA (sl v101) j106 1) [(S e117)]) (fun hg => (Own.cellsF (A := RS) (v := (sl v101)) (hs.own (i := 1) rfl) he118 (fun _ h => openT9 h)).sub 0 rfl) (fun _ hJ => (Run_load1 (v := (S e117)) Tryd.underlying9 rfl (O rfl) hJ)) rfl rfl rfl rfl <| WD_pure (fun _ => (Run_lenS Tryd.underlying9 (O rfl))) rfl rfl rfl rfl <| WD_pure (fun _ => (Run_move (O rfl))) rfl rfl rfl rfl <| WD_pure (fun _ => (Run_lenS Tryd.underlying9 (O rfl))) rfl rfl rfl rfl <| WD_pure (fun _ => (Run_move (O rfl))) rfl rfl rfl rfl <| WD_pure (fun _ => (Run_sub (O rfl) (O rfl))) rfl rfl rfl rfl <| ?_
        obtain ⟨b119, e120, hm⟩ := letv_some hm
        refine WD_pure (fun _ => (Run.eqB (Run_leI (O rfl) (O rfl)) e120)) rfl rfl rfl rfl <| WD_pure (fun _ => (Run_move (O rfl))) rfl rfl rfl rfl <| WD_pureG rfl rfl rfl rfl guard_pos (fun _ => (Run_move (O rfl))) rfl rfl rfl <| WD_pureG rfl rfl rfl rfl guard_pos (fun _ => (Run_move (O rfl))) rfl rfl rfl <| WD_pureG rfl rfl rfl rfl guard_pos (fun _ => (Run_move (O rfl))) rfl rfl rfl <| WD_pureG rfl rfl rfl rfl guard_pos (fun _ => (Run_move (O rfl))) rfl rfl rfl <| WD_pureG rfl rfl rfl rfl guard_pos (fun _ => (Run_move (O rfl))) rfl rfl rfl <| ?_
        obtain ⟨e121, he122, -, hm⟩ := callG_some hm
        refine WD_pureG rfl rfl rfl rfl guard_pos (fun _ => (Run_idxAddr (p := (elA (sl v101) j106 1)) Tryd.underlying26 ti9 (Opd.g rfl id) (Opd.g rfl id) (fun hg => (Own.atA (A := RS) (v := (sl v101)) (hs.own (i := 1) rfl) (he122 hg)).1))) rfl rfl rfl <| WD_opG (fun w => b119 = true → CellsAt w (elA (sl v101) j106 1) [(S e121)]) (fun hg => (Own.cellsF (A := RS) (v := (sl v101)) (hs.own (i := 1) rfl) (he122 hg) (fun _ h => openT9 h)).sub 0 rfl) rfl rfl rfl rfl guard_pos (fun _ hJ => (Run_load1 (v := (S e121)) Tryd.underlying9 rfl (Opd.g rfl id) hJ)) rfl rfl rfl <| WD_pureG rfl rfl rfl rfl guard_pos (fun _ => (Run_lenS Tryd.underlying9 (Opd.g rfl id))) rfl rfl rfl <| WD_pureG rfl rfl rfl rfl guard_pos (fun _ => (Run_add (Opd.g rfl id) (Opd.g rfl id))) rfl rfl rfl <| ?_
        obtain ⟨k123, hm⟩ := chkG_some hm
        refine WD_pureG rfl rfl rfl rfl guard_pos (fun _ => (Run_cutS (lo := (some (.tmp 142))) (hi := (some (.tmp 149))) Tryd.underlying9 (Opd.g rfl id) ⟨_, (Opd.g rfl id)⟩ ⟨_, (Opd.g rfl id)⟩ k123)) rfl rfl rfl <| WD_pureG rfl rfl rfl rfl guard_pos (fun _ => (Run_move (O rfl))) rfl rfl rfl <| WD_pureG rfl rfl rfl rfl guard_pos (fun _ => (Run_move (O rfl))) rfl rfl rfl <| ?_
        obtain ⟨e124, he125, -, hm⟩ := callG_some hm
        refine WD_pureG rfl rfl rfl rfl guard_pos (fun _ => (Run_idxAddr (p := (elA (sl v101) j106 1)) Tryd.underlying26 ti9 (Opd.g rfl id) (Opd.g rfl id) (fun hg => (Own.atA (A := RS) (v := (sl v101)) (hs.own (i := 1) rfl) (he125 hg)).1))) rfl rfl rfl <| WD_opG (fun w => b119 = true → CellsAt w (elA (sl v101) j106 1) [(S e124)]) (fun hg => (Own.cellsF (A := RS) (v := (sl v101)) (hs.own (i := 1) rfl) (he125 hg) (fun _ h => openT9 h)).sub 0 rfl) rfl rfl rfl rfl guard_pos (fun _ hJ => (Run_load1 (v := (S e124)) Tryd.underlying9 rfl (Opd.g rfl id) hJ)) rfl rfl rfl <| ?_
        obtain ⟨b126, e127, hm⟩ := letv_some hm
        refine WD_pureG rfl rfl rfl rfl guard_pos (fun _ => (Run.eqB (Run_eqS (Opd.g rfl id) (Opd.g rfl id)) e127)) rfl rfl rfl <| ?_
        obtain ⟨b128, e129, hm⟩ := letv_some hm
        refine WD_pure (fun _ => (Run.eqB (Run_and (O rfl) (Opd.g rfl id)) e129)) rfl rfl rfl rfl <| ?_
        refine WD_nil ?_
        refine At_then ?_
        refine WC_cond (O rfl) (fun hc130 => ?_) (fun hc130 => ?_)
        ·
         replace hm := bif_t hc130 hm
         refine WC_region ?_
         refine Wo (Run_move (O rfl)) rfl <| Wo (Run_move (O rfl)) rfl <| ?_
         obtain ⟨e131, he132, hm⟩ := bind_some' hm
         refine Wo (Run_idxAddr (p := (elA (sl v101) j106 1)) Tryd.underlying26 ti9 (O rfl) (O rfl) (fun hg => (Own.atA (A := RS) (v := (sl v101)) (hs.own (i := 1) rfl) he132).1)) rfl <| Wo (Run_load1 (v := (S e131)) Tryd.underlying9 rfl (O rfl) (fun hg => (Own.cellsF (A := RS) (v := (sl v101)) (hs.own (i := 1) rfl) he132 (fun _ h => openT9 h)).sub 0 rfl)) rfl <| Wo (Run_assign (O rfl)) rfl <| ?_
         refine WL_nil ?_
         refine At_blk_normal ?_
         refine At_then <| WC_region ?_
         refine Wo (Run_move (O rfl)) rfl <| Wo (Run_add (O rfl) Opd.c) rfl <| Wo (Run_assign (O rfl)) rfl <| ?_
         refine WL_nil ?_
         exact At_again (e131, (IntKind.i64.wrap (j106 + 1))) () hm (hs.re 2 [0, 1] rfl) rfl
        ·
         replace hm := bif_f hc130 hm
         refine WC_skip ?_
         refine At_blk_normal ?_
         refine At_then <| WC_region ?_
         refine Wo (Run_move (O rfl)) rfl <| Wo (Run_add (O rfl) Opd.c) rfl <| Wo (Run_assign (O rfl)) rfl <| ?_
         refine WL_nil ?_
         exact At_again (s105, (IntKind.i64.wrap (j106 + 1))) () hm (hs.re 2 [0, 1] rfl) rfl
       ·
        replace hm := bif_f hc114 hm
        refine WC_exit ?_
        refine At_then_exit <| At_then_exit <| At_blk_here <| ?_
        refine At_then <| WC_seq <| WC_seq <| WC_region ?_
        refine Wo (Run_move (O rfl)) rfl <| Wo (Run_eqS (O rfl) Opd.c) rfl <| ?_
        refine WL_nil <| At_then ?_
        refine WC_cond (O rfl) (fun hc133 => ?_) (fun hc133 => ?_)
        ·
         replace hm := bif_t hc133 hm
         refine WC_seq <| WC_region ?_
         refine Wo (Run_move (O rfl)) rfl <| Wo (Run_assign Opd.c) rfl <| Wo (Run_assign Opd.c) rfl <| Wo (Run_assign (O rfl)) rfl <| ?_
         refine WL_nil <| At_then ?_
         refine WC_ret ?_
         refine At_then_ret <| At_blk_ret <| At_then_ret <| At_blk_ret <| At_then_ret <| ?_
         refine At_r3 rfl (ResIs.t rfl) (ResIs.t rfl) (ResIs.t rfl) ?_
         replace hs := hs.addNil Q1 28
         cases hm
         exact ⟨(none, 0, 0), [], rfl, (hs.re 3 [0] rfl)⟩
        ·
         replace hm := bif_f hc133 hm
         refine WC_skip ?_
         refine At_then <| WC_seq <| WC_region ?_
         refine Wo (Run_move (O rfl)) rfl <| Wo (Run_move (O rfl)) rfl <| Wo (Run_move (O rfl)) rfl <| Wo (Run_build (parts := [(0, (.const (.int .i64 3))), (1, (.tmp 165)), (3, (.tmp 166))]) (v := (.agg #[(.int .i64 3), (S s105), (.int .i64 0), (.int .i64 i12)])) (.cons Opd.c (.cons (O rfl) (.cons (O rfl) .nil))) (fun _ => by kernel_rfl)) rfl <| ?_
         refine WS_lit (A := Q1) (xs := [(3, s105, 0, i12)]) (zs := [(.int .i64 0), (S []), (.int .i64 0), (.int .i64 0)]) (cells := [(.int .i64 3), (S s105), (.int .i64 0), (.int .i64 i12)]) (parts := [(0, (.tmp 167))]) hs Tryd.underlying23 ti28 rfl rfl rfl (.cons (O rfl) .nil) (by kernel_rfl) rfl (ARd.cons (A := Q1) (c := [(.int .i64 3), (S s105), (.int .i64 0), (.int .i64 i12)]) (x := (3, s105, 0, i12)) ⟨_, _, rfl, rfl, ⟨_, _, rfl, rfl, ⟨_, _, rfl, rfl, rfl⟩⟩⟩ ARd.nil) rfl ?_
         intro b134 w135 hs
         replace hs := Sat.n3 (Γ := Φ) hs rfl
         replace hs := hs.freeze (i := 0) rfl
         obtain ⟨k136, hm⟩ := chk_some hm
         refine WS_append (A := Q1) hs 1 rfl Tryd.underlying23 ti28 rfl rfl (O rfl) (O rfl) (hs.sl (i := 0) rfl) k136 rfl ?_
         intro v137 R138 w139 hs
         replace hs := Sat.n3 (Γ := Φ) hs rfl
         refine Wo (Run_assign (O rfl)) rfl <| ?_
         refine WL_nil <| At_then <| WC_region ?_
         refine Wo (Run_move (O rfl)) rfl <| Wo (Run_move (O rfl)) rfl <| Wo (Run_lenS Tryd.underlying9 (O rfl)) rfl <| Wo (Run_add (O rfl) (O rfl)) rfl <| Wo (Run_assign (O rfl)) rfl <| ?_
         refine WL_nil ?_
         refine At_blk_normal ?_
         exact At_again ((out9 ++ ([(3, s105, 0, i12)] : List (Int × Str × Int × Int))), (IntKind.i64.wrap (i12 + (List.length s105 : Int)))) (v137, R138) hm (hs.re 3 [1] rfl) rfl
  ·
   replace hm := bif_f hc14 hm
   refine WC_exit ?_
   refine At_then_exit <| At_then_exit <| At_blk_here <| ?_
   refine At_then <| WC_seq <| WC_region ?_
   refine Wo (Run_move (O rfl)) rfl <| Wo (Run_move (O rfl)) rfl <| Wo (Run_lenS Tryd.underlying9 (O rfl)) rfl <| Wo (Run_build (parts := [(0, (.const (.int .i64 4))), (3, (.tmp 176))]) (v := (.agg #[(.int .i64 4), (S []), (.int .i64 0), (.int .i64 (List.length text : Int))])) (.cons Opd.c (.cons (O rfl) .nil)) (fun _ => by kernel_rfl)) rfl <| ?_
   refine WS_lit (A := Q1) (xs := [(4, [], 0, (List.length text : Int))]) (zs := [(.int .i64 0), (S []), (.int .i64 0), (.int .i64 0)]) (cells := [(.int .i64 4), (S []), (.int .i64 0), (.int .i64 (List.length text : Int))]) (parts := [(0, (.tmp 177))]) hs Tryd.underlying23 ti28 rfl rfl rfl (.cons (O rfl) .nil) (by kernel_rfl) rfl (ARd.cons (A := Q1) (c := [(.int .i64 4), (S []), (.int .i64 0), (.int .i64 (List.length text : Int))]) (x := (4, [], 0, (List.length text : Int))) ⟨_, _, rfl, rfl, ⟨_, _, rfl, rfl, ⟨_, _, rfl, rfl, rfl⟩⟩⟩ ARd.nil) rfl ?_
   intro b140 w141 hs
   replace hs := Sat.n2 (Γ := Φ) hs rfl
   replace hs := hs.freeze (i := 0) rfl
   obtain ⟨k142, hm⟩ := chk_some hm
   refine WS_append (A := Q1) hs 1 rfl Tryd.underlying23 ti28 rfl rfl (O rfl) (O rfl) (hs.sl (i := 0) rfl) k142 rfl ?_
   intro v143 R144 w145 hs
   replace hs := Sat.n2 (Γ := Φ) hs rfl
   refine Wo (Run_assign (O rfl)) rfl <| Wo (Run_assign Opd.c) rfl <| Wo (Run_assign Opd.c) rfl <| ?_
   refine WL_nil <| At_then ?_
   refine WC_ret ?_
   refine At_r3 rfl (ResIs.t rfl) (ResIs.t rfl) (ResIs.t rfl) ?_
   cases hm
   exact ⟨v143, R144, rfl, (hs.re 2 [1] rfl)⟩
end Go.Proofs.YtdhgpnejphlfpaaDoor
namespace Go.Proofs.YtdhgpnejphlfpaaDoor
open Go.Proofs
theorem scrutinylaw14_ModelCuts_ok {Φ w text cut_ r} (hs : Sat (gl 0 (keysL.map S) :: gl 1 (textsL.map S) :: Φ) w) (hm : scrutinylaw14_ModelCuts text cut_ = some r) :
  CallsR Tryd.prog 8 [(S text), (.int .u16 cut_)] w (fun v w' => v = (.bool r) ∧ Sat (Φ) w') := by
 refine CallsX_enter Tryd.func8 rfl Tryd.ntmps8 rfl ?_
 unfold scrutinylaw14_ModelCuts at hm
 refine WC_seq <| WC_region ?_
 refine W ?_
 refine WL_nil <| At_then <| WC_seq <| WC_region ?_
 obtain ⟨r3, hr4, hm⟩ := bind_some' hm
 refine WL_call (f := 9) (first := []) (cap := []) (xs := []) (vs := []) (args := []) Tryd.call9 Opd.f .nil rfl rfl (scrutinylaw14_shown_ok (hs.re 2 [0, 1, 0, 1] rfl) hr4) ?_
 rintro _ w5 ⟨rfl, hs⟩
 replace hs := Sat.n2 (Γ := Φ) hs rfl
 refine W ?_
 refine WL_nil <| At_then <| WC_seq <| WC_seq <| WC_region ?_
 iterate 3 refine W ?_
 refine WL_nil <| At_then ?_
 refine WC_cond (O rfl) (fun hc6 => ?_) (fun hc6 => ?_)
 ·
  replace hm := bif_t hc6 hm
  refine WC_seq <| WC_region ?_
  iterate 2 refine W ?_
  refine WL_nil <| At_then ?_
  refine WC_ret ?_
  refine At_then_ret <| ?_
  refine At_r1 rfl (ResIs.t rfl) ?_
  cases hm
  exact ⟨rfl, (hs.re 2 [] rfl)⟩
 ·
  replace hm := bif_f hc6 hm
  refine WC_skip ?_
  refine At_then <| WC_seq <| WC_region ?_
  refine W ?_
  obtain ⟨r7, hr8, hm⟩ := bind_some' hm
  refine WL_call (f := 10) (first := []) (cap := []) (xs := [(.tmp 30)]) (vs := [(S text)]) (args := [(S text)]) Tryd.call10 Opd.f (.cons (O rfl) .nil) rfl rfl (scrutinyref12_Tokens_ok (hs.re 2 [0, 1] rfl) hr8) ?_
  rintro _ w11 ⟨v9, R10, rfl, hs⟩
  replace hs := Sat.n3 (Γ := Φ) hs rfl
  iterate 7 refine W ?_
  refine WL_nil <| At_then <| WC_seq <| WC_region ?_
  refine W ?_
  obtain ⟨r12, hr13, hm⟩ := bind_some' hm
  refine WL_call (f := 11) (first := []) (cap := []) (xs := [(.tmp 36)]) (vs := [(S text)]) (args := [(S text)]) Tryd.call11 Opd.f (.cons (O rfl) .nil) rfl rfl (model_Parse_ok (hs.re 3 [1, 2, 0, 1, 2] rfl) hr13) ?_
  rintro _ w24 ⟨v14, R15, v16, R17, v18, R19, v20, R21, v22, R23, rfl, hs⟩
  replace hs := Sat.n8 (Γ := Φ) hs rfl
  iterate 4 refine W ?_
  refine WS_alloc (zs := [(sl (none, 0, 0)), (sl (none, 0, 0)), (sl (none, 0, 0)), (sl (none, 0, 0)), (sl (none, 0, 0))]) hs ti33 rfl rfl ?_
  intro b25 w26 hs
  replace hs := Sat.n9 (Γ := Φ) hs rfl
  refine WS_store (us := [(sl v14), (sl v16), (sl v18), (sl v20), (sl v22)]) (vs' := [(sl v14), (sl v16), (sl v18), (sl v20), (sl v22)]) hs 0 rfl ti33 (O rfl) (O rfl) rfl rfl rfl rfl rfl ?_
  intro w27 hs
  replace hs := Sat.n9 (Γ := Φ) hs rfl
  iterate 2 refine W ?_
  refine WL_nil <| At_then <| WC_seq <| WC_seq <| WC_region ?_
  refine W ?_
  obtain ⟨b28, e29, hm⟩ := letv_som hm
  iterate 2 refine W ?_
  refine WG ?_
  obtain ⟨b30, e31, hm⟩ := letv_som hm
  refine WG ?_
  obtain ⟨b32, e33, hm⟩ := letv_som hm
  iterate 2 refine W ?_
  iterate 2 refine WG ?_
  obtain ⟨b34, e35, hm⟩ := letv_som hm
  refine WG ?_
  obtain ⟨b36, e37, hm⟩ := letv_som hm
  refine W ?_
  refine WL_nil <| At_then ?_
  refine WC_cond (O rfl) (fun hc38 => ?_) (fun hc38 => ?_)
  ·
   replace hm := bif_t hc38 hm
   refine WC_seq <| WC_region ?_
   iterate 2 refine W ?_
   refine WL_nil <| At_then ?_
   refine WC_ret ?_
   refine At_then_ret <| ?_
   refine At_r1 rfl (ResIs.t rfl) ?_
   cases hm
   exact ⟨rfl, (hs.re 9 [] rfl)⟩
  ·
   replace hm := bif_f hc38 hm
   refine WC_skip ?_
   refine At_then <| WC_seq <| WC_region ?_
   iterate 4 refine W ?_
   obtain ⟨k39, hm⟩ := chk_some hm
   refine Wo (Run_rem (O rfl) (O rfl) (by simpa using k39)) rfl <| ?_
   refine W ?_
   refine WL_nil <| At_then <| WC_seq <| WC_region ?_
   iterate 3 refine W ?_
   obtain ⟨e40, he41, hm⟩ := bind_some' hm
   refine WL_op (Run_idxAddr (p := (elA (sl v9) (Int.tmod (IntKind.i64.wrap cut_) (List.length r7.1 : Int)) 4)) Tryd.underlying23 ti28 (O rfl) (O rfl) (fun hg => (Own.atA (A := Q1) (v := (sl v9)) (hs.own (i := 6) rfl) he41).1)) rfl rfl rfl rfl <| ?_
   refine W ?_
   refine WL_op (Run_load1 (v := (.int .i64 e40.2.2.2)) Tryd.underlying3 rfl (O rfl) (fun hg => ((Own.cellsF (A := Q1) (v := (sl v9)) (hs.own (i := 6) rfl) he41 (fun _ h => openT28 h)).sub (us := [(.int .i64 e40.2.2.2)]) 3 rfl).sub 0 rfl)) rfl rfl rfl rfl <| ?_
   obtain ⟨k42, hm⟩ := chk_some hm
   refine Wo (Run_cutS (lo := none) (hi := (some (.tmp 63))) Tryd.underlying9 (O rfl) rfl ⟨_, (O rfl)⟩ (fun _ => k42)) rfl <| ?_
   refine W ?_
   refine WL_nil <| At_then <| WC_seq <| WC_region ?_
   refine W ?_
   refine WL_nil <| At_then <| WC_seq <| WC_region ?_
   refine W ?_
   refine WL_nil <| At_then <| WC_seq <| WC_region ?_
   refine W ?_
   refine WL_nil <| At_then <| WC_seq <| WC_seq <| WC_region ?_
   refine W ?_
   refine WL_nil <| At_then ?_
   refine WC_block ?_
   refine WC_loop (σ := Int × Int × Bool × Int) (γ := Unit) (F := (scrutinylaw14_ModelCuts_L1 text cut_ r3 r7 r12 e40)) (N := FUEL) (s0 := (0, 0, false, 0)) (r := r) (fun ⟨deep44, items45, open46, i47⟩ (_ : Unit) w43 => Sat (osl Q1 28 (sl v9) r7.1 R10 :: box b25 33 [(sl v14), (sl v16), (sl v18), (sl v20), (sl v22)] :: osl RS 9 (sl v14) r12.1.1 R15 :: osl Q5 44 (sl v16) r12.1.2.1 R17 :: osl (RI .i64) 3 (sl v18) r12.1.2.2.1 R19 :: osl RS 9 (sl v20) r12.1.2.2.2.1 R21 :: osl Q2 54 (sl v22) r12.1.2.2.2.2 R23 :: gl 0 (keysL.map S) :: gl 1 (textsL.map S) :: Φ) w43) (fun ⟨deep44, items45, open46, i47⟩ (_ : Unit) => [(5, true, (.bool r3)), (6, true, (sl v9)), (9, true, (.pointer (some ⟨b25, 0, none⟩))), (12, true, (.int .i64 (Int.tmod (IntKind.i64.wrap cut_) (List.length r7.1 : Int)))), (13, true, (S (cut text 0 e40.2.2.2))), (14, true, (.int .i64 deep44)), (15, true, (.int .i64 items45)), (16, true, (.bool open46)), (17, true, (.int .i64 i47))]) hm () (hs.re 9 [6, 0, 1, 2, 3, 4, 5, 7, 8] rfl) rfl ?_
   rintro again48 ⟨deep44, items45, open46, i47⟩ _ w43 hm hs
   unfold scrutinylaw14_ModelCuts_L1 at hm
   dsimp only at hm
   refine WC_seq <| WC_seq <| WC_region ?_
   iterate 3 refine W ?_
   refine WL_nil <| At_then ?_
   refine WC_cond (O rfl) (fun hc49 => ?_) (fun hc49 => ?_)
   ·
    replace hm := bif_t hc49 hm
    refine WC_skip ?_
    refine At_then <| WC_seq ?_
    refine WC_block ?_
    refine WC_seq_cut (γ := Int) (fun deep51 w50 => scrutinylaw14_ModelCuts_K2 r7 items45 open46 i47 again48 deep51 = some r ∧ Sat (osl Q1 28 (sl v9) r7.1 R10 :: box b25 33 [(sl v14), (sl v16), (sl v18), (sl v20), (sl v22)] :: osl RS 9 (sl v14) r12.1.1 R15 :: osl Q5 44 (sl v16) r12.1.2.1 R17 :: osl (RI .i64) 3 (sl v18) r12.1.2.2.1 R19 :: osl RS 9 (sl v20) r12.1.2.2.2.1 R21 :: osl Q2 54 (sl v22) r12.1.2.2.2.2 R23 :: gl 0 (keysL.map S) :: gl 1 (textsL.map S) :: Φ) w50) (fun deep51 => [(5, true, (.bool r3)), (6, true, (sl v9)), (9, true, (.pointer (some ⟨b25, 0, none⟩))), (12, true, (.int .i64 (Int.tmod (IntKind.i64.wrap cut_) (List.length r7.1 : Int)))), (13, true, (S (cut text 0 e40.2.2.2))), (14, true, (.int .i64 deep51)), (15, true, (.int .i64 items45)), (16, true, (.bool open46)), (17, true, (.int .i64 i47))]) ?_ ?_
    ·
     rintro deep51 w50 ⟨hm, hs⟩
     unfold scrutinylaw14_ModelCuts_K2 at hm
     refine WC_seq_cut (γ := Int × Bool) (fun ⟨deep53, open54⟩ w52 => scrutinylaw14_ModelCuts_K3 r7 items45 i47 again48 deep53 open54 = some r ∧ Sat (osl Q1 28 (sl v9) r7.1 R10 :: box b25 33 [(sl v14), (sl v16), (sl v18), (sl v20), (sl v22)] :: osl RS 9 (sl v14) r12.1.1 R15 :: osl Q5 44 (sl v16) r12.1.2.1 R17 :: osl (RI .i64) 3 (sl v18) r12.1.2.2.1 R19 :: osl RS 9 (sl v20) r12.1.2.2.2.1 R21 :: osl Q2 54 (sl v22) r12.1.2.2.2.2 R23 :: gl 0 (keysL.map S) :: gl 1 (textsL.map S) :: Φ) w52) (fun ⟨deep53, open54⟩ => [(5, true, (.bool r3)), (6, true, (sl v9)), (9, true, (.pointer (some ⟨b25, 0, none⟩))), (12, true, (.int .i64 (Int.tmod (IntKind.i64.wrap cut_) (List.length r7.1 : Int)))), (13, true, (S (cut text 0 e40.2.2.2))), (14, true, (.int .i64 deep53)), (15, true, (.int .i64 items45)), (16, true, (.bool open54)), (17, true, (.int .i64 i47))]) ?_ ?_
     ·
      rintro ⟨deep53, open54⟩ w52 ⟨hm, hs⟩
      unfold scrutinylaw14_ModelCuts_K3 at hm
      refine WC_seq_cut (γ := Int × Bool) (fun ⟨items56, open57⟩ w55 => scrutinylaw14_ModelCuts_K4 r7 i47 again48 deep53 items56 open57 = some r ∧ Sat (osl Q1 28 (sl v9) r7.1 R10 :: box b25 33 [(sl v14), (sl v16), (sl v18), (sl v20), (sl v22)] :: osl RS 9 (sl v14) r12.1.1 R15 :: osl Q5 44 (sl v16) r12.1.2.1 R17 :: osl (RI .i64) 3 (sl v18) r12.1.2.2.1 R19 :: osl RS 9 (sl v20) r12.1.2.2.2.1 R21 :: osl Q2 54 (sl v22) r12.1.2.2.2.2 R23 :: gl 0 (keysL.map S) :: gl 1 (textsL.map S) :: Φ) w55) (fun ⟨items56, open57⟩ => [(5, true, (.bool r3)), (6, true, (sl v9)), (9, true, (.pointer (some ⟨b25, 0, none⟩))), (12, true, (.int .i64 (Int.tmod (IntKind.i64.wrap cut_) (List.length r7.1 : Int)))), (13, true, (S (cut text 0 e40.2.2.2))), (14, true, (.int .i64 deep53)), (15, true, (.int .i64 items56)), (16, true, (.bool open57)), (17, true, (.int .i64 i47))]) ?_ ?_
      ·
       rintro ⟨items56, open57⟩ w55 ⟨hm, hs⟩
       unfold scrutinylaw14_ModelCuts_K4 at hm
       refine WC_seq <| WC_region ?_
       iterate 2 refine W ?_
       obtain ⟨e58, he59, hm⟩ := bind_some' hm
       refine WL_op (Run_idxAddr (p := (elA (sl v9) i47 4)) Tryd.underlying23 ti28 (O rfl) (O rfl) (fun hg => (Own.atA (A := Q1) (v := (sl v9)) (hs.own (i := 0) rfl) he59).1)) rfl rfl rfl rfl <| ?_
       refine W ?_
       refine WL_op (Run_load1 (v := (.int .i64 e58.1)) Tryd.underlying3 rfl (O rfl) (fun hg => ((Own.cellsF (A := Q1) (v := (sl v9)) (hs.own (i := 0) rfl) he59 (fun _ h => openT28 h)).sub (us := [(.int .i64 e58.1)]) 0 rfl).sub 0 rfl)) rfl rfl rfl rfl <| ?_
       obtain ⟨b60, e61, hm⟩ := letv_som hm
       iterate 2 refine W ?_
       iterate 2 refine WG ?_
       obtain ⟨e62, he63, -, hm⟩ := callG_some hm
       refine WL_opG rfl rfl rfl rfl guard_pos (Run_idxAddr (p := (elA (sl v9) i47 4)) Tryd.underlying23 ti28 (Opd.g rfl id) (Opd.g rfl id) (fun hg => (Own.atA (A := Q1) (v := (sl v9)) (hs.own (i := 0) rfl) (he63 hg)).1)) rfl rfl rfl <| ?_
       refine WG ?_
       refine WL_opG rfl rfl rfl rfl guard_pos (Run_load1 (v := (S e62.2.1)) Tryd.underlying9 rfl (Opd.g rfl id) (fun hg => ((Own.cellsF (A := Q1) (v := (sl v9)) (hs.own (i := 0) rfl) (he63 hg) (fun _ h => openT28 h)).sub (us := [(S e62.2.1)]) 1 rfl).sub 0 rfl)) rfl rfl rfl <| ?_
       obtain ⟨b64, e65, hm⟩ := letv_som hm
       iterate 4 refine WG ?_
       obtain ⟨e66, he67, -, hm⟩ := callG_some hm
       refine WL_opG rfl rfl rfl rfl guard_neg' (Run_idxAddr (p := (elA (sl v9) i47 4)) Tryd.underlying23 ti28 (Opd.g rfl id) (Opd.g rfl id) (fun hg => (Own.atA (A := Q1) (v := (sl v9)) (hs.own (i := 0) rfl) (he67 hg)).1)) rfl rfl rfl <| ?_
       refine WG ?_
       refine WL_opG rfl rfl rfl rfl guard_neg' (Run_load1 (v := (S e66.2.1)) Tryd.underlying9 rfl (Opd.g rfl id) (fun hg => ((Own.cellsF (A := Q1) (v := (sl v9)) (hs.own (i := 0) rfl) (he67 hg) (fun _ h => openT28 h)).sub (us := [(S e66.2.1)]) 1 rfl).sub 0 rfl)) rfl rfl rfl <| ?_
       obtain ⟨b68, e69, hm⟩ := letv_som hm
       refine WG ?_
       obtain ⟨b70, e71, hm⟩ := letv_som hm
       refine WG ?_
       obtain ⟨b72, e73, hm⟩ := letv_som hm
       refine W ?_
       refine WL_nil <| At_then ?_
       refine WC_cond (O rfl) (fun hc74 => ?_) (fun hc74 => ?_)
       ·
        replace hm := bif_t hc74 hm
        refine WC_region ?_
        refine W ?_
        refine WL_nil ?_
        refine At_blk_normal ?_
        refine At_then <| WC_region ?_
        iterate 3 refine W ?_
        refine WL_nil ?_
        exact At_again (deep53, items56, true, (IntKind.i64.wrap (i47 + 1))) () hm (hs.re 9 [0, 1, 2, 3, 4, 5, 6, 7, 8] rfl) rfl
       ·
        replace hm := bif_f hc74 hm
        refine WC_skip ?_
        refine At_blk_normal ?_
        refine At_then <| WC_region ?_
        iterate 3 refine W ?_
        refine WL_nil ?_
        exact At_again (deep53, items56, open57, (IntKind.i64.wrap (i47 + 1))) () hm (hs.re 9 [0, 1, 2, 3, 4, 5, 6, 7, 8] rfl) rfl
      ·
       refine WC_seq <| WC_region ?_
       iterate 2 refine W ?_
       obtain ⟨e75, he76, hm⟩ := bind_some' hm
       refine WL_op (Run_idxAddr (p := (elA (sl v9) i47 4)) Tryd.underlying23 ti28 (O rfl) (O rfl) (fun hg => (Own.atA (A := Q1) (v := (sl v9)) (hs.own (i := 0) rfl) he76).1)) rfl rfl rfl rfl <| ?_
       refine W ?_
       refine WL_op (Run_load1 (v := (.int .i64 e75.1)) Tryd.underlying3 rfl (O rfl) (fun hg => ((Own.cellsF (A := Q1) (v := (sl v9)) (hs.own (i := 0) rfl) he76 (fun _ h => openT28 h)).sub (us := [(.int .i64 e75.1)]) 0 rfl).sub 0 rfl)) rfl rfl rfl rfl <| ?_
       obtain ⟨b77, e78, hm⟩ := letv_som hm
       iterate 2 refine W ?_
       iterate 2 refine WG ?_
       obtain ⟨e79, he80, -, hm⟩ := callG_some hm
       refine WL_opG rfl rfl rfl rfl guard_pos (Run_idxAddr (p := (elA (sl v9) i47 4)) Tryd.underlying23 ti28 (Opd.g rfl id) (Opd.g rfl id) (fun hg => (Own.atA (A := Q1) (v := (sl v9)) (hs.own (i := 0) rfl) (he80 hg)).1)) rfl rfl rfl <| ?_
       refine WG ?_
       refine WL_opG rfl rfl rfl rfl guard_pos (Run_load1 (v := (S e79.2.1)) Tryd.underlying9 rfl (Opd.g rfl id) (fun hg => ((Own.cellsF (A := Q1) (v := (sl v9)) (hs.own (i := 0) rfl) (he80 hg) (fun _ h => openT28 h)).sub (us := [(S e79.2.1)]) 1 rfl).sub 0 rfl)) rfl rfl rfl <| ?_
       obtain ⟨b81, e82, hm⟩ := letv_som hm
       refine WG ?_
       obtain ⟨b83, e84, hm⟩ := letv_som hm
       iterate 2 refine W ?_
       refine WG ?_
       obtain ⟨b85, e86, hm⟩ := letv_som hm
       refine WG ?_
       obtain ⟨b87, e88, hm⟩ := letv_som hm
       refine W ?_
       refine WL_nil <| At_then ?_
       refine WC_cond (O rfl) (fun hc89 => ?_) (fun hc89 => ?_)
       ·
        replace hm := bif_t hc89 hm
        refine WC_seq <| WC_region ?_
        iterate 3 refine W ?_
        refine WL_nil <| At_then <| WC_region ?_
        refine W ?_
        refine WL_nil ?_
        exact At_join ((IntKind.i64.wrap (items45 + 1)), false) ⟨hm, (hs.re 9 [0, 1, 2, 3, 4, 5, 6, 7, 8] rfl)⟩ rfl
       ·
        replace hm := bif_f hc89 hm
        refine WC_skip ?_
        exact At_join (items45, open54) ⟨hm, (hs.re 9 [0, 1, 2, 3, 4, 5, 6, 7, 8] rfl)⟩ rfl
     ·
      refine WC_seq <| WC_region ?_
      iterate 2 refine W ?_
      obtain ⟨e90, he91, hm⟩ := bind_some' hm
      refine WL_op (Run_idxAddr (p := (elA (sl v9) i47 4)) Tryd.underlying23 ti28 (O rfl) (O rfl) (fun hg => (Own.atA (A := Q1) (v := (sl v9)) (hs.own (i := 0) rfl) he91).1)) rfl rfl rfl rfl <| ?_
      refine W ?_
      refine WL_op (Run_load1 (v := (.int .i64 e90.1)) Tryd.underlying3 rfl (O rfl) (fun hg => ((Own.cellsF (A := Q1) (v := (sl v9)) (hs.own (i := 0) rfl) he91 (fun _ h => openT28 h)).sub (us := [(.int .i64 e90.1)]) 0 rfl).sub 0 rfl)) rfl rfl rfl rfl <| ?_
      obtain ⟨b92, e93, hm⟩ := letv_som hm
      iterate 2 refine W ?_
      iterate 2 refine WG ?_
      obtain ⟨e94, he95, -, hm⟩ := callG_some hm
      refine WL_opG rfl rfl rfl rfl guard_pos (Run_idxAddr (p := (elA (sl v9) i47 4)) Tryd.underlying23 ti28 (Opd.g rfl id) (Opd.g rfl id) (fun hg => (Own.atA (A := Q1) (v := (sl v9)) (hs.own (i := 0) rfl) (he95 hg)).1)) rfl rfl rfl <| ?_
      refine WG ?_
      refine WL_opG rfl rfl rfl rfl guard_pos (Run_load1 (v := (S e94.2.1)) Tryd.underlying9 rfl (Opd.g rfl id) (fun hg => ((Own.cellsF (A := Q1) (v := (sl v9)) (hs.own (i := 0) rfl) (he95 hg) (fun _ h => openT28 h)).sub (us := [(S e94.2.1)]) 1 rfl).sub 0 rfl)) rfl rfl rfl <| ?_
      obtain ⟨b96, e97, hm⟩ := letv_som hm
      refine WG ?_
      obtain ⟨b98, e99, hm⟩ := letv_som hm
      refine W ?_
      refine WL_nil <| At_then ?_
      refine WC_cond (O rfl) (fun hc100 => ?_) (fun hc100 => ?_)
      ·
       replace hm := bif_t hc100 hm
       refine WC_seq <| WC_region ?_
       iterate 3 refine W ?_
       refine WL_nil <| At_then <| WC_region ?_
       refine W ?_
       refine WL_nil ?_
       exact At_join ((IntKind.i64.wrap (deep51 - 1)), false) ⟨hm, (hs.re 9 [0, 1, 2, 3, 4, 5, 6, 7, 8] rfl)⟩ rfl
      ·
       replace hm := bif_f hc100 hm
       refine WC_skip ?_
       exact At_join (deep51, open46) ⟨hm, (hs.re 9 [0, 1, 2, 3, 4, 5, 6, 7, 8] rfl)⟩ rfl
    ·
     refine WC_seq <| WC_region ?_
     iterate 2 refine W ?_
     obtain ⟨e101, he102, hm⟩ := bind_some' hm
     refine WL_op (Run_idxAddr (p := (elA (sl v9) i47 4)) Tryd.underlying23 ti28 (O rfl) (O rfl) (fun hg => (Own.atA (A := Q1) (v := (sl v9)) (hs.own (i := 0) rfl) he102).1)) rfl rfl rfl rfl <| ?_
     refine W ?_
     refine WL_op (Run_load1 (v := (.int .i64 e101.1)) Tryd.underlying3 rfl (O rfl) (fun hg => ((Own.cellsF (A := Q1) (v := (sl v9)) (hs.own (i := 0) rfl) he102 (fun _ h => openT28 h)).sub (us := [(.int .i64 e101.1)]) 0 rfl).sub 0 rfl)) rfl rfl rfl rfl <| ?_
     obtain ⟨b103, e104, hm⟩ := letv_som hm
     iterate 2 refine W ?_
     iterate 2 refine WG ?_
     obtain ⟨e105, he106, -, hm⟩ := callG_some hm
     refine WL_opG rfl rfl rfl rfl guard_pos (Run_idxAddr (p := (elA (sl v9) i47 4)) Tryd.underlying23 ti28 (Opd.g rfl id) (Opd.g rfl id) (fun hg => (Own.atA (A := Q1) (v := (sl v9)) (hs.own (i := 0) rfl) (he106 hg)).1)) rfl rfl rfl <| ?_
     refine WG ?_
     refine WL_opG rfl rfl rfl rfl guard_pos (Run_load1 (v := (S e105.2.1)) Tryd.underlying9 rfl (Opd.g rfl id) (fun hg => ((Own.cellsF (A := Q1) (v := (sl v9)) (hs.own (i := 0) rfl) (he106 hg) (fun _ h => openT28 h)).sub (us := [(S e105.2.1)]) 1 rfl).sub 0 rfl)) rfl rfl rfl <| ?_
     obtain ⟨b107, e108, hm⟩ := letv_som hm
     refine WG ?_
     obtain ⟨b109, e110, hm⟩ := letv_som hm
     refine W ?_
     refine WL_nil <| At_then ?_
     refine WC_cond (O rfl) (fun hc111 => ?_) (fun hc111 => ?_)
     ·
      replace hm := bif_t hc111 hm
      refine WC_region ?_
      iterate 3 refine W ?_
      refine WL_nil ?_
      exact At_join (IntKind.i64.wrap (deep44 + 1)) ⟨hm, (hs.re 9 [0, 1, 2, 3, 4, 5, 6, 7, 8] rfl)⟩ rfl
     ·
      replace hm := bif_f hc111 hm
      refine WC_skip ?_
      exact At_join deep44 ⟨hm, (hs.re 9 [0, 1, 2, 3, 4, 5, 6, 7, 8] rfl)⟩ rfl
   ·
    replace hm := bif_f hc49 hm
    refine WC_exit ?_
    refine At_then_exit <| At_then_exit <| At_blk_here <| ?_
    refine At_then <| WC_seq <| WC_region ?_
    refine W ?_
    obtain ⟨k112, hm⟩ := chk_some hm
    refine W ?_
    obtain ⟨r113, hr114, hm⟩ := bind_some' hm
    refine WL_call (f := 11) (first := []) (cap := []) (xs := [(.tmp 146)]) (vs := [(S ((cut text 0 e40.2.2.2) ++ [10]))]) (args := [(S ((cut text 0 e40.2.2.2) ++ [10]))]) Tryd.call11 Opd.f (.cons (O rfl) .nil) rfl rfl (model_Parse_ok (hs.re 9 [7, 8, 0, 1, 2, 3, 4, 5, 6, 7, 8] rfl) hr114) ?_
    rintro _ w125 ⟨v115, R116, v117, R118, v119, R120, v121, R122, v123, R124, rfl, hs⟩
    replace hs := Sat.n14 (Γ := Φ) hs rfl
    iterate 4 refine W ?_
    refine WS_alloc (zs := [(sl (none, 0, 0)), (sl (none, 0, 0)), (sl (none, 0, 0)), (sl (none, 0, 0)), (sl (none, 0, 0))]) hs ti33 rfl rfl ?_
    intro b126 w127 hs
    replace hs := Sat.n15 (Γ := Φ) hs rfl
    refine WS_store (us := [(sl v115), (sl v117), (sl v119), (sl v121), (sl v123)]) (vs' := [(sl v115), (sl v117), (sl v119), (sl v121), (sl v123)]) hs 0 rfl ti33 (O rfl) (O rfl) rfl rfl rfl rfl rfl ?_
    intro w128 hs
    replace hs := Sat.n15 (Γ := Φ) hs rfl
    iterate 2 refine W ?_
    refine WL_nil <| At_then <| WC_seq <| WC_region ?_
    refine W ?_
    obtain ⟨k129, hm⟩ := chk_some hm
    refine W ?_
    obtain ⟨r130, hr131, hm⟩ := bind_some' hm
    refine WL_call (f := 11) (first := []) (cap := []) (xs := [(.tmp 153)]) (vs := [(S ((cut text 0 e40.2.2.2) ++ [10, 32, 118, 97, 114, 32, 118, 97, 114]))]) (args := [(S ((cut text 0 e40.2.2.2) ++ [10, 32, 118, 97, 114, 32, 118, 97, 114]))]) Tryd.call11 Opd.f (.cons (O rfl) .nil) rfl rfl (model_Parse_ok (hs.re 15 [13, 14, 0, 1, 2, 3, 4, 5, 6, 7, 8, 9, 10, 11, 12, 13, 14] rfl) hr131) ?_
    rintro _ w142 ⟨v132, R133, v134, R135, v136, R137, v138, R139, v140, R141, rfl, hs⟩
    replace hs := Sat.n20 (Γ := Φ) hs rfl
    iterate 4 refine W ?_
    refine WS_alloc (zs := [(sl (none, 0, 0)), (sl (none, 0, 0)), (sl (none, 0, 0)), (sl (none, 0, 0)), (sl (none, 0, 0))]) hs ti33 rfl rfl ?_
    intro b143 w144 hs
    replace hs := Sat.n21 (Γ := Φ) hs rfl
    refine WS_store (us := [(sl v132), (sl v134), (sl v136), (sl v138), (sl v140)]) (vs' := [(sl v132), (sl v134), (sl v136), (sl v138), (sl v140)]) hs 0 rfl ti33 (O rfl) (O rfl) rfl rfl rfl rfl rfl ?_
    intro w145 hs
    replace hs := Sat.n21 (Γ := Φ) hs rfl
    iterate 2 refine W ?_
    refine WL_nil <| At_then <| WC_seq <| WC_seq <| WC_region ?_
    iterate 2 refine W ?_
    refine WG ?_
    obtain ⟨b146, e147, hm⟩ := letv_som hm
    refine WG ?_
    obtain ⟨b148, e149, hm⟩ := letv_som hm
    refine W ?_
    refine WL_nil <| At_then ?_
    refine WC_cond (O rfl) (fun hc150 => ?_) (fun hc150 => ?_)
    ·
     replace hm := bif_t hc150 hm
     refine WC_seq <| WC_region ?_
     iterate 2 refine W ?_
     refine WG ?_
     obtain ⟨b151, e152, hm⟩ := letv_som hm
     refine WG ?_
     obtain ⟨b153, e154, hm⟩ := letv_som hm
     iterate 2 refine W ?_
     iterate 3 refine WG ?_
     obtain ⟨b155, e156, hm⟩ := letv_som hm
     refine WG ?_
     obtain ⟨b157, e158, hm⟩ := letv_som hm
     iterate 2 refine W ?_
     refine WG ?_
     obtain ⟨b159, e160, hm⟩ := letv_som hm
     refine WG ?_
     obtain ⟨b161, e162, hm⟩ := letv_som hm
     iterate 2 refine W ?_
     refine WL_nil <| At_then ?_
     refine WC_ret ?_
     refine At_then_ret <| ?_
     refine At_r1 rfl (ResIs.t rfl) ?_
     cases hm
     exact ⟨rfl, (hs.re 21 [] rfl)⟩
    ·
     replace hm := bif_f hc150 hm
     refine WC_skip ?_
     refine At_then <| WC_seq <| WC_seq <| WC_region ?_
     refine W ?_
     obtain ⟨b163, e164, hm⟩ := letv_som hm
     iterate 2 refine W ?_
     iterate 4 refine WG ?_
     obtain ⟨b165, e166, hm⟩ := letv_som hm
     refine WG ?_
     obtain ⟨b167, e168, hm⟩ := letv_som hm
     refine W ?_
     refine WL_nil <| At_then ?_
     refine WC_cond (O rfl) (fun hc169 => ?_) (fun hc169 => ?_)
     ·
      replace hm := bif_t hc169 hm
      refine WC_seq <| WC_region ?_
      refine W ?_
      refine WL_nil <| At_then ?_
      refine WC_ret ?_
      refine At_then_ret <| ?_
      refine At_r1 rfl (ResIs.t rfl) ?_
      cases hm
      exact ⟨rfl, (hs.re 21 [] rfl)⟩
     ·
      replace hm := bif_f hc169 hm
      refine WC_skip ?_
      refine At_then <| WC_seq <| WC_seq <| WC_region ?_
      iterate 2 refine W ?_
      refine WL_nil <| At_then ?_
      refine WC_cond (O rfl) (fun hc170 => ?_) (fun hc170 => ?_)
      ·
       replace hm := bif_t hc170 hm
       refine WC_seq <| WC_region ?_
       iterate 2 refine W ?_
       refine WG ?_
       obtain ⟨b171, e172, hm⟩ := letv_som hm
       refine WG ?_
       obtain ⟨b173, e174, hm⟩ := letv_som hm
       iterate 2 refine W ?_
       iterate 4 refine WG ?_
       obtain ⟨b175, e176, hm⟩ := letv_som hm
       refine WG ?_
       obtain ⟨b177, e178, hm⟩ := letv_som hm
       iterate 2 refine W ?_
       refine WL_nil <| At_then ?_
       refine WC_ret ?_
       refine At_then_ret <| ?_
       refine At_r1 rfl (ResIs.t rfl) ?_
       cases hm
       exact ⟨rfl, (hs.re 21 [] rfl)⟩
      ·
       replace hm := bif_f hc170 hm
       refine WC_skip ?_
       refine At_then <| WC_seq <| WC_region ?_
       iterate 2 refine W ?_
       refine WG ?_
       obtain ⟨b179, e180, hm⟩ := letv_som hm
       refine WG ?_
       obtain ⟨b181, e182, hm⟩ := letv_som hm
       iterate 2 refine W ?_
       iterate 4 refine WG ?_
       obtain ⟨b183, e184, hm⟩ := letv_som hm
       refine WG ?_
       obtain ⟨b185, e186, hm⟩ := letv_som hm
       iterate 2 refine W ?_
       iterate 6 refine WG ?_
       obtain ⟨b187, e188, hm⟩ := letv_som hm
       refine WG ?_
       obtain ⟨b189, e190, hm⟩ := letv_som hm
       iterate 2 refine W ?_
       refine WL_nil <| At_then ?_
       refine WC_ret ?_
       refine At_r1 rfl (ResIs.t rfl) ?_
       cases hm
       exact ⟨rfl, (hs.re 21 [] rfl)⟩
end Go.Proofs.YtdhgpnejphlfpaaDoor
