/- Printed by a program: the walks. -/
import Derived.Test.YtjappdgehmjomaaTypes
import Derived.Test.YtjappdgehmjomaaWalk3
import Derived.Test.YtjappdgehmjomaaWalk4
namespace Go.Proofs.Ytjappdgehmjomaa
open Go.Proofs

set_option maxRecDepth 100000 in
set_option maxHeartbeats 4000000 in
theorem dfa_numbers_Push_ok {Φ : Ctx} {w : World} {x : Int} {h : (List Int)} {b : Nat} {v2 : SLV} {R : List Nat} {r : (List Int)} (hs : Sat (box b 78 [(sl v2)] :: osl (RI .i64) 3 (sl v2) h R :: Φ) w) (hm : dfa_numbers_Push x h = some r) :
    CallsR Try.prog 71 [(.pointer (some ⟨b, 0, none⟩)), (.iface 3 (.int .i64 x))] w (fun v w' => ∃ v3 : SLV, ∃ R4 : List Nat, v = (.tuple #[]) ∧ Sat (box b 78 [(sl v3)] :: osl (RI .i64) 3 (sl v3) r R4 :: Φ) w') := by
  refine CallsX_enter Try.func71 rfl Try.ntmps71 rfl ?_
  unfold dfa_numbers_Push at hm
  refine WC_region_mixed [0, 0, 2, 4, 0, 16, 32, 72, 255, 511] (.q 0 0 (.q 1 1 (.q 2 3 (.q 3 7 (.q 4 15 (.q 5 31 (.l 6 63 (.l 7 127 (.q 8 255 (.l 9 511 .nil)))))))))) (by kernel_rfl) (by kernel_rfl) ?_
  intro w5 hx6
  replace hs := hs.ext hx6
  refine WD_pure (fun _ => (Run_move (Opd.t rfl))) rfl rfl rfl rfl <| WD_pure (fun _ => (Run_move (Opd.t rfl))) rfl rfl rfl rfl <| WD_pure (fun _ => (Run_nilP (Opd.t rfl))) rfl rfl rfl rfl <| WD_op (fun w => CellsAt w ⟨b, 0, none⟩ [(sl v2)]) ((hs.box (i := 0) rfl).part 0 rfl) (fun _ hJ => (Run_load1 (v := (sl v2)) Try.underlying78 rfl (Opd.t rfl) (fun _ => hJ))) rfl rfl rfl rfl <| WD_pure (fun _ => (Run_move (Opd.t rfl))) rfl rfl rfl rfl <| WD_pure (fun _ => (Run_tassert Try.underlying3 rfl (Opd.t rfl))) rfl rfl rfl rfl <| ?_
  refine WD_loud (pend' := [(3, fun w => CellsAt w ⟨b, 0, none⟩ [(sl v2)])]) rfl (by kernel_rfl) ?_
  refine WS_lit (A := (RI .i64)) (xs := [x]) (zs := [(.int .i64 0)]) (cells := [(.int .i64 x)]) (parts := [(0, (.tmp 9))]) hs Try.underlying78 ti3 rfl rfl rfl (.cons (Opd.t rfl) .nil) (by kernel_rfl) rfl (ARd.cons (A := (RI .i64)) (c := [(.int .i64 x)]) (x := x) rfl ARd.nil) rfl ?_
  intro b7 w8 hs
  replace hs := Sat.n3 (Γ := Φ) hs rfl
  refine WL_nil ?_
  refine At_QK (allJ_cons ((hs.box (i := 1) rfl).part 0 rfl) allJ_nil) ?_
  refine WD_loud (pend' := []) rfl (by kernel_rfl) ?_
  replace hs := hs.freeze (i := 0) rfl
  obtain ⟨k9, hm⟩ := chk_some hm
  refine WS_append (A := (RI .i64)) hs 2 rfl Try.underlying78 ti3 rfl rfl (Opd.t rfl) (Opd.t rfl) (hs.sl (i := 0) rfl) k9 rfl ?_
  intro v10 R11 w12 hs
  replace hs := Sat.n3 (Γ := Φ) hs rfl
  refine WL_nil ?_
  refine At_QK allJ_nil ?_
  refine WD_pure (fun _ => (Run_nilP (Opd.t rfl))) rfl rfl rfl rfl <| ?_
  refine WD_loud (pend' := []) rfl (by kernel_rfl) ?_
  refine WS_store (us := [(sl v10)]) (vs' := [(sl v10)]) hs 1 rfl ti78 (Opd.t rfl) (Opd.t rfl) rfl rfl rfl rfl rfl ?_
  intro w13 hs
  replace hs := Sat.n3 (Γ := Φ) hs rfl
  refine WL_nil ?_
  refine At_QK allJ_nil ?_
  refine WD_nil ?_
  refine At_e0 rfl  ?_
  cases hm
  exact ⟨v10, R11, rfl, (hs.re 3 [1, 2] rfl)⟩

set_option maxRecDepth 100000 in
set_option maxHeartbeats 4000000 in
theorem container_heap_up_s2_ok {Φ : Ctx} {w : World} {j : Int} {h : (List Int)} {b : Nat} {v2 : SLV} {R : List Nat} {r : (List Int)} (hs : Sat (box b 78 [(sl v2)] :: osl (RI .i64) 3 (sl v2) h R :: Φ) w) (hm : container_heap_up_s2 j h = some r) :
    CallsR Try.prog 45 [(.iface 80 (.pointer (some ⟨b, 0, none⟩))), (.int .i64 j)] w (fun v w' => v = (.tuple #[]) ∧ Sat (box b 78 [(sl v2)] :: osl (RI .i64) 3 (sl v2) r R :: Φ) w') := by
  refine CallsX_enter Try.func45 rfl Try.ntmps45 rfl ?_
  unfold container_heap_up_s2 at hm
  refine WC_block ?_
  refine WC_loop (σ := (List Int) × Int) (γ := Unit) (F := container_heap_up_s2_L1) (N := FUEL) (s0 := (h, j)) (r := r) (fun ⟨l4, j5⟩ (_ : Unit) w3 => Sat (box b 78 [(sl v2)] :: osl (RI .i64) 3 (sl v2) l4 R :: Φ) w3) (fun ⟨l4, j5⟩ (_ : Unit) => [(0, true, (.iface 80 (.pointer (some ⟨b, 0, none⟩)))), (1, true, (.int .i64 j5))]) hm () (hs.re 2 [0, 1] rfl) rfl ?_
  rintro again6 ⟨l4, j5⟩ _ w3 hm hs
  unfold container_heap_up_s2_L1 at hm
  dsimp only at hm
  refine WC_block ?_
  refine WC_seq ?_
  refine WC_region ?_
  refine WL_op (Run_move (Opd.t rfl)) rfl rfl rfl rfl <| WL_op (Run_sub (Opd.t rfl) Opd.c) rfl rfl rfl rfl <| WL_op (Run_quo (Opd.t rfl) Opd.c (by rfl)) rfl rfl rfl rfl <| WL_op (Run_assign (Opd.t rfl)) rfl rfl rfl rfl <| ?_
  refine WL_nil ?_
  refine At_then ?_
  refine WC_seq ?_
  refine WC_seq ?_
  refine WC_region ?_
  refine WL_op (Run_move (Opd.t rfl)) rfl rfl rfl rfl <| WL_op (Run_move (Opd.t rfl)) rfl rfl rfl rfl <| ?_
  obtain ⟨b7, e8, hm⟩ := letv_some hm
  refine WL_op (Run.eqB (Run_eqI (Opd.t rfl) (Opd.t rfl)) e8) rfl rfl rfl rfl <| WL_op (Run_move (Opd.t rfl)) rfl rfl rfl rfl <| WL_opG rfl rfl rfl rfl guard_neg (Run_move (Opd.t rfl)) rfl rfl rfl <| WL_opG rfl rfl rfl rfl guard_neg (Run_move (Opd.t rfl)) rfl rfl rfl <| WL_opG rfl rfl rfl rfl guard_neg (Run_move (Opd.t rfl)) rfl rfl rfl <| ?_
  obtain ⟨r9, hr10, -, hm⟩ := callG_some hm
  refine WL_invG rfl rfl rfl guard_neg (f := 68) (t := 80) (u := (.pointer (some ⟨b, 0, none⟩))) (u' := (sl v2)) (name := "Less") (xs := [(.tmp 13), (.tmp 14)]) (vs := [(.int .i64 j5), (.int .i64 (IntKind.i64.wrap (Int.tdiv (IntKind.i64.wrap (j5 - 1)) 2)))]) (args := [(sl v2), (.int .i64 j5), (.int .i64 (IntKind.i64.wrap (Int.tdiv (IntKind.i64.wrap (j5 - 1)) 2)))]) Try.call68 (Opd.g rfl id) (fun _ => (Reach.load me80_Less Try.underlying80 (run_load1 (v := (sl v2)) Try.underlying78 rfl (CellsAt.cell0 ((hs.box (i := 0) rfl).part (us := [(sl v2)]) 0 rfl) rfl)))) (.cons (Opd.g rfl id) (.cons (Opd.g rfl id) .nil)) rfl rfl (fun hg => dfa_numbers_Less_s2_ok (hs.re 2 [1, 0] rfl) (hr10 hg)) ?_
  intro v12 w11 hv13 hz14
  replace hs := Sat.ofG (fun hg => (hv13 hg).2.re 2 [1, 0] rfl) hz14 hs
  refine WL_sub1 (v := (.bool r9)) (fun hg => (hv13 hg).1) ?_
  replace hs := Sat.n2 (Γ := Φ) hs rfl
  obtain ⟨b15, e16, hm⟩ := letv_some hm
  refine WL_opG rfl rfl rfl rfl guard_neg (Run.eqB (Run_notB (Opd.g rfl id)) e16) rfl rfl rfl <| ?_
  obtain ⟨b17, e18, hm⟩ := letv_some hm
  refine WL_op (Run.eqB (Run_or (Opd.t rfl) (Opd.g rfl id)) e18) rfl rfl rfl rfl <| ?_
  refine WL_nil ?_
  refine At_then ?_
  refine WC_cond (Opd.t rfl) (fun hc19 => ?_) (fun hc19 => ?_)
  ·
    replace hm := bif_t hc19 hm
    refine WC_exit ?_
    refine At_then_exit <| At_blk_other rfl <| At_then_exit <| At_blk_here <| ?_
    refine At_e0 rfl  ?_
    cases hm
    exact ⟨rfl, (hs.re 2 [0, 1] rfl)⟩
  ·
    replace hm := bif_f hc19 hm
    refine WC_skip ?_
    refine At_then ?_
    refine WC_seq ?_
    refine WC_region ?_
    refine WL_op (Run_move (Opd.t rfl)) rfl rfl rfl rfl <| WL_op (Run_move (Opd.t rfl)) rfl rfl rfl rfl <| WL_op (Run_move (Opd.t rfl)) rfl rfl rfl rfl <| ?_
    obtain ⟨r20, hr21, hm⟩ := bind_some' hm
    refine WL_inv (f := 69) (t := 80) (u := (.pointer (some ⟨b, 0, none⟩))) (u' := (sl v2)) (name := "Swap") (xs := [(.tmp 19), (.tmp 20)]) (vs := [(.int .i64 (IntKind.i64.wrap (Int.tdiv (IntKind.i64.wrap (j5 - 1)) 2))), (.int .i64 j5)]) (args := [(sl v2), (.int .i64 (IntKind.i64.wrap (Int.tdiv (IntKind.i64.wrap (j5 - 1)) 2))), (.int .i64 j5)]) Try.call69 (Opd.t rfl) (Reach.load me80_Swap Try.underlying80 (run_load1 (v := (sl v2)) Try.underlying78 rfl (CellsAt.cell0 ((hs.box (i := 0) rfl).part (us := [(sl v2)]) 0 rfl) rfl))) (.cons (Opd.t rfl) (.cons (Opd.t rfl) .nil)) rfl rfl (dfa_numbers_Swap_s2_ok (hs.re 2 [1, 0] rfl) hr21) ?_
    rintro _ w22 ⟨rfl, hs⟩
    replace hs := Sat.n2 (Γ := Φ) hs rfl
    refine WL_nil ?_
    refine At_then ?_
    refine WC_region ?_
    refine WL_op (Run_move (Opd.t rfl)) rfl rfl rfl rfl <| WL_op (Run_assign (Opd.t rfl)) rfl rfl rfl rfl <| ?_
    refine WL_nil ?_
    refine At_blk_normal ?_
    exact At_again (r20, (IntKind.i64.wrap (Int.tdiv (IntKind.i64.wrap (j5 - 1)) 2))) () hm (hs.re 2 [1, 0] rfl) rfl

set_option maxRecDepth 100000 in
set_option maxHeartbeats 4000000 in
theorem container_heap_Push_ok {Φ : Ctx} {w : World} {x : Int} {h : (List Int)} {b : Nat} {v2 : SLV} {R : List Nat} {r : (List Int)} (hs : Sat (box b 78 [(sl v2)] :: osl (RI .i64) 3 (sl v2) h R :: Φ) w) (hm : container_heap_Push x h = some r) :
    CallsR Try.prog 38 [(.iface 80 (.pointer (some ⟨b, 0, none⟩))), (.iface 3 (.int .i64 x))] w (fun v w' => ∃ v3 : SLV, ∃ R4 : List Nat, v = (.tuple #[]) ∧ Sat (box b 78 [(sl v3)] :: osl (RI .i64) 3 (sl v3) r R4 :: Φ) w') := by
  refine CallsX_enter Try.func38 rfl Try.ntmps38 rfl ?_
  unfold container_heap_Push at hm
  refine WC_seq ?_
  refine WC_region ?_
  refine WL_op (Run_move (Opd.t rfl)) rfl rfl rfl rfl <| WL_op (Run_move (Opd.t rfl)) rfl rfl rfl rfl <| ?_
  obtain ⟨r5, hr6, hm⟩ := bind_some' hm
  refine WL_inv (f := 71) (t := 80) (u := (.pointer (some ⟨b, 0, none⟩))) (u' := (.pointer (some ⟨b, 0, none⟩))) (name := "Push") (xs := [(.tmp 5)]) (vs := [(.iface 3 (.int .i64 x))]) (args := [(.pointer (some ⟨b, 0, none⟩)), (.iface 3 (.int .i64 x))]) Try.call71 (Opd.t rfl) (Reach.ptr me80_Push Try.underlying80) (.cons (Opd.t rfl) .nil) rfl rfl (dfa_numbers_Push_ok (hs.re 2 [0, 1] rfl) hr6) ?_
  rintro _ w9 ⟨v7, R8, rfl, hs⟩
  replace hs := Sat.n2 (Γ := Φ) hs rfl
  refine WL_nil ?_
  refine At_then ?_
  refine WC_region ?_
  refine WL_op (Run_move (Opd.t rfl)) rfl rfl rfl rfl <| WL_op (Run_move (Opd.t rfl)) rfl rfl rfl rfl <| ?_
  obtain ⟨r10, hr11, hm⟩ := bind_some' hm
  refine WL_inv (f := 67) (t := 80) (u := (.pointer (some ⟨b, 0, none⟩))) (u' := (sl v7)) (name := "Len") (xs := []) (vs := []) (args := [(sl v7)]) Try.call67 (Opd.t rfl) (Reach.load me80_Len Try.underlying80 (run_load1 (v := (sl v7)) Try.underlying78 rfl (CellsAt.cell0 ((hs.box (i := 0) rfl).part (us := [(sl v7)]) 0 rfl) rfl))) .nil rfl rfl (dfa_numbers_Len_s2_ok (hs.re 2 [1, 0] rfl) hr11) ?_
  rintro _ w12 ⟨rfl, hs⟩
  replace hs := Sat.n2 (Γ := Φ) hs rfl
  refine WL_op (Run_sub (Opd.t rfl) Opd.c) rfl rfl rfl rfl <| ?_
  obtain ⟨r13, hr14, hm⟩ := bind_some' hm
  refine WL_call (f := 45) (first := []) (cap := []) (xs := [(.tmp 7), (.tmp 10)]) (vs := [(.iface 80 (.pointer (some ⟨b, 0, none⟩))), (.int .i64 (IntKind.i64.wrap (r10 - 1)))]) (args := [(.iface 80 (.pointer (some ⟨b, 0, none⟩))), (.int .i64 (IntKind.i64.wrap (r10 - 1)))]) Try.call45 Opd.f (.cons (Opd.t rfl) (.cons (Opd.t rfl) .nil)) rfl rfl (container_heap_up_s2_ok (hs.re 2 [1, 0] rfl) hr14) ?_
  rintro _ w15 ⟨rfl, hs⟩
  replace hs := Sat.n2 (Γ := Φ) hs rfl
  refine WL_nil ?_
  refine At_e0 rfl  ?_
  cases hm
  exact ⟨v7, R8, rfl, (hs.re 2 [0, 1] rfl)⟩

set_option maxRecDepth 100000 in
set_option maxHeartbeats 4000000 in
theorem dfa_work_leave_F_ok {k_dfa_work_leave : (Int × Int × (List ((List (Int × Int)) × Int)) × Int × Int × (List Int) × (Option (List (Int × Bool)))) → Option ((List ((List (Int × Int)) × Int)) × (List Int))} (ih_dfa_work_leave : ∀ {Φ : Ctx} {w : World} {i : Int} {Wide : Int} {Node : (List ((List (Int × Int)) × Int))} {Root : Int} {Many : Int} {Free : (List Int)} {young : (Option (List (Int × Bool)))} {b : Nat} {v2 : SLV} {R : List Nat} {v4 : SLV} {R5 : List Nat} {v7 : Option Nat} {r : ((List ((List (Int × Int)) × Int)) × (List Int))}, Sat (box b 56 [(.int .i64 Wide), (sl v2), (.int .i64 Root), (.int .i64 Many), (sl v4), (.map v7)] :: osl (RP (RSl (RP (RI .u8) (RI .i64))) (RI .i64)) 60 (sl v2) Node R :: osl (RI .i64) 3 (sl v4) Free R5 :: omap mk54 mv54 (.map v7) young :: Φ) w → k_dfa_work_leave (i, Wide, Node, Root, Many, Free, young) = some r → CallsR Try.prog 26 [(.pointer (some ⟨b, 0, none⟩)), (.int .i64 i)] w (fun v w' => ∃ v5 : SLV, ∃ R6 : List Nat, v = (.tuple #[]) ∧ Sat (box b 56 [(.int .i64 Wide), (sl v2), (.int .i64 Root), (.int .i64 Many), (sl v5), (.map v7)] :: osl (RP (RSl (RP (RI .u8) (RI .i64))) (RI .i64)) 60 (sl v2) r.1 R :: osl (RI .i64) 3 (sl v5) r.2 R6 :: omap mk54 mv54 (.map v7) young :: Φ) w')) {Φ : Ctx} {w : World} {i : Int} {Wide : Int} {Node : (List ((List (Int × Int)) × Int))} {Root : Int} {Many : Int} {Free : (List Int)} {young : (Option (List (Int × Bool)))} {b : Nat} {v2 : SLV} {R : List Nat} {v4 : SLV} {R5 : List Nat} {v7 : Option Nat} {r : ((List ((List (Int × Int)) × Int)) × (List Int))} (hs : Sat (box b 56 [(.int .i64 Wide), (sl v2), (.int .i64 Root), (.int .i64 Many), (sl v4), (.map v7)] :: osl (RP (RSl (RP (RI .u8) (RI .i64))) (RI .i64)) 60 (sl v2) Node R :: osl (RI .i64) 3 (sl v4) Free R5 :: omap mk54 mv54 (.map v7) young :: Φ) w) (hm : dfa_work_leave_F k_dfa_work_leave i Wide Node Root Many Free young = some r) :
    CallsR Try.prog 26 [(.pointer (some ⟨b, 0, none⟩)), (.int .i64 i)] w (fun v w' => ∃ v5 : SLV, ∃ R6 : List Nat, v = (.tuple #[]) ∧ Sat (box b 56 [(.int .i64 Wide), (sl v2), (.int .i64 Root), (.int .i64 Many), (sl v5), (.map v7)] :: osl (RP (RSl (RP (RI .u8) (RI .i64))) (RI .i64)) 60 (sl v2) r.1 R :: osl (RI .i64) 3 (sl v5) r.2 R6 :: omap mk54 mv54 (.map v7) young :: Φ) w') := by
  refine CallsX_enter Try.func26 rfl Try.ntmps26 rfl ?_
  unfold dfa_work_leave_F at hm
  refine WC_seq ?_
  refine WC_region ?_
  refine WL_op (Run_move (Opd.t rfl)) rfl rfl rfl rfl <| WL_op (Run_nilP (Opd.t rfl)) rfl rfl rfl rfl <| WL_op (Run_fieldAddr fo56_0 (Opd.t rfl)) rfl rfl rfl rfl <| WL_op (Run_fieldAddr fo29_1 (Opd.t rfl)) rfl rfl rfl rfl <| WL_op (Run_load1 (v := (sl v2)) Try.underlying26 rfl (Opd.t rfl) (fun _ => (hs.box (i := 0) rfl).part 1 rfl)) rfl rfl rfl rfl <| WL_op (Run_move (Opd.t rfl)) rfl rfl rfl rfl <| ?_
  obtain ⟨e7, he8, hm⟩ := bind_some' hm
  obtain ⟨v9, hC10, hN11, hR12⟩ := cellsMO60 (g := true) (fun hg => (hs.own (i := 1) rfl)) (fun hg => he8)
  replace hs := hs.addL [imm (RSl (RP (RI .u8) (RI .i64))) [sl v9] e7.1] rfl ⟨⟨_, rfl, hR12 rfl⟩, trivial⟩
  replace hs := Sat.n5 (Γ := Φ) hs rfl
  refine WL_op (Run_idxAddr (p := (elA (sl v2) i 2)) Try.underlying26 ti60 (Opd.t rfl) (Opd.t rfl) (fun hg => (Own.atA (A := (RP (RSl (RP (RI .u8) (RI .i64))) (RI .i64))) (v := (sl v2)) (hs.own (i := 2) rfl) he8).1)) rfl rfl rfl rfl <| WL_op (Run_fieldAddr fo60_1 (Opd.t rfl)) rfl rfl rfl rfl <| WL_op (Run_load1 (v := (.int .i64 e7.2)) Try.underlying3 rfl (Opd.t rfl) (fun hg => ((hC10 hg).sub (us := [(.int .i64 e7.2)]) 1 rfl).sub 0 rfl)) rfl rfl rfl rfl <| WL_op (Run_sub (Opd.t rfl) Opd.c) rfl rfl rfl rfl <| ?_
  obtain ⟨e13, he14, hm⟩ := bind_some' hm
  obtain ⟨v15, hC16, hN17, hR18⟩ := cellsMO60 (g := true) (fun hg => (hs.own (i := 2) rfl)) (fun hg => he14)
  replace hs := hs.addL [imm (RSl (RP (RI .u8) (RI .i64))) [sl v15] e13.1] rfl ⟨⟨_, rfl, hR18 rfl⟩, trivial⟩
  replace hs := Sat.n6 (Γ := Φ) hs rfl
  refine WL_op (Run_idxAddr (p := (elA (sl v2) i 2)) Try.underlying26 ti60 (Opd.t rfl) (Opd.t rfl) (fun hg => (Own.atA (A := (RP (RSl (RP (RI .u8) (RI .i64))) (RI .i64))) (v := (sl v2)) (hs.own (i := 3) rfl) he14).1)) rfl rfl rfl rfl <| WL_op (Run_fieldAddr fo60_1 (Opd.t rfl)) rfl rfl rfl rfl <| ?_
  refine WS_storeEl (A := (RP (RSl (RP (RI .u8) (RI .i64))) (RI .i64))) (k := 1) (us := [(.int .i64 (IntKind.i64.wrap (e7.2 - 1)))]) (vs := [(sl v15), (.int .i64 e13.2)]) (vs' := [(sl v15), (.int .i64 (IntKind.i64.wrap (e7.2 - 1)))]) (u := (e13.1, (IntKind.i64.wrap (e7.2 - 1)))) hs 3 rfl ti3 he14 (Opd.t rfl) (Opd.t rfl) rfl rfl rfl (hC16 rfl) rfl rfl rfl ⟨_, _, rfl, ⟨_, rfl, (hs.sl (i := 0) rfl)⟩, rfl⟩ ?_
  intro w19 hs
  replace hs := Sat.n6 (Γ := Φ) hs rfl
  refine WL_nil ?_
  refine At_then ?_
  refine WC_seq ?_
  refine WC_seq ?_
  refine WC_region ?_
  refine WL_op (Run_move (Opd.t rfl)) rfl rfl rfl rfl <| WL_op (Run_nilP (Opd.t rfl)) rfl rfl rfl rfl <| WL_op (Run_fieldAddr fo56_0 (Opd.t rfl)) rfl rfl rfl rfl <| WL_op (Run_fieldAddr fo29_1 (Opd.t rfl)) rfl rfl rfl rfl <| WL_op (Run_load1 (v := (sl v2)) Try.underlying26 rfl (Opd.t rfl) (fun _ => (hs.box (i := 2) rfl).part 1 rfl)) rfl rfl rfl rfl <| WL_op (Run_move (Opd.t rfl)) rfl rfl rfl rfl <| ?_
  obtain ⟨e20, he21, hm⟩ := bind_some' hm
  obtain ⟨v22, hC23, hN24, hR25⟩ := cellsMO60 (g := true) (fun hg => (hs.own (i := 3) rfl)) (fun hg => he21)
  replace hs := hs.addL [imm (RSl (RP (RI .u8) (RI .i64))) [sl v22] e20.1] rfl ⟨⟨_, rfl, hR25 rfl⟩, trivial⟩
  replace hs := Sat.n7 (Γ := Φ) hs rfl
  refine WL_op (Run_idxAddr (p := (elA (sl v2) i 2)) Try.underlying26 ti60 (Opd.t rfl) (Opd.t rfl) (fun hg => (Own.atA (A := (RP (RSl (RP (RI .u8) (RI .i64))) (RI .i64))) (v := (sl v2)) (hs.own (i := 4) rfl) he21).1)) rfl rfl rfl rfl <| WL_op (Run_fieldAddr fo60_1 (Opd.t rfl)) rfl rfl rfl rfl <| WL_op (Run_load1 (v := (.int .i64 e20.2)) Try.underlying3 rfl (Opd.t rfl) (fun hg => ((hC23 hg).sub (us := [(.int .i64 e20.2)]) 1 rfl).sub 0 rfl)) rfl rfl rfl rfl <| WL_op (Run_gtI (Opd.t rfl) Opd.c) rfl rfl rfl rfl <| ?_
  refine WL_nil ?_
  refine At_then ?_
  refine WC_cond (Opd.t rfl) (fun hc26 => ?_) (fun hc26 => ?_)
  ·
    replace hm := bif_t hc26 hm
    refine WC_ret ?_
    refine At_then_ret <| ?_
    refine At_r0 rfl  ?_
    cases hm
    exact ⟨v4, R5, rfl, (hs.re 7 [3, 4, 5, 6] rfl)⟩
  ·
    replace hm := bif_f hc26 hm
    refine WC_skip ?_
    refine At_then ?_
    refine WC_seq ?_
    refine WC_region ?_
    refine WL_op (Run_move (Opd.t rfl)) rfl rfl rfl rfl <| WL_op (Run_makeFunc (first := [(.tmp 30)]) (cap := []) (.cons (Opd.t rfl) .nil) .nil) rfl rfl rfl rfl <| WL_op (Run_assign (Opd.t rfl)) rfl rfl rfl rfl <| ?_
    refine WL_nil ?_
    refine At_then ?_
    refine WC_seq ?_
    refine WC_seq ?_
    refine WC_region ?_
    refine WL_op (Run_move (Opd.t rfl)) rfl rfl rfl rfl <| WL_op (Run_nilP (Opd.t rfl)) rfl rfl rfl rfl <| WL_op (Run_fieldAddr fo56_0 (Opd.t rfl)) rfl rfl rfl rfl <| WL_op (Run_fieldAddr fo29_1 (Opd.t rfl)) rfl rfl rfl rfl <| WL_op (Run_load1 (v := (sl v2)) Try.underlying26 rfl (Opd.t rfl) (fun _ => (hs.box (i := 3) rfl).part 1 rfl)) rfl rfl rfl rfl <| WL_op (Run_move (Opd.t rfl)) rfl rfl rfl rfl <| ?_
    obtain ⟨e27, he28, hm⟩ := bind_some' hm
    obtain ⟨v29, hC30, hN31, hR32⟩ := cellsMO60 (g := true) (fun hg => (hs.own (i := 4) rfl)) (fun hg => he28)
    replace hs := hs.addL [imm (RSl (RP (RI .u8) (RI .i64))) [sl v29] e27.1] rfl ⟨⟨_, rfl, hR32 rfl⟩, trivial⟩
    replace hs := Sat.n8 (Γ := Φ) hs rfl
    refine WL_op (Run_idxAddr (p := (elA (sl v2) i 2)) Try.underlying26 ti60 (Opd.t rfl) (Opd.t rfl) (fun hg => (Own.atA (A := (RP (RSl (RP (RI .u8) (RI .i64))) (RI .i64))) (v := (sl v2)) (hs.own (i := 5) rfl) he28).1)) rfl rfl rfl rfl <| WL_op (Run_fieldAddr fo60_0 (Opd.t rfl)) rfl rfl rfl rfl <| WL_op (Run_load1 (v := (sl v29)) Try.underlying58 rfl (Opd.t rfl) (fun hg => ((hC30 hg).sub (us := [(sl v29)]) 0 rfl).sub 0 rfl)) rfl rfl rfl rfl <| WL_op (Run_lenSlG Try.underlying58 (Opd.t rfl) (fun hg => (hs.sl (i := 0) rfl).len)) rfl rfl rfl rfl <| WL_op (Run_move Opd.c) rfl rfl rfl rfl <| ?_
    refine WL_nil ?_
    refine At_then ?_
    refine WC_block ?_
    refine WC_loop (σ := (List ((List (Int × Int)) × Int)) × (List Int) × Int) (γ := SLV × List Nat) (F := (dfa_work_leave_L1 k_dfa_work_leave i Wide Root Many young e27)) (N := FUEL) (s0 := ((List.set Node (Int.toNat i) (e13.1, (IntKind.i64.wrap (e7.2 - 1)))), Free, 0)) (r := r) (fun ⟨l34, c35, t38⟩ ⟨v36, R37⟩ w33 => Sat (box b 56 [(.int .i64 Wide), (sl v2), (.int .i64 Root), (.int .i64 Many), (sl v36), (.map v7)] :: osl (RP (RSl (RP (RI .u8) (RI .i64))) (RI .i64)) 60 (sl v2) l34 R :: osl (RI .i64) 3 (sl v36) c35 R37 :: omap mk54 mv54 (.map v7) young :: imm (RSl (RP (RI .u8) (RI .i64))) [sl v29] e27.1 :: Φ) w33) (fun ⟨l34, c35, t38⟩ ⟨v36, R37⟩ => [(0, true, (.pointer (some ⟨b, 0, none⟩))), (1, true, (.int .i64 i)), (4, true, (.func (.func 26) #[(.pointer (some ⟨b, 0, none⟩))] #[])), (40, true, (sl v29)), (41, true, (.int .i64 (List.length e27.1 : Int))), (42, true, (.int .i64 t38))]) hm (v4, R5) (hs.re 8 [4, 5, 6, 7, 0] rfl) rfl ?_
    rintro again39 ⟨l34, c35, t38⟩ ⟨v36, R37⟩ w33 hm hs
    unfold dfa_work_leave_L1 at hm
    dsimp only at hm
    refine WC_seq ?_
    refine WC_region ?_
    refine WL_op (Run_ltI (Opd.t rfl) (Opd.t rfl)) rfl rfl rfl rfl <| ?_
    refine WL_nil ?_
    refine At_then ?_
    refine WC_seq ?_
    refine WC_cond (Opd.t rfl) (fun hc40 => ?_) (fun hc40 => ?_)
    ·
      replace hm := bif_t hc40 hm
      refine WC_skip ?_
      refine At_then ?_
      refine WC_seq ?_
      refine WC_block ?_
      refine WC_seq ?_
      refine WC_region ?_
      obtain ⟨e41, he42, hm⟩ := bind_some' hm
      refine WL_op (Run_idxAddr (p := (elA (sl v29) t38 2)) Try.underlying58 ti69 (Opd.t rfl) (Opd.t rfl) (fun hg => (SRd.atA (A := (RP (RI .u8) (RI .i64))) (v := (sl v29)) (hs.sl (i := 4) rfl) he42).1)) rfl rfl rfl rfl <| WL_op (Run_loadA (vs := [(.int .u8 e41.1), (.int .i64 e41.2)]) Try.underlying69 rfl ti69 (Opd.t rfl) (fun hg => (SRd.cellsF (A := (RP (RI .u8) (RI .i64))) (v := (sl v29)) (hs.sl (i := 4) rfl) he42 (fun _ h => openT69 h)).sub 0 rfl) rfl) rfl rfl rfl rfl <| ?_
      refine WS_alloc (zs := [(.int .u8 0), (.int .i64 0)]) hs ti69 rfl rfl ?_
      intro b43 w44 hs
      replace hs := Sat.n6 (Γ := Φ) hs rfl
      refine WS_store (us := [(.int .u8 e41.1), (.int .i64 e41.2)]) (vs' := [(.int .u8 e41.1), (.int .i64 e41.2)]) hs 0 rfl ti69 (Opd.t rfl) (Opd.t rfl) rfl rfl rfl rfl rfl ?_
      intro w45 hs
      replace hs := Sat.n6 (Γ := Φ) hs rfl
      refine WL_nil ?_
      refine At_then ?_
      refine WC_region ?_
      refine WL_op (Run_move (Opd.t rfl)) rfl rfl rfl rfl <| WL_op (Run_fieldAddr fo69_1 (Opd.t rfl)) rfl rfl rfl rfl <| WL_op (Run_load1 (v := (.int .i64 e41.2)) Try.underlying3 rfl (Opd.t rfl) (fun _ => (hs.box (i := 0) rfl).part 1 rfl)) rfl rfl rfl rfl <| ?_
      obtain ⟨r46, hr47, hm⟩ := bind_some' hm
      refine WL_call (f := 26) (first := [(.pointer (some ⟨b, 0, none⟩))]) (cap := []) (xs := [(.tmp 48)]) (vs := [(.int .i64 e41.2)]) (args := [(.pointer (some ⟨b, 0, none⟩)), (.int .i64 e41.2)]) Try.call26 (Opd.t rfl) (.cons (Opd.t rfl) .nil) rfl rfl (ih_dfa_work_leave (hs.re 6 [1, 2, 3, 4, 0, 5] rfl) hr47) ?_
      rintro _ w50 ⟨v48, R49, rfl, hs⟩
      replace hs := Sat.n6 (Γ := Φ) hs rfl
      refine WL_nil ?_
      refine At_blk_normal ?_
      refine At_then ?_
      refine WC_region ?_
      refine WL_op (Run_add (Opd.t rfl) Opd.c) rfl rfl rfl rfl <| WL_op (Run_move (Opd.t rfl)) rfl rfl rfl rfl <| ?_
      refine WL_nil ?_
      exact At_again (r46.1, r46.2, (IntKind.i64.wrap (t38 + 1))) (v48, R49) hm (hs.re 6 [0, 1, 2, 3, 5] rfl) rfl
    ·
      replace hm := bif_f hc40 hm
      refine WC_exit ?_
      refine At_then_exit <| At_then_exit <| At_blk_here <| ?_
      refine At_then ?_
      refine WC_seq ?_
      refine WC_region ?_
      refine WL_op (Run_move (Opd.t rfl)) rfl rfl rfl rfl <| WL_op (Run_nilP (Opd.t rfl)) rfl rfl rfl rfl <| WL_op (Run_fieldAddr fo56_0 (Opd.t rfl)) rfl rfl rfl rfl <| WL_op (Run_fieldAddr fo29_1 (Opd.t rfl)) rfl rfl rfl rfl <| WL_op (Run_load1 (v := (sl v2)) Try.underlying26 rfl (Opd.t rfl) (fun _ => (hs.box (i := 0) rfl).part 1 rfl)) rfl rfl rfl rfl <| WL_op (Run_move (Opd.t rfl)) rfl rfl rfl rfl <| WL_op (Run_build (parts := []) (v := (.agg #[(sl (none, 0, 0)), (.int .i64 0)])) .nil (fun _ => by kernel_rfl)) rfl rfl rfl rfl <| ?_
      obtain ⟨e51, he52, hm⟩ := bind_some' hm
      obtain ⟨v53, hC54, hN55, hR56⟩ := cellsMO60 (g := true) (fun hg => (hs.own (i := 1) rfl)) (fun hg => he52)
      replace hs := hs.addL [imm (RSl (RP (RI .u8) (RI .i64))) [sl v53] e51.1] rfl ⟨⟨_, rfl, hR56 rfl⟩, trivial⟩
      replace hs := Sat.n6 (Γ := Φ) hs rfl
      refine WL_op (Run_idxAddr (p := (elA (sl v2) i 2)) Try.underlying26 ti60 (Opd.t rfl) (Opd.t rfl) (fun hg => (Own.atA (A := (RP (RSl (RP (RI .u8) (RI .i64))) (RI .i64))) (v := (sl v2)) (hs.own (i := 2) rfl) he52).1)) rfl rfl rfl rfl <| ?_
      refine WS_storeElA (A := (RP (RSl (RP (RI .u8) (RI .i64))) (RI .i64))) (us := [(sl (none, 0, 0)), (.int .i64 0)]) (u := ([], 0)) hs 2 rfl ti60 (idx_inB he52 (by simp)) (Opd.t rfl) (Opd.t rfl) rfl rfl rfl rfl ⟨_, _, rfl, ⟨_, rfl, SRd.nil⟩, rfl⟩ ?_
      intro w57 hs
      replace hs := Sat.n6 (Γ := Φ) hs rfl
      refine WL_nil ?_
      refine At_then ?_
      refine WC_seq ?_
      refine WC_region ?_
      refine WL_op (Run_move (Opd.t rfl)) rfl rfl rfl rfl <| WL_op (Run_nilP (Opd.t rfl)) rfl rfl rfl rfl <| WL_op (Run_fieldAddr fo56_0 (Opd.t rfl)) rfl rfl rfl rfl <| WL_op (Run_fieldAddr fo29_4 (Opd.t rfl)) rfl rfl rfl rfl <| WL_op (Run_load1 (v := (sl v36)) Try.underlying27 rfl (Opd.t rfl) (fun _ => (hs.box (i := 1) rfl).part 4 rfl)) rfl rfl rfl rfl <| ?_
      refine WS_alloc (zs := [(sl (none, 0, 0))]) hs ti78 rfl rfl ?_
      intro b58 w59 hs
      replace hs := Sat.n7 (Γ := Φ) hs rfl
      refine WS_store (us := [(sl v36)]) (vs' := [(sl v36)]) hs 0 rfl ti78 (Opd.t rfl) (Opd.t rfl) rfl rfl rfl rfl rfl ?_
      intro w60 hs
      replace hs := Sat.n7 (Γ := Φ) hs rfl
      refine WL_nil ?_
      refine At_then ?_
      refine WC_seq ?_
      refine WC_region ?_
      refine WL_op (Run_mkIface Try.underlying80 rfl (Opd.t rfl)) rfl rfl rfl rfl <| WL_op (Run_move (Opd.t rfl)) rfl rfl rfl rfl <| WL_op (Run_mkIface Try.underlying3 rfl (Opd.t rfl)) rfl rfl rfl rfl <| ?_
      obtain ⟨r61, hr62, hm⟩ := bind_some' hm
      refine WL_call (f := 38) (first := []) (cap := []) (xs := [(.tmp 64), (.tmp 66)]) (vs := [(.iface 80 (.pointer (some ⟨b58, 0, none⟩))), (.iface 3 (.int .i64 i))]) (args := [(.iface 80 (.pointer (some ⟨b58, 0, none⟩))), (.iface 3 (.int .i64 i))]) Try.call38 Opd.f (.cons (Opd.t rfl) (.cons (Opd.t rfl) .nil)) rfl rfl (container_heap_Push_ok (hs.re 7 [0, 4, 1, 2, 3, 5, 6] rfl) hr62) ?_
      rintro _ w65 ⟨v63, R64, rfl, hs⟩
      replace hs := Sat.n7 (Γ := Φ) hs rfl
      refine WL_nil ?_
      refine At_then ?_
      refine WC_region ?_
      refine WL_op (Run_move (Opd.t rfl)) rfl rfl rfl rfl <| WL_op (Run_load1 (v := (sl v63)) Try.underlying78 rfl (Opd.t rfl) (fun _ => (hs.box (i := 0) rfl).part 0 rfl)) rfl rfl rfl rfl <| WL_op (Run_nilP (Opd.t rfl)) rfl rfl rfl rfl <| WL_op (Run_fieldAddr fo56_0 (Opd.t rfl)) rfl rfl rfl rfl <| WL_op (Run_fieldAddr fo29_4 (Opd.t rfl)) rfl rfl rfl rfl <| ?_
      refine WS_store (us := [(sl v63)]) (vs' := [(.int .i64 Wide), (sl v2), (.int .i64 Root), (.int .i64 Many), (sl v63), (.map v7)]) hs 3 rfl ti27 (Opd.t rfl) (Opd.t rfl) rfl rfl rfl rfl rfl ?_
      intro w66 hs
      replace hs := Sat.n7 (Γ := Φ) hs rfl
      refine WL_nil ?_
      refine At_e0 rfl  ?_
      cases hm
      exact ⟨v63, R64, rfl, (hs.re 7 [3, 4, 1, 5] rfl)⟩

set_option maxRecDepth 100000 in
set_option maxHeartbeats 4000000 in
theorem dfa_work_leave_ok {Φ : Ctx} {w : World} {i : Int} {Wide : Int} {Node : (List ((List (Int × Int)) × Int))} {Root : Int} {Many : Int} {Free : (List Int)} {young : (Option (List (Int × Bool)))} {b : Nat} {v2 : SLV} {R : List Nat} {v4 : SLV} {R5 : List Nat} {v7 : Option Nat} {r : ((List ((List (Int × Int)) × Int)) × (List Int))} (hs : Sat (box b 56 [(.int .i64 Wide), (sl v2), (.int .i64 Root), (.int .i64 Many), (sl v4), (.map v7)] :: osl (RP (RSl (RP (RI .u8) (RI .i64))) (RI .i64)) 60 (sl v2) Node R :: osl (RI .i64) 3 (sl v4) Free R5 :: omap mk54 mv54 (.map v7) young :: Φ) w) (hm : dfa_work_leave i Wide Node Root Many Free young = some r) :
    CallsR Try.prog 26 [(.pointer (some ⟨b, 0, none⟩)), (.int .i64 i)] w (fun v w' => ∃ v5 : SLV, ∃ R6 : List Nat, v = (.tuple #[]) ∧ Sat (box b 56 [(.int .i64 Wide), (sl v2), (.int .i64 Root), (.int .i64 Many), (sl v5), (.map v7)] :: osl (RP (RSl (RP (RI .u8) (RI .i64))) (RI .i64)) 60 (sl v2) r.1 R :: osl (RI .i64) 3 (sl v5) r.2 R6 :: omap mk54 mv54 (.map v7) young :: Φ) w') := by
  have key : ∀ (N : Nat) {Φ : Ctx} {w : World} {i : Int} {Wide : Int} {Node : (List ((List (Int × Int)) × Int))} {Root : Int} {Many : Int} {Free : (List Int)} {young : (Option (List (Int × Bool)))} {b : Nat} {v2 : SLV} {R : List Nat} {v4 : SLV} {R5 : List Nat} {v7 : Option Nat} {r : ((List ((List (Int × Int)) × Int)) × (List Int))}, Sat (box b 56 [(.int .i64 Wide), (sl v2), (.int .i64 Root), (.int .i64 Many), (sl v4), (.map v7)] :: osl (RP (RSl (RP (RI .u8) (RI .i64))) (RI .i64)) 60 (sl v2) Node R :: osl (RI .i64) 3 (sl v4) Free R5 :: omap mk54 mv54 (.map v7) young :: Φ) w → fixN (fun k (s : (Int × Int × (List ((List (Int × Int)) × Int)) × Int × Int × (List Int) × (Option (List (Int × Bool))))) => dfa_work_leave_F k s.1 s.2.1 s.2.2.1 s.2.2.2.1 s.2.2.2.2.1 s.2.2.2.2.2.1 s.2.2.2.2.2.2) N (i, Wide, Node, Root, Many, Free, young) = some r → CallsR Try.prog 26 [(.pointer (some ⟨b, 0, none⟩)), (.int .i64 i)] w (fun v w' => ∃ v5 : SLV, ∃ R6 : List Nat, v = (.tuple #[]) ∧ Sat (box b 56 [(.int .i64 Wide), (sl v2), (.int .i64 Root), (.int .i64 Many), (sl v5), (.map v7)] :: osl (RP (RSl (RP (RI .u8) (RI .i64))) (RI .i64)) 60 (sl v2) r.1 R :: osl (RI .i64) 3 (sl v5) r.2 R6 :: omap mk54 mv54 (.map v7) young :: Φ) w') := by
    intro N
    induction N with
    | zero => intros; rename_i h; cases h
    | succ N ih => intros; rename_i hs hm; rw [fixN_succ] at hm; exact dfa_work_leave_F_ok (@ih) hs hm
  unfold dfa_work_leave at hm
  exact key FUEL hs hm

end Go.Proofs.Ytjappdgehmjomaa
