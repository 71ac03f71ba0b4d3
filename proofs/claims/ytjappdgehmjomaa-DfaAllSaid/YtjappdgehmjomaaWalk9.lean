/- Printed by a program: the walks. -/
import Derived.Test.YtjappdgehmjomaaTypes
import Derived.Test.YtjappdgehmjomaaWalk8
namespace Go.Proofs.Ytjappdgehmjomaa
open Go.Proofs

set_option maxRecDepth 100000 in
set_option maxHeartbeats 4000000 in
theorem slices_Clone_byte_byte_ok {Φ : Ctx} {w : World} {s : (List Int)} {v1 : SLV} {r : (List Int)} (hs : Sat (imm (RSl (RI .u8)) [sl v1] s :: Φ) w) (hm : slices_Clone_byte_byte s = some r) :
    CallsR Try.prog 29 [(sl v1)] w (fun v w' => ∃ v3 : SLV, ∃ R4 : List Nat, v = (sl v3) ∧ Sat (osl (RI .u8) 5 (sl v3) r R4 :: Φ) w') := by
  refine CallsX_enter Try.func29 rfl Try.ntmps29 rfl ?_
  unfold slices_Clone_byte_byte at hm
  refine WC_seq ?_
  refine WC_region ?_
  refine WL_op (Run_assign Opd.c) rfl rfl rfl rfl <| ?_
  refine WL_nil ?_
  refine At_then ?_
  refine WC_seq ?_
  refine WC_seq ?_
  refine WC_region ?_
  refine WL_op (Run_move (Opd.t rfl)) rfl rfl rfl rfl <| ?_
  rcases srd_nilcase (hs.sl (i := 0) rfl) with ⟨rfl, rfl⟩ | hv5
  ·
    replace hm : (some []) = some r := hm
    refine WL_op (Run.eqB (Run_eqNilSl Try.underlying23 (Opd.t rfl) ((hs.sl (i := 0) rfl).len) Opd.c) rfl) rfl rfl rfl rfl <| ?_
    refine WL_nil ?_
    refine At_then ?_
    refine WC_cond (Opd.t rfl) (fun _ => ?_) (fun h => by cases h)
    refine WC_seq ?_
    refine WC_region ?_
    refine WL_op (Run_assign Opd.c) rfl rfl rfl rfl <| ?_
    refine WL_nil ?_
    refine At_then ?_
    refine WC_ret ?_
    refine At_then_ret <| ?_
    refine At_r1 rfl (ResIs.t rfl) ?_
    replace hs := hs.addNil (RI .u8) 5
    cases hm
    exact ⟨(none, 0, 0), [], rfl, (hs.re 2 [0] rfl)⟩
  ·
    refine WL_op (Run.eqB (Run_eqNilSl Try.underlying23 (Opd.t rfl) ((hs.sl (i := 0) rfl).len) Opd.c) hv5) rfl rfl rfl rfl <| ?_
    refine WL_nil ?_
    refine At_then ?_
    refine WC_cond (Opd.t rfl) (fun h => by cases h) (fun _ => ?_)
    refine WC_skip ?_
    refine At_then ?_
    refine WC_seq ?_
    refine WC_region ?_
    refine WS_lit0 (A := (RI .u8)) hs Try.underlying23 ti5 rfl ?_
    intro b6 w7 hs
    replace hs := Sat.n2 (Γ := Φ) hs rfl
    refine WL_op (Run_move (Opd.t rfl)) rfl rfl rfl rfl <| ?_
    obtain ⟨k8, hm⟩ := chk_some hm
    refine WS_append (A := (RI .u8)) hs 0 rfl Try.underlying23 ti5 rfl rfl (Opd.t rfl) (Opd.t rfl) (hs.sl (i := 1) rfl) k8 rfl ?_
    intro v9 R10 w11 hs
    replace hs := Sat.n2 (Γ := Φ) hs rfl
    refine WL_op (Run_assign (Opd.t rfl)) rfl rfl rfl rfl <| ?_
    refine WL_nil ?_
    refine At_then ?_
    refine WC_ret ?_
    refine At_r1 rfl (ResIs.t rfl) ?_
    cases hm
    exact ⟨v9, R10, rfl, (hs.re 2 [0] rfl)⟩

set_option maxRecDepth 100000 in
set_option maxHeartbeats 4000000 in
theorem dfa_Words_c1_F_ok {k_dfa_Words_c1 : (Int × (List Int) × Int × (List ((List (Int × Int)) × Int)) × Int × Int × (List Int) × (List (List Int))) → Option (List (List Int))} (ih_dfa_Words_c1 : ∀ {Φ : Ctx} {w : World} {at_ : Int} {begun : (List Int)} {Wide : Int} {Node : (List ((List (Int × Int)) × Int))} {Root : Int} {Many : Int} {Free : (List Int)} {x : (List (List Int))} {v1 : SLV} {b : Nat} {b4 : Nat} {b6 : Nat} {v8 : SLV} {v10 : SLV} {v12 : SLV} {R : List Nat} {r : (List (List Int))}, Sat (imm (RSl (RI .u8)) [sl v1] begun :: box b 29 [(.int .i64 Wide), (sl v8), (.int .i64 Root), (.int .i64 Many), (sl v10)] :: box b4 22 [(sl v12)] :: box b6 66 [(.func (.func 28) #[] #[(.pointer (some ⟨b, 0, none⟩)), (.pointer (some ⟨b4, 0, none⟩)), (.pointer (some ⟨b6, 0, none⟩))])] :: imm (RSl (RP (RSl (RP (RI .u8) (RI .i64))) (RI .i64))) [sl v8] Node :: imm (RSl (RI .i64)) [sl v10] Free :: osl (RSl (RI .u8)) 23 (sl v12) x R :: Φ) w → k_dfa_Words_c1 (at_, begun, Wide, Node, Root, Many, Free, x) = some r → CallsR Try.prog 28 [(.int .i64 at_), (sl v1), (.pointer (some ⟨b, 0, none⟩)), (.pointer (some ⟨b4, 0, none⟩)), (.pointer (some ⟨b6, 0, none⟩))] w (fun v w' => ∃ v3 : SLV, ∃ R4 : List Nat, v = (.tuple #[]) ∧ Sat (box b 29 [(.int .i64 Wide), (sl v8), (.int .i64 Root), (.int .i64 Many), (sl v10)] :: imm (RSl (RP (RSl (RP (RI .u8) (RI .i64))) (RI .i64))) [sl v8] Node :: imm (RSl (RI .i64)) [sl v10] Free :: box b4 22 [(sl v3)] :: osl (RSl (RI .u8)) 23 (sl v3) r R4 :: box b6 66 [(.func (.func 28) #[] #[(.pointer (some ⟨b, 0, none⟩)), (.pointer (some ⟨b4, 0, none⟩)), (.pointer (some ⟨b6, 0, none⟩))])] :: Φ) w')) {Φ : Ctx} {w : World} {at_ : Int} {begun : (List Int)} {Wide : Int} {Node : (List ((List (Int × Int)) × Int))} {Root : Int} {Many : Int} {Free : (List Int)} {x : (List (List Int))} {v1 : SLV} {b : Nat} {b4 : Nat} {b6 : Nat} {v8 : SLV} {v10 : SLV} {v12 : SLV} {R : List Nat} {r : (List (List Int))} (hs : Sat (imm (RSl (RI .u8)) [sl v1] begun :: box b 29 [(.int .i64 Wide), (sl v8), (.int .i64 Root), (.int .i64 Many), (sl v10)] :: box b4 22 [(sl v12)] :: box b6 66 [(.func (.func 28) #[] #[(.pointer (some ⟨b, 0, none⟩)), (.pointer (some ⟨b4, 0, none⟩)), (.pointer (some ⟨b6, 0, none⟩))])] :: imm (RSl (RP (RSl (RP (RI .u8) (RI .i64))) (RI .i64))) [sl v8] Node :: imm (RSl (RI .i64)) [sl v10] Free :: osl (RSl (RI .u8)) 23 (sl v12) x R :: Φ) w) (hm : dfa_Words_c1_F k_dfa_Words_c1 at_ begun Wide Node Root Many Free x = some r) :
    CallsR Try.prog 28 [(.int .i64 at_), (sl v1), (.pointer (some ⟨b, 0, none⟩)), (.pointer (some ⟨b4, 0, none⟩)), (.pointer (some ⟨b6, 0, none⟩))] w (fun v w' => ∃ v3 : SLV, ∃ R4 : List Nat, v = (.tuple #[]) ∧ Sat (box b 29 [(.int .i64 Wide), (sl v8), (.int .i64 Root), (.int .i64 Many), (sl v10)] :: imm (RSl (RP (RSl (RP (RI .u8) (RI .i64))) (RI .i64))) [sl v8] Node :: imm (RSl (RI .i64)) [sl v10] Free :: box b4 22 [(sl v3)] :: osl (RSl (RI .u8)) 23 (sl v3) r R4 :: box b6 66 [(.func (.func 28) #[] #[(.pointer (some ⟨b, 0, none⟩)), (.pointer (some ⟨b4, 0, none⟩)), (.pointer (some ⟨b6, 0, none⟩))])] :: Φ) w') := by
  refine CallsX_enter Try.func28 rfl Try.ntmps28 rfl ?_
  unfold dfa_Words_c1_F at hm
  refine WC_seq_cut (γ := (List (List Int)) × SLV × List Nat) (fun ⟨c6, v7, R8⟩ w5 => dfa_Words_c1_K1 k_dfa_Words_c1 at_ begun Wide Node Root Many Free c6 = some r ∧ Sat (imm (RSl (RI .u8)) [sl v1] begun :: box b 29 [(.int .i64 Wide), (sl v8), (.int .i64 Root), (.int .i64 Many), (sl v10)] :: imm (RSl (RP (RSl (RP (RI .u8) (RI .i64))) (RI .i64))) [sl v8] Node :: imm (RSl (RI .i64)) [sl v10] Free :: box b6 66 [(.func (.func 28) #[] #[(.pointer (some ⟨b, 0, none⟩)), (.pointer (some ⟨b4, 0, none⟩)), (.pointer (some ⟨b6, 0, none⟩))])] :: box b4 22 [(sl v7)] :: osl (RSl (RI .u8)) 23 (sl v7) c6 R8 :: Φ) w5) (fun ⟨c6, v7, R8⟩ => [(0, true, (.int .i64 at_)), (1, true, (sl v1)), (2, true, (.pointer (some ⟨b, 0, none⟩))), (4, true, (.pointer (some ⟨b6, 0, none⟩)))]) ?_ ?_
  ·
    rintro ⟨c6, v7, R8⟩ w5 ⟨hm, hs⟩
    unfold dfa_Words_c1_K1 at hm
    refine WC_seq ?_
    refine WC_region ?_
    refine WL_op (Run_fieldAddr fo29_1 (Opd.t rfl)) rfl rfl rfl rfl <| WL_op (Run_load1 (v := (sl v8)) Try.underlying26 rfl (Opd.t rfl) (fun _ => (hs.box (i := 1) rfl).part 1 rfl)) rfl rfl rfl rfl <| WL_op (Run_move (Opd.t rfl)) rfl rfl rfl rfl <| ?_
    obtain ⟨e9, he10, hm⟩ := bind_some' hm
    obtain ⟨v11, hC12, hN13, hR14⟩ := cellsM60 (g := true) (fun hg => (hs.sl (i := 2) rfl)) (fun hg => he10)
    replace hs := hs.addL [elem true (elA (sl v8) at_ 2) [(sl v11), (.int .i64 e9.2)], imm (RSl (RP (RI .u8) (RI .i64))) [sl v11] e9.1] rfl ⟨fun hg => ⟨hN13 hg, hC12 hg⟩, ⟨_, rfl, hR14 rfl⟩, trivial⟩
    replace hs := Sat.n9 (Γ := Φ) hs rfl
    refine WL_op (Run_idxAddr (p := (elA (sl v8) at_ 2)) Try.underlying26 ti60 (Opd.t rfl) (Opd.t rfl) (fun hg => (SRd.atA (A := (RP (RSl (RP (RI .u8) (RI .i64))) (RI .i64))) (v := (sl v8)) (hs.sl (i := 4) rfl) he10).1)) rfl rfl rfl rfl <| WL_op (Run_fieldAddr fo60_0 (Opd.t rfl)) rfl rfl rfl rfl <| WL_op (Run_load1 (v := (sl v11)) Try.underlying58 rfl (Opd.t rfl) (fun hg => (((hs.elem (i := 0) rfl) hg).sub (us := [(sl v11)]) 0 rfl).sub 0 rfl)) rfl rfl rfl rfl <| WL_op (Run_lenSlG Try.underlying58 (Opd.t rfl) (fun hg => (hs.sl (i := 1) rfl).len)) rfl rfl rfl rfl <| WL_op (Run_move Opd.c) rfl rfl rfl rfl <| ?_
    refine WL_nil ?_
    refine At_then ?_
    refine WC_block ?_
    refine WC_loop (σ := (List (List Int)) × Int) (γ := SLV × List Nat) (F := (dfa_Words_c1_L2 k_dfa_Words_c1 begun Wide Node Root Many Free e9)) (N := FUEL) (s0 := (c6, 0)) (r := r) (fun ⟨c16, t19⟩ ⟨v17, R18⟩ w15 => Sat (imm (RSl (RI .u8)) [sl v1] begun :: box b6 66 [(.func (.func 28) #[] #[(.pointer (some ⟨b, 0, none⟩)), (.pointer (some ⟨b4, 0, none⟩)), (.pointer (some ⟨b6, 0, none⟩))])] :: box b 29 [(.int .i64 Wide), (sl v8), (.int .i64 Root), (.int .i64 Many), (sl v10)] :: imm (RSl (RP (RSl (RP (RI .u8) (RI .i64))) (RI .i64))) [sl v8] Node :: imm (RSl (RI .i64)) [sl v10] Free :: box b4 22 [(sl v17)] :: osl (RSl (RI .u8)) 23 (sl v17) c16 R18 :: imm (RSl (RP (RI .u8) (RI .i64))) [sl v11] e9.1 :: Φ) w15) (fun ⟨c16, t19⟩ ⟨v17, R18⟩ => [(1, true, (sl v1)), (4, true, (.pointer (some ⟨b6, 0, none⟩))), (24, true, (sl v11)), (25, true, (.int .i64 (List.length e9.1 : Int))), (26, true, (.int .i64 t19))]) hm (v7, R8) (hs.re 9 [2, 6, 3, 4, 5, 7, 8, 1] rfl) rfl ?_
    rintro again20 ⟨c16, t19⟩ ⟨v17, R18⟩ w15 hm hs
    unfold dfa_Words_c1_L2 at hm
    dsimp only at hm
    refine WC_seq ?_
    refine WC_region ?_
    refine WL_op (Run_ltI (Opd.t rfl) (Opd.t rfl)) rfl rfl rfl rfl <| ?_
    refine WL_nil ?_
    refine At_then ?_
    refine WC_seq ?_
    refine WC_cond (Opd.t rfl) (fun hc21 => ?_) (fun hc21 => ?_)
    ·
      replace hm := bif_t hc21 hm
      refine WC_skip ?_
      refine At_then ?_
      refine WC_seq ?_
      refine WC_block ?_
      refine WC_seq ?_
      refine WC_region ?_
      obtain ⟨e22, he23, hm⟩ := bind_some' hm
      refine WL_op (Run_idxAddr (p := (elA (sl v11) t19 2)) Try.underlying58 ti69 (Opd.t rfl) (Opd.t rfl) (fun hg => (SRd.atA (A := (RP (RI .u8) (RI .i64))) (v := (sl v11)) (hs.sl (i := 7) rfl) he23).1)) rfl rfl rfl rfl <| WL_op (Run_loadA (vs := [(.int .u8 e22.1), (.int .i64 e22.2)]) Try.underlying69 rfl ti69 (Opd.t rfl) (fun hg => (SRd.cellsF (A := (RP (RI .u8) (RI .i64))) (v := (sl v11)) (hs.sl (i := 7) rfl) he23 (fun _ h => openT69 h)).sub 0 rfl) rfl) rfl rfl rfl rfl <| ?_
      refine WS_alloc (zs := [(.int .u8 0), (.int .i64 0)]) hs ti69 rfl rfl ?_
      intro b24 w25 hs
      replace hs := Sat.n9 (Γ := Φ) hs rfl
      refine WS_store (us := [(.int .u8 e22.1), (.int .i64 e22.2)]) (vs' := [(.int .u8 e22.1), (.int .i64 e22.2)]) hs 0 rfl ti69 (Opd.t rfl) (Opd.t rfl) rfl rfl rfl rfl rfl ?_
      intro w26 hs
      replace hs := Sat.n9 (Γ := Φ) hs rfl
      refine WL_nil ?_
      refine At_then ?_
      refine WC_region_mixed [0, 0, 2, 0, 8, 0, 32, 64, 144, 261] (.q 0 0 (.q 1 1 (.q 2 3 (.q 3 7 (.q 5 15 (.q 6 47 (.l2 111 4 (.l 7 127 (.l 8 255 (.l 9 511 .nil))) 7 (.l 4 239 (.l 8 255 (.l 9 511 .nil)))))))))) (by kernel_rfl) (by kernel_rfl) ?_
      intro w27 hx28
      replace hs := hs.ext hx28
      refine WD_op (fun w => CellsAt w ⟨b6, 0, none⟩ [(.func (.func 28) #[] #[(.pointer (some ⟨b, 0, none⟩)), (.pointer (some ⟨b4, 0, none⟩)), (.pointer (some ⟨b6, 0, none⟩))])]) ((hs.box (i := 2) rfl).part 0 rfl) (fun _ hJ => (Run_load1 (v := (.func (.func 28) #[] #[(.pointer (some ⟨b, 0, none⟩)), (.pointer (some ⟨b4, 0, none⟩)), (.pointer (some ⟨b6, 0, none⟩))])) Try.underlying66 rfl (Opd.t rfl) (fun _ => hJ))) rfl rfl rfl rfl <| WD_pure (fun _ => (Run_fieldAddr fo69_1 (Opd.t rfl))) rfl rfl rfl rfl <| WD_op (fun w => CellsAt w ⟨b24, 1, none⟩ [(.int .i64 e22.2)]) ((hs.box (i := 0) rfl).part 1 rfl) (fun _ hJ => (Run_load1 (v := (.int .i64 e22.2)) Try.underlying3 rfl (Opd.t rfl) (fun _ => hJ))) rfl rfl rfl rfl <| WD_pure (fun _ => (Run_move (Opd.t rfl))) rfl rfl rfl rfl <| WD_pure (fun _ => (Run_fieldAddr fo69_0 (Opd.t rfl))) rfl rfl rfl rfl <| WD_op (fun w => CellsAt w ⟨b24, 0, none⟩ [(.int .u8 e22.1)]) ((hs.box (i := 0) rfl).part 0 rfl) (fun _ hJ => (Run_load1 (v := (.int .u8 e22.1)) Try.underlying5 rfl (Opd.t rfl) (fun _ => hJ))) rfl rfl rfl rfl <| ?_
      refine WD_loud2 ?_ ?_
      ·
        refine WD_loud (pend' := [(6, fun w => CellsAt w ⟨b24, 0, none⟩ [(.int .u8 e22.1)]), (2, fun w => CellsAt w ⟨b24, 1, none⟩ [(.int .i64 e22.2)]), (0, fun w => CellsAt w ⟨b6, 0, none⟩ [(.func (.func 28) #[] #[(.pointer (some ⟨b, 0, none⟩)), (.pointer (some ⟨b4, 0, none⟩)), (.pointer (some ⟨b6, 0, none⟩))])])]) rfl (by kernel_rfl) ?_
        obtain ⟨r29, hr30, hm⟩ := bind_some' hm
        refine WL_call (f := 30) (first := []) (cap := []) (xs := [(.tmp 33)]) (vs := [(sl v1)]) (args := [(sl v1)]) Try.call30 Opd.f (.cons (Opd.t rfl) .nil) rfl rfl (slices_Clip_byte_byte_ok (hs.re 9 [1, 0, 1, 2, 3, 4, 5, 6, 7, 8] rfl) hr30) ?_
        rintro _ w32 ⟨v31, rfl, hs⟩
        replace hs := Sat.n10 (Γ := Φ) hs rfl
        refine WL_nil ?_
        refine At_QK (allJ_cons ((hs.box (i := 1) rfl).part 0 rfl) (allJ_cons ((hs.box (i := 1) rfl).part 1 rfl) (allJ_cons ((hs.box (i := 3) rfl).part 0 rfl) allJ_nil))) ?_
        refine WD_loud (pend' := [(2, fun w => CellsAt w ⟨b24, 1, none⟩ [(.int .i64 e22.2)]), (0, fun w => CellsAt w ⟨b6, 0, none⟩ [(.func (.func 28) #[] #[(.pointer (some ⟨b, 0, none⟩)), (.pointer (some ⟨b4, 0, none⟩)), (.pointer (some ⟨b6, 0, none⟩))])])]) rfl (by kernel_rfl) ?_
        refine WS_lit (A := (RI .u8)) (xs := [e22.1]) (zs := [(.int .u8 0)]) (cells := [(.int .u8 e22.1)]) (parts := [(0, (.tmp 36))]) hs Try.underlying23 ti5 rfl rfl rfl (.cons (Opd.t rfl) .nil) (by kernel_rfl) rfl (ARd.cons (A := (RI .u8)) (c := [(.int .u8 e22.1)]) (x := e22.1) rfl ARd.nil) rfl ?_
        intro b33 w34 hs
        replace hs := Sat.n11 (Γ := Φ) hs rfl
        refine WL_nil ?_
        refine At_QK (allJ_cons ((hs.box (i := 2) rfl).part 1 rfl) (allJ_cons ((hs.box (i := 4) rfl).part 0 rfl) allJ_nil)) ?_
        refine WD_loud (pend' := [(2, fun w => CellsAt w ⟨b24, 1, none⟩ [(.int .i64 e22.2)]), (0, fun w => CellsAt w ⟨b6, 0, none⟩ [(.func (.func 28) #[] #[(.pointer (some ⟨b, 0, none⟩)), (.pointer (some ⟨b4, 0, none⟩)), (.pointer (some ⟨b6, 0, none⟩))])])]) rfl (by kernel_rfl) ?_
        replace hs := hs.freeze (i := 0) rfl
        obtain ⟨k35, hm⟩ := chk_some hm
        refine WS_appendC (A := (RI .u8)) (p := v31) (xs := r29) (ys := ([e22.1] : List Int)) hs Try.underlying23 ti5 rfl (Opd.t rfl) (Opd.t rfl) (hs.sl (i := 1) rfl) (hs.sl (i := 0) rfl) (List.cons_ne_nil _ _) k35 rfl ?_
        intro v36 R37 w38 hs
        replace hs := Sat.n12 (Γ := Φ) hs rfl
        refine WL_nil ?_
        refine At_QK (allJ_cons ((hs.box (i := 3) rfl).part 1 rfl) (allJ_cons ((hs.box (i := 5) rfl).part 0 rfl) allJ_nil)) ?_
        refine WD_loud (pend' := []) rfl (by kernel_rfl) ?_
        replace hs := hs.freeze (i := 0) rfl
        obtain ⟨r39, hr40, hm⟩ := bind_some' hm
        refine WL_call (f := 28) (first := []) (cap := [(.pointer (some ⟨b, 0, none⟩)), (.pointer (some ⟨b4, 0, none⟩)), (.pointer (some ⟨b6, 0, none⟩))]) (xs := [(.tmp 32), (.tmp 38)]) (vs := [(.int .i64 e22.2), (sl v36)]) (args := [(.int .i64 e22.2), (sl v36), (.pointer (some ⟨b, 0, none⟩)), (.pointer (some ⟨b4, 0, none⟩)), (.pointer (some ⟨b6, 0, none⟩))]) Try.call28 (Opd.t rfl) (.cons (Opd.t rfl) (.cons (Opd.t rfl) .nil)) rfl rfl (ih_dfa_Words_c1 (hs.re 12 [0, 6, 9, 5, 7, 8, 10, 0, 1, 2, 3, 4, 7, 8, 11] rfl) hr40) ?_
        rintro _ w43 ⟨v41, R42, rfl, hs⟩
        replace hs := Sat.n14 (Γ := Φ) hs rfl
        refine WL_nil ?_
        refine At_QK allJ_nil ?_
        refine WD_nil ?_
        refine At_blk_normal ?_
        refine At_then ?_
        refine WC_region ?_
        refine WL_op (Run_add (Opd.t rfl) Opd.c) rfl rfl rfl rfl <| WL_op (Run_move (Opd.t rfl)) rfl rfl rfl rfl <| ?_
        refine WL_nil ?_
        exact At_again (r39, (IntKind.i64.wrap (t19 + 1))) (v41, R42) hm (hs.re 14 [10, 5, 0, 1, 2, 3, 4, 13] rfl) rfl
      ·
        refine WD_loud (pend' := [(2, fun w => CellsAt w ⟨b24, 1, none⟩ [(.int .i64 e22.2)]), (0, fun w => CellsAt w ⟨b6, 0, none⟩ [(.func (.func 28) #[] #[(.pointer (some ⟨b, 0, none⟩)), (.pointer (some ⟨b4, 0, none⟩)), (.pointer (some ⟨b6, 0, none⟩))])])]) rfl (by kernel_rfl) ?_
        refine WS_lit (A := (RI .u8)) (xs := [e22.1]) (zs := [(.int .u8 0)]) (cells := [(.int .u8 e22.1)]) (parts := [(0, (.tmp 36))]) hs Try.underlying23 ti5 rfl rfl rfl (.cons (Opd.t rfl) .nil) (by kernel_rfl) rfl (ARd.cons (A := (RI .u8)) (c := [(.int .u8 e22.1)]) (x := e22.1) rfl ARd.nil) rfl ?_
        intro b44 w45 hs
        replace hs := Sat.n10 (Γ := Φ) hs rfl
        refine WL_nil ?_
        refine At_QK (allJ_cons ((hs.box (i := 1) rfl).part 1 rfl) (allJ_cons ((hs.box (i := 3) rfl).part 0 rfl) allJ_nil)) ?_
        refine WD_loud (pend' := [(2, fun w => CellsAt w ⟨b24, 1, none⟩ [(.int .i64 e22.2)]), (0, fun w => CellsAt w ⟨b6, 0, none⟩ [(.func (.func 28) #[] #[(.pointer (some ⟨b, 0, none⟩)), (.pointer (some ⟨b4, 0, none⟩)), (.pointer (some ⟨b6, 0, none⟩))])])]) rfl (by kernel_rfl) ?_
        obtain ⟨r46, hr47, hm⟩ := bind_some' hm
        refine WL_call (f := 30) (first := []) (cap := []) (xs := [(.tmp 33)]) (vs := [(sl v1)]) (args := [(sl v1)]) Try.call30 Opd.f (.cons (Opd.t rfl) .nil) rfl rfl (slices_Clip_byte_byte_ok (hs.re 10 [2, 0, 1, 2, 3, 4, 5, 6, 7, 8, 9] rfl) hr47) ?_
        rintro _ w49 ⟨v48, rfl, hs⟩
        replace hs := Sat.n11 (Γ := Φ) hs rfl
        refine WL_nil ?_
        refine At_QK (allJ_cons ((hs.box (i := 2) rfl).part 1 rfl) (allJ_cons ((hs.box (i := 4) rfl).part 0 rfl) allJ_nil)) ?_
        refine WD_loud (pend' := [(2, fun w => CellsAt w ⟨b24, 1, none⟩ [(.int .i64 e22.2)]), (0, fun w => CellsAt w ⟨b6, 0, none⟩ [(.func (.func 28) #[] #[(.pointer (some ⟨b, 0, none⟩)), (.pointer (some ⟨b4, 0, none⟩)), (.pointer (some ⟨b6, 0, none⟩))])])]) rfl (by kernel_rfl) ?_
        replace hs := hs.freeze (i := 1) rfl
        obtain ⟨k50, hm⟩ := chk_some hm
        refine WS_appendC (A := (RI .u8)) (p := v48) (xs := r46) (ys := ([e22.1] : List Int)) hs Try.underlying23 ti5 rfl (Opd.t rfl) (Opd.t rfl) (hs.sl (i := 0) rfl) (hs.sl (i := 1) rfl) (List.cons_ne_nil _ _) k50 rfl ?_
        intro v51 R52 w53 hs
        replace hs := Sat.n12 (Γ := Φ) hs rfl
        refine WL_nil ?_
        refine At_QK (allJ_cons ((hs.box (i := 3) rfl).part 1 rfl) (allJ_cons ((hs.box (i := 5) rfl).part 0 rfl) allJ_nil)) ?_
        refine WD_loud (pend' := []) rfl (by kernel_rfl) ?_
        replace hs := hs.freeze (i := 0) rfl
        obtain ⟨r54, hr55, hm⟩ := bind_some' hm
        refine WL_call (f := 28) (first := []) (cap := [(.pointer (some ⟨b, 0, none⟩)), (.pointer (some ⟨b4, 0, none⟩)), (.pointer (some ⟨b6, 0, none⟩))]) (xs := [(.tmp 32), (.tmp 38)]) (vs := [(.int .i64 e22.2), (sl v51)]) (args := [(.int .i64 e22.2), (sl v51), (.pointer (some ⟨b, 0, none⟩)), (.pointer (some ⟨b4, 0, none⟩)), (.pointer (some ⟨b6, 0, none⟩))]) Try.call28 (Opd.t rfl) (.cons (Opd.t rfl) (.cons (Opd.t rfl) .nil)) rfl rfl (ih_dfa_Words_c1 (hs.re 12 [0, 6, 9, 5, 7, 8, 10, 0, 1, 2, 3, 4, 7, 8, 11] rfl) hr55) ?_
        rintro _ w58 ⟨v56, R57, rfl, hs⟩
        replace hs := Sat.n14 (Γ := Φ) hs rfl
        refine WL_nil ?_
        refine At_QK allJ_nil ?_
        refine WD_nil ?_
        refine At_blk_normal ?_
        refine At_then ?_
        refine WC_region ?_
        refine WL_op (Run_add (Opd.t rfl) Opd.c) rfl rfl rfl rfl <| WL_op (Run_move (Opd.t rfl)) rfl rfl rfl rfl <| ?_
        refine WL_nil ?_
        exact At_again (r54, (IntKind.i64.wrap (t19 + 1))) (v56, R57) hm (hs.re 14 [10, 5, 0, 1, 2, 3, 4, 13] rfl) rfl
    ·
      replace hm := bif_f hc21 hm
      refine WC_exit ?_
      refine At_then_exit <| At_then_exit <| At_blk_here <| ?_
      refine At_e0 rfl  ?_
      cases hm
      exact ⟨v17, R18, rfl, (hs.re 8 [2, 3, 4, 5, 6, 1] rfl)⟩
  ·
    refine WC_seq ?_
    refine WC_region ?_
    refine WL_op (Run_move (Opd.t rfl)) rfl rfl rfl rfl <| WL_op (Run_lenSlG Try.underlying23 (Opd.t rfl) (fun hg => (hs.sl (i := 0) rfl).len)) rfl rfl rfl rfl <| WL_op (Run_fieldAddr fo29_0 (Opd.t rfl)) rfl rfl rfl rfl <| WL_op (Run_load1 (v := (.int .i64 Wide)) Try.underlying3 rfl (Opd.t rfl) (fun _ => (hs.box (i := 1) rfl).part 0 rfl)) rfl rfl rfl rfl <| WL_op (Run_eqI (Opd.t rfl) (Opd.t rfl)) rfl rfl rfl rfl <| ?_
    refine WL_nil ?_
    refine At_then ?_
    refine WC_cond (Opd.t rfl) (fun hc59 => ?_) (fun hc59 => ?_)
    ·
      replace hm := bif_t hc59 hm
      refine WC_region_mixed [0, 0, 2, 4, 13, 31] (.q 0 0 (.q 1 1 (.l 2 3 (.l 3 7 (.l 4 15 (.l 5 31 .nil)))))) (by kernel_rfl) (by kernel_rfl) ?_
      intro w60 hx61
      replace hs := hs.ext hx61
      refine WD_op (fun w => CellsAt w ⟨b4, 0, none⟩ [(sl v12)]) ((hs.box (i := 2) rfl).part 0 rfl) (fun _ hJ => (Run_load1 (v := (sl v12)) Try.underlying22 rfl (Opd.t rfl) (fun _ => hJ))) rfl rfl rfl rfl <| WD_pure (fun _ => (Run_move (Opd.t rfl))) rfl rfl rfl rfl <| ?_
      refine WD_loud (pend' := [(0, fun w => CellsAt w ⟨b4, 0, none⟩ [(sl v12)])]) rfl (by kernel_rfl) ?_
      obtain ⟨r62, hr63, hm⟩ := bind_some' hm
      refine WL_call (f := 29) (first := []) (cap := []) (xs := [(.tmp 15)]) (vs := [(sl v1)]) (args := [(sl v1)]) Try.call29 Opd.f (.cons (Opd.t rfl) .nil) rfl rfl (slices_Clone_byte_byte_ok (hs.re 7 [0, 0, 1, 2, 3, 4, 5, 6] rfl) hr63) ?_
      rintro _ w66 ⟨v64, R65, rfl, hs⟩
      replace hs := Sat.n8 (Γ := Φ) hs rfl
      refine WL_nil ?_
      refine At_QK (allJ_cons ((hs.box (i := 3) rfl).part 0 rfl) allJ_nil) ?_
      refine WD_loud (pend' := [(0, fun w => CellsAt w ⟨b4, 0, none⟩ [(sl v12)])]) rfl (by kernel_rfl) ?_
      replace hs := hs.freeze (i := 0) rfl
      refine WS_lit (A := (RSl (RI .u8))) (xs := [r62]) (zs := [(sl (none, 0, 0))]) (cells := [(sl v64)]) (parts := [(0, (.tmp 16))]) hs Try.underlying22 ti23 rfl rfl rfl (.cons (Opd.t rfl) .nil) (by kernel_rfl) rfl (ARd.cons (A := (RSl (RI .u8))) (c := [(sl v64)]) (x := r62) ⟨_, rfl, (hs.sl (i := 0) rfl)⟩ ARd.nil) rfl ?_
      intro b67 w68 hs
      replace hs := Sat.n9 (Γ := Φ) hs rfl
      refine WL_nil ?_
      refine At_QK (allJ_cons ((hs.box (i := 4) rfl).part 0 rfl) allJ_nil) ?_
      refine WD_loud (pend' := []) rfl (by kernel_rfl) ?_
      replace hs := hs.freeze (i := 0) rfl
      obtain ⟨k69, hm⟩ := chk_some hm
      refine WS_append (A := (RSl (RI .u8))) hs 8 rfl Try.underlying22 ti23 rfl rfl (Opd.t rfl) (Opd.t rfl) (hs.sl (i := 0) rfl) k69 rfl ?_
      intro v70 R71 w72 hs
      replace hs := Sat.n9 (Γ := Φ) hs rfl
      refine WL_nil ?_
      refine At_QK allJ_nil ?_
      refine WD_loud (pend' := []) rfl (by kernel_rfl) ?_
      refine WS_store (us := [(sl v70)]) (vs' := [(sl v70)]) hs 4 rfl ti22 (Opd.t rfl) (Opd.t rfl) rfl rfl rfl rfl rfl ?_
      intro w73 hs
      replace hs := Sat.n9 (Γ := Φ) hs rfl
      refine WL_nil ?_
      refine At_QK allJ_nil ?_
      refine WD_nil ?_
      exact At_join ((x ++ ([r62] : List (List Int))), v70, R71) ⟨hm, (hs.re 9 [2, 3, 6, 7, 5, 4, 8] rfl)⟩ rfl
    ·
      replace hm := bif_f hc59 hm
      refine WC_skip ?_
      exact At_join (x, v12, R) ⟨hm, (hs.re 7 [0, 1, 4, 5, 3, 2, 6] rfl)⟩ rfl

set_option maxRecDepth 100000 in
set_option maxHeartbeats 4000000 in
theorem dfa_Words_c1_ok {Φ : Ctx} {w : World} {at_ : Int} {begun : (List Int)} {Wide : Int} {Node : (List ((List (Int × Int)) × Int))} {Root : Int} {Many : Int} {Free : (List Int)} {x : (List (List Int))} {v1 : SLV} {b : Nat} {b4 : Nat} {b6 : Nat} {v8 : SLV} {v10 : SLV} {v12 : SLV} {R : List Nat} {r : (List (List Int))} (hs : Sat (imm (RSl (RI .u8)) [sl v1] begun :: box b 29 [(.int .i64 Wide), (sl v8), (.int .i64 Root), (.int .i64 Many), (sl v10)] :: box b4 22 [(sl v12)] :: box b6 66 [(.func (.func 28) #[] #[(.pointer (some ⟨b, 0, none⟩)), (.pointer (some ⟨b4, 0, none⟩)), (.pointer (some ⟨b6, 0, none⟩))])] :: imm (RSl (RP (RSl (RP (RI .u8) (RI .i64))) (RI .i64))) [sl v8] Node :: imm (RSl (RI .i64)) [sl v10] Free :: osl (RSl (RI .u8)) 23 (sl v12) x R :: Φ) w) (hm : dfa_Words_c1 at_ begun Wide Node Root Many Free x = some r) :
    CallsR Try.prog 28 [(.int .i64 at_), (sl v1), (.pointer (some ⟨b, 0, none⟩)), (.pointer (some ⟨b4, 0, none⟩)), (.pointer (some ⟨b6, 0, none⟩))] w (fun v w' => ∃ v3 : SLV, ∃ R4 : List Nat, v = (.tuple #[]) ∧ Sat (box b 29 [(.int .i64 Wide), (sl v8), (.int .i64 Root), (.int .i64 Many), (sl v10)] :: imm (RSl (RP (RSl (RP (RI .u8) (RI .i64))) (RI .i64))) [sl v8] Node :: imm (RSl (RI .i64)) [sl v10] Free :: box b4 22 [(sl v3)] :: osl (RSl (RI .u8)) 23 (sl v3) r R4 :: box b6 66 [(.func (.func 28) #[] #[(.pointer (some ⟨b, 0, none⟩)), (.pointer (some ⟨b4, 0, none⟩)), (.pointer (some ⟨b6, 0, none⟩))])] :: Φ) w') := by
  have key : ∀ (N : Nat) {Φ : Ctx} {w : World} {at_ : Int} {begun : (List Int)} {Wide : Int} {Node : (List ((List (Int × Int)) × Int))} {Root : Int} {Many : Int} {Free : (List Int)} {x : (List (List Int))} {v1 : SLV} {b : Nat} {b4 : Nat} {b6 : Nat} {v8 : SLV} {v10 : SLV} {v12 : SLV} {R : List Nat} {r : (List (List Int))}, Sat (imm (RSl (RI .u8)) [sl v1] begun :: box b 29 [(.int .i64 Wide), (sl v8), (.int .i64 Root), (.int .i64 Many), (sl v10)] :: box b4 22 [(sl v12)] :: box b6 66 [(.func (.func 28) #[] #[(.pointer (some ⟨b, 0, none⟩)), (.pointer (some ⟨b4, 0, none⟩)), (.pointer (some ⟨b6, 0, none⟩))])] :: imm (RSl (RP (RSl (RP (RI .u8) (RI .i64))) (RI .i64))) [sl v8] Node :: imm (RSl (RI .i64)) [sl v10] Free :: osl (RSl (RI .u8)) 23 (sl v12) x R :: Φ) w → fixN (fun k (s : (Int × (List Int) × Int × (List ((List (Int × Int)) × Int)) × Int × Int × (List Int) × (List (List Int)))) => dfa_Words_c1_F k s.1 s.2.1 s.2.2.1 s.2.2.2.1 s.2.2.2.2.1 s.2.2.2.2.2.1 s.2.2.2.2.2.2.1 s.2.2.2.2.2.2.2) N (at_, begun, Wide, Node, Root, Many, Free, x) = some r → CallsR Try.prog 28 [(.int .i64 at_), (sl v1), (.pointer (some ⟨b, 0, none⟩)), (.pointer (some ⟨b4, 0, none⟩)), (.pointer (some ⟨b6, 0, none⟩))] w (fun v w' => ∃ v3 : SLV, ∃ R4 : List Nat, v = (.tuple #[]) ∧ Sat (box b 29 [(.int .i64 Wide), (sl v8), (.int .i64 Root), (.int .i64 Many), (sl v10)] :: imm (RSl (RP (RSl (RP (RI .u8) (RI .i64))) (RI .i64))) [sl v8] Node :: imm (RSl (RI .i64)) [sl v10] Free :: box b4 22 [(sl v3)] :: osl (RSl (RI .u8)) 23 (sl v3) r R4 :: box b6 66 [(.func (.func 28) #[] #[(.pointer (some ⟨b, 0, none⟩)), (.pointer (some ⟨b4, 0, none⟩)), (.pointer (some ⟨b6, 0, none⟩))])] :: Φ) w') := by
    intro N
    induction N with
    | zero => intros; rename_i h; cases h
    | succ N ih => intros; rename_i hs hm; rw [fixN_succ] at hm; exact dfa_Words_c1_F_ok (@ih) hs hm
  unfold dfa_Words_c1 at hm
  exact key FUEL hs hm

set_option maxRecDepth 100000 in
set_option maxHeartbeats 4000000 in
theorem dfa_Words_ok {Φ : Ctx} {w : World} {d : (Int × (List ((List (Int × Int)) × Int)) × Int × Int × (List Int))} {v1 : SLV} {v3 : SLV} {r : (List (List Int))} (hs : Sat (imm (RSl (RP (RSl (RP (RI .u8) (RI .i64))) (RI .i64))) [sl v1] d.2.1 :: imm (RSl (RI .i64)) [sl v3] d.2.2.2.2 :: Φ) w) (hm : dfa_Words d = some r) :
    CallsR Try.prog 19 [(.agg #[(.int .i64 d.1), (sl v1), (.int .i64 d.2.2.1), (.int .i64 d.2.2.2.1), (sl v3)])] w (fun v w' => ∃ v4 : SLV, ∃ R5 : List Nat, v = (sl v4) ∧ Sat (osl (RSl (RI .u8)) 23 (sl v4) r R5 :: Φ) w') := by
  refine CallsX_enter Try.func19 rfl Try.ntmps19 rfl ?_
  unfold dfa_Words at hm
  refine WC_seq ?_
  refine WC_region ?_
  refine WS_box (zs := [(.int .i64 d.1), (sl v1), (.int .i64 d.2.2.1), (.int .i64 d.2.2.2.1), (sl v3)]) hs (Opd.t rfl) rfl rfl ?_
  intro b6 w7 hs
  replace hs := Sat.n3 (Γ := Φ) hs rfl
  refine WL_op (Run_assign Opd.c) rfl rfl rfl rfl <| ?_
  refine WL_nil ?_
  refine At_then ?_
  refine WC_seq ?_
  refine WC_seq ?_
  refine WC_region ?_
  refine WL_op (Run_fieldAddr fo29_2 (Opd.t rfl)) rfl rfl rfl rfl <| WL_op (Run_load1 (v := (.int .i64 d.2.2.1)) Try.underlying3 rfl (Opd.t rfl) (fun _ => (hs.box (i := 0) rfl).part 2 rfl)) rfl rfl rfl rfl <| ?_
  obtain ⟨b8, e9, hm⟩ := letv_some hm
  refine WL_op (Run.eqB (Run_eqI (Opd.t rfl) Opd.c) e9) rfl rfl rfl rfl <| WL_op (Run_move (Opd.t rfl)) rfl rfl rfl rfl <| WL_opG rfl rfl rfl rfl guard_neg (Run_fieldAddr fo29_0 (Opd.t rfl)) rfl rfl rfl <| WL_opG rfl rfl rfl rfl guard_neg (Run_load1 (v := (.int .i64 d.1)) Try.underlying3 rfl (Opd.g rfl id) (fun _ => (hs.box (i := 0) rfl).part 0 rfl)) rfl rfl rfl <| ?_
  obtain ⟨b10, e11, hm⟩ := letv_some hm
  refine WL_opG rfl rfl rfl rfl guard_neg (Run.eqB (Run_eqI (Opd.g rfl id) Opd.c) e11) rfl rfl rfl <| ?_
  obtain ⟨b12, e13, hm⟩ := letv_some hm
  refine WL_op (Run.eqB (Run_or (Opd.t rfl) (Opd.g rfl id)) e13) rfl rfl rfl rfl <| ?_
  refine WL_nil ?_
  refine At_then ?_
  refine WC_cond (Opd.t rfl) (fun hc14 => ?_) (fun hc14 => ?_)
  ·
    replace hm := bif_t hc14 hm
    refine WC_seq ?_
    refine WC_region ?_
    refine WL_op (Run_assign Opd.c) rfl rfl rfl rfl <| ?_
    refine WL_nil ?_
    refine At_then ?_
    refine WC_ret ?_
    refine At_then_ret <| ?_
    refine At_r1 rfl (ResIs.t rfl) ?_
    replace hs := hs.addNil (RSl (RI .u8)) 23
    cases hm
    exact ⟨(none, 0, 0), [], rfl, (hs.re 4 [0] rfl)⟩
  ·
    replace hm := bif_f hc14 hm
    refine WC_skip ?_
    refine At_then ?_
    refine WC_seq ?_
    refine WC_region ?_
    refine WS_alloc (zs := [(sl (none, 0, 0))]) hs ti22 rfl rfl ?_
    intro b15 w16 hs
    replace hs := Sat.n4 (Γ := Φ) hs rfl
    refine WL_nil ?_
    refine At_then ?_
    refine WC_seq ?_
    refine WC_region ?_
    refine WS_alloc (zs := [.nilFunc]) hs ti66 rfl rfl ?_
    intro b17 w18 hs
    replace hs := Sat.n5 (Γ := Φ) hs rfl
    refine WL_nil ?_
    refine At_then ?_
    refine WC_seq ?_
    refine WC_region ?_
    refine WL_op (Run_makeFunc (first := []) (cap := [(.tmp 1), (.tmp 3), (.tmp 4)]) .nil (.cons (Opd.t rfl) (.cons (Opd.t rfl) (.cons (Opd.t rfl) .nil)))) rfl rfl rfl rfl <| ?_
    refine WS_store (us := [(.func (.func 28) #[] #[(.pointer (some ⟨b6, 0, none⟩)), (.pointer (some ⟨b15, 0, none⟩)), (.pointer (some ⟨b17, 0, none⟩))])]) (vs' := [(.func (.func 28) #[] #[(.pointer (some ⟨b6, 0, none⟩)), (.pointer (some ⟨b15, 0, none⟩)), (.pointer (some ⟨b17, 0, none⟩))])]) hs 0 rfl ti66 (Opd.t rfl) (Opd.t rfl) rfl rfl rfl rfl rfl ?_
    intro w19 hs
    replace hs := Sat.n5 (Γ := Φ) hs rfl
    refine WL_nil ?_
    refine At_then ?_
    refine WC_seq ?_
    refine WC_region ?_
    refine WL_op (Run_load1 (v := (.func (.func 28) #[] #[(.pointer (some ⟨b6, 0, none⟩)), (.pointer (some ⟨b15, 0, none⟩)), (.pointer (some ⟨b17, 0, none⟩))])) Try.underlying66 rfl (Opd.t rfl) (fun _ => (hs.box (i := 0) rfl).part 0 rfl)) rfl rfl rfl rfl <| WL_op (Run_fieldAddr fo29_2 (Opd.t rfl)) rfl rfl rfl rfl <| WL_op (Run_load1 (v := (.int .i64 d.2.2.1)) Try.underlying3 rfl (Opd.t rfl) (fun _ => (hs.box (i := 2) rfl).part 2 rfl)) rfl rfl rfl rfl <| ?_
    replace hs := hs.addNilI (RI .u8)
    replace hs := hs.addNil (RSl (RI .u8)) 23
    obtain ⟨r20, hr21, hm⟩ := bind_some' hm
    refine WL_call (f := 28) (first := []) (cap := [(.pointer (some ⟨b6, 0, none⟩)), (.pointer (some ⟨b15, 0, none⟩)), (.pointer (some ⟨b17, 0, none⟩))]) (xs := [(.tmp 16), (.const (sl (none, 0, 0)))]) (vs := [(.int .i64 d.2.2.1), (sl (none, 0, 0))]) (args := [(.int .i64 d.2.2.1), (sl (none, 0, 0)), (.pointer (some ⟨b6, 0, none⟩)), (.pointer (some ⟨b15, 0, none⟩)), (.pointer (some ⟨b17, 0, none⟩))]) Try.call28 (Opd.t rfl) (.cons (Opd.t rfl) (.cons Opd.c .nil)) rfl rfl (dfa_Words_c1_ok (hs.re 7 [1, 4, 3, 2, 5, 6, 0, 1, 5, 6] rfl) hr21) ?_
    rintro _ w24 ⟨v22, R23, rfl, hs⟩
    replace hs := Sat.n9 (Γ := Φ) hs rfl
    refine WL_nil ?_
    refine At_then ?_
    refine WC_seq ?_
    refine WC_region ?_
    refine WL_op (Run_load1 (v := (sl v22)) Try.underlying22 rfl (Opd.t rfl) (fun _ => (hs.box (i := 3) rfl).part 0 rfl)) rfl rfl rfl rfl <| WL_op (Run_assign (Opd.t rfl)) rfl rfl rfl rfl <| ?_
    refine WL_nil ?_
    refine At_then ?_
    refine WC_ret ?_
    refine At_r1 rfl (ResIs.t rfl) ?_
    cases hm
    exact ⟨v22, R23, rfl, (hs.re 9 [4] rfl)⟩

set_option maxRecDepth 100000 in
set_option maxHeartbeats 4000000 in
theorem scrutinyref04_Rows_ok {Φ : Ctx} {w : World} {a : (List (List Int))} {b : (List (List Int))} {v1 : SLV} {v3 : SLV} {r : Bool} (hs : Sat (imm (RSl (RSl (RI .u8))) [sl v1] a :: imm (RSl (RSl (RI .u8))) [sl v3] b :: Φ) w) (hm : scrutinyref04_Rows a b = some r) :
    CallsR Try.prog 18 [(sl v1), (sl v3)] w (fun v w' => v = (.bool r) ∧ Sat (Φ) w') := by
  refine CallsX_enter Try.func18 rfl Try.ntmps18 rfl ?_
  unfold scrutinyref04_Rows at hm
  refine WC_seq ?_
  refine WC_region ?_
  refine WL_op (Run_assign Opd.c) rfl rfl rfl rfl <| ?_
  refine WL_nil ?_
  refine At_then ?_
  refine WC_seq ?_
  refine WC_seq ?_
  refine WC_region ?_
  refine WL_op (Run_move (Opd.t rfl)) rfl rfl rfl rfl <| WL_op (Run_lenSlG Try.underlying22 (Opd.t rfl) (fun hg => (hs.sl (i := 0) rfl).len)) rfl rfl rfl rfl <| WL_op (Run_move (Opd.t rfl)) rfl rfl rfl rfl <| WL_op (Run_lenSlG Try.underlying22 (Opd.t rfl) (fun hg => (hs.sl (i := 1) rfl).len)) rfl rfl rfl rfl <| WL_op (Run_neI (Opd.t rfl) (Opd.t rfl)) rfl rfl rfl rfl <| ?_
  refine WL_nil ?_
  refine At_then ?_
  refine WC_cond (Opd.t rfl) (fun hc3 => ?_) (fun hc3 => ?_)
  ·
    replace hm := bif_t hc3 hm
    refine WC_seq ?_
    refine WC_region ?_
    refine WL_op (Run_assign Opd.c) rfl rfl rfl rfl <| ?_
    refine WL_nil ?_
    refine At_then ?_
    refine WC_ret ?_
    refine At_then_ret <| ?_
    refine At_r1 rfl (ResIs.t rfl) ?_
    cases hm
    exact ⟨rfl, (hs.re 2 [] rfl)⟩
  ·
    replace hm := bif_f hc3 hm
    refine WC_skip ?_
    refine At_then ?_
    refine WC_seq ?_
    refine WC_seq ?_
    refine WC_region ?_
    refine WL_op (Run_assign Opd.c) rfl rfl rfl rfl <| ?_
    refine WL_nil ?_
    refine At_then ?_
    refine WC_block ?_
    refine WC_loop (σ := Int) (γ := Unit) (F := (scrutinyref04_Rows_L1 a b)) (N := FUEL) (s0 := 0) (r := r) (fun i5 (_ : Unit) w4 => Sat (imm (RSl (RSl (RI .u8))) [sl v1] a :: imm (RSl (RSl (RI .u8))) [sl v3] b :: Φ) w4) (fun i5 (_ : Unit) => [(0, true, (sl v1)), (1, true, (sl v3)), (5, true, (.int .i64 i5))]) hm () (hs.re 2 [0, 1] rfl) rfl ?_
    rintro again6 i5 _ w4 hm hs
    unfold scrutinyref04_Rows_L1 at hm
    refine WC_seq ?_
    refine WC_seq ?_
    refine WC_region ?_
    refine WL_op (Run_move (Opd.t rfl)) rfl rfl rfl rfl <| WL_op (Run_move (Opd.t rfl)) rfl rfl rfl rfl <| WL_op (Run_lenSlG Try.underlying22 (Opd.t rfl) (fun hg => (hs.sl (i := 0) rfl).len)) rfl rfl rfl rfl <| WL_op (Run_ltI (Opd.t rfl) (Opd.t rfl)) rfl rfl rfl rfl <| ?_
    refine WL_nil ?_
    refine At_then ?_
    refine WC_cond (Opd.t rfl) (fun hc7 => ?_) (fun hc7 => ?_)
    ·
      replace hm := bif_t hc7 hm
      refine WC_skip ?_
      refine At_then ?_
      refine WC_seq ?_
      refine WC_block ?_
      refine WC_seq ?_
      refine WC_region_mixed [0, 0, 3, 4, 8, 0, 0, 96, 128, 256, 528] (.q 0 0 (.q 1 1 (.q 2 3 (.q 3 7 (.q 4 15 (.q 5 31 (.q 6 63 (.q 7 127 (.q 8 255 (.q 9 511 (.q 10 1023 .nil))))))))))) (by kernel_rfl) (by kernel_rfl) ?_
      intro w8 hx9
      replace hs := hs.ext hx9
      refine WD_pure (fun _ => (Run_move (Opd.t rfl))) rfl rfl rfl rfl <| WD_pure (fun _ => (Run_move (Opd.t rfl))) rfl rfl rfl rfl <| ?_
      obtain ⟨e10, he11, hm⟩ := bind_some' hm
      obtain ⟨v12, hC13, hN14, hR15⟩ := cellsM23 (g := true) (fun hg => (hs.sl (i := 0) rfl)) (fun hg => he11)
      replace hs := hs.addL [elem true (elA (sl v1) i5 1) [(sl v12)], imm (RSl (RI .u8)) [sl v12] e10] rfl ⟨fun hg => ⟨hN14 hg, hC13 hg⟩, ⟨_, rfl, hR15 rfl⟩, trivial⟩
      replace hs := Sat.n4 (Γ := Φ) hs rfl
      refine WD_pure (fun _ => (Run_idxAddr (p := (elA (sl v1) i5 1)) Try.underlying22 ti23 (Opd.t rfl) (Opd.t rfl) (fun hg => (SRd.atA (A := (RSl (RI .u8))) (v := (sl v1)) (hs.sl (i := 2) rfl) he11).1))) rfl rfl rfl rfl <| WD_op (fun w => true = true → CellsAt w (elA (sl v1) i5 1) [(sl v12)]) (fun hg => ((hs.elem (i := 0) rfl) hg).sub 0 rfl) (fun _ hJ => (Run_load1 (v := (sl v12)) Try.underlying23 rfl (Opd.t rfl) hJ)) rfl rfl rfl rfl <| WD_op (fun w => true = true → SRd (RI .u8) (fun _ => False) w (sl v12) e10) (fun hg => (hs.sl (i := 1) rfl).mv (Mv.weaken _ (fun _ h => h.elim))) (fun _ hJ => (Run_b2s Try.underlying23 Try.underlying5 Try.underlying9 (Opd.t rfl) hJ)) rfl rfl rfl rfl <| WD_pure (fun _ => (Run_move (Opd.t rfl))) rfl rfl rfl rfl <| WD_pure (fun _ => (Run_move (Opd.t rfl))) rfl rfl rfl rfl <| ?_
      obtain ⟨e16, he17, hm⟩ := bind_some' hm
      obtain ⟨v18, hC19, hN20, hR21⟩ := cellsM23 (g := true) (fun hg => (hs.sl (i := 3) rfl)) (fun hg => he17)
      replace hs := hs.addL [elem true (elA (sl v3) i5 1) [(sl v18)], imm (RSl (RI .u8)) [sl v18] e16] rfl ⟨fun hg => ⟨hN20 hg, hC19 hg⟩, ⟨_, rfl, hR21 rfl⟩, trivial⟩
      replace hs := Sat.n6 (Γ := Φ) hs rfl
      refine WD_pure (fun _ => (Run_idxAddr (p := (elA (sl v3) i5 1)) Try.underlying22 ti23 (Opd.t rfl) (Opd.t rfl) (fun hg => (SRd.atA (A := (RSl (RI .u8))) (v := (sl v3)) (hs.sl (i := 5) rfl) he17).1))) rfl rfl rfl rfl <| WD_op (fun w => true = true → CellsAt w (elA (sl v3) i5 1) [(sl v18)]) (fun hg => ((hs.elem (i := 0) rfl) hg).sub 0 rfl) (fun _ hJ => (Run_load1 (v := (sl v18)) Try.underlying23 rfl (Opd.t rfl) hJ)) rfl rfl rfl rfl <| WD_op (fun w => true = true → SRd (RI .u8) (fun _ => False) w (sl v18) e16) (fun hg => (hs.sl (i := 1) rfl).mv (Mv.weaken _ (fun _ h => h.elim))) (fun _ hJ => (Run_b2s Try.underlying23 Try.underlying5 Try.underlying9 (Opd.t rfl) hJ)) rfl rfl rfl rfl <| WD_pure (fun _ => (Run_neS (Opd.t rfl) (Opd.t rfl))) rfl rfl rfl rfl <| ?_
      refine WD_nil ?_
      refine At_then ?_
      refine WC_cond (Opd.t rfl) (fun hc22 => ?_) (fun hc22 => ?_)
      ·
        replace hm := bif_t hc22 hm
        refine WC_seq ?_
        refine WC_region ?_
        refine WL_op (Run_assign Opd.c) rfl rfl rfl rfl <| ?_
        refine WL_nil ?_
        refine At_then ?_
        refine WC_ret ?_
        refine At_blk_ret <| At_then_ret <| At_then_ret <| At_blk_ret <| At_then_ret <| ?_
        refine At_r1 rfl (ResIs.t rfl) ?_
        cases hm
        exact ⟨rfl, (hs.re 6 [] rfl)⟩
      ·
        replace hm := bif_f hc22 hm
        refine WC_skip ?_
        refine At_blk_normal ?_
        refine At_then ?_
        refine WC_region ?_
        refine WL_op (Run_move (Opd.t rfl)) rfl rfl rfl rfl <| WL_op (Run_add (Opd.t rfl) Opd.c) rfl rfl rfl rfl <| WL_op (Run_assign (Opd.t rfl)) rfl rfl rfl rfl <| ?_
        refine WL_nil ?_
        exact At_again (IntKind.i64.wrap (i5 + 1)) () hm (hs.re 6 [4, 5] rfl) rfl
    ·
      replace hm := bif_f hc7 hm
      refine WC_exit ?_
      refine At_then_exit <| At_then_exit <| At_blk_here <| ?_
      refine At_then ?_
      refine WC_seq ?_
      refine WC_region ?_
      refine WL_op (Run_assign Opd.c) rfl rfl rfl rfl <| ?_
      refine WL_nil ?_
      refine At_then ?_
      refine WC_ret ?_
      refine At_r1 rfl (ResIs.t rfl) ?_
      cases hm
      exact ⟨rfl, (hs.re 2 [] rfl)⟩

end Go.Proofs.Ytjappdgehmjomaa
