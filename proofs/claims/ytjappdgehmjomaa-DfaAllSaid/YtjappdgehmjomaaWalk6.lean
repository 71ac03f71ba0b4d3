/- Printed by a program: the walks. -/
import Derived.Test.YtjappdgehmjomaaTypes
import Derived.Test.YtjappdgehmjomaaWalk1
import Derived.Test.YtjappdgehmjomaaWalk5
namespace Go.Proofs.Ytjappdgehmjomaa
open Go.Proofs

set_option maxRecDepth 100000 in
set_option maxHeartbeats 4000000 in
theorem dfa_work_put_c1_ok {Φ : Ctx} {w : World} {e : (Int × Int)} {by_ : Int} {r : Int} (hs : Sat (Φ) w) (hm : dfa_work_put_c1 e by_ = some r) :
    CallsR Try.prog 35 [(.agg #[(.int .u8 e.1), (.int .i64 e.2)]), (.int .u8 by_)] w (fun v w' => v = (.int .i64 r) ∧ Sat (Φ) w') := by
  refine CallsX_enter Try.func35 rfl Try.ntmps35 rfl ?_
  unfold dfa_work_put_c1 at hm
  refine WC_seq ?_
  refine WC_region ?_
  refine WS_box (zs := [(.int .u8 e.1), (.int .i64 e.2)]) hs (Opd.t rfl) rfl rfl ?_
  intro b3 w4 hs
  replace hs := Sat.n1 (Γ := Φ) hs rfl
  refine WL_op (Run_assign Opd.c) rfl rfl rfl rfl <| ?_
  refine WL_nil ?_
  refine At_then ?_
  refine WC_seq ?_
  refine WC_region ?_
  refine WL_op (Run_fieldAddr fo69_0 (Opd.t rfl)) rfl rfl rfl rfl <| WL_op (Run_load1 (v := (.int .u8 e.1)) Try.underlying5 rfl (Opd.t rfl) (fun _ => (hs.box (i := 0) rfl).part 0 rfl)) rfl rfl rfl rfl <| WL_op (Run_move (Opd.t rfl)) rfl rfl rfl rfl <| ?_
  obtain ⟨r5, hr6, hm⟩ := bind_some' hm
  refine WL_call (f := 36) (first := []) (cap := []) (xs := [(.tmp 6), (.tmp 7)]) (vs := [(.int .u8 e.1), (.int .u8 by_)]) (args := [(.int .u8 e.1), (.int .u8 by_)]) Try.call36 Opd.f (.cons (Opd.t rfl) (.cons (Opd.t rfl) .nil)) rfl rfl (cmp_Compare_byte_ok (hs.re 1 [0] rfl) hr6) ?_
  rintro _ w7 ⟨rfl, hs⟩
  replace hs := Sat.n1 (Γ := Φ) hs rfl
  refine WL_op (Run_assign (Opd.t rfl)) rfl rfl rfl rfl <| ?_
  refine WL_nil ?_
  refine At_then ?_
  refine WC_ret ?_
  refine At_r1 rfl (ResIs.t rfl) ?_
  cases hm
  exact ⟨rfl, (hs.re 1 [] rfl)⟩

set_option maxRecDepth 100000 in
set_option maxHeartbeats 4000000 in
theorem slices_BinarySearchFunc_api_Edge_api_Edge_byte_s3_ok {Φ : Ctx} {w : World} {x : (List (Int × Int))} {target : Int} {v1 : SLV} {R : List Nat} {r : (Int × Bool)} (hs : Sat (osl (RP (RI .u8) (RI .i64)) 69 (sl v1) x R :: Φ) w) (hm : slices_BinarySearchFunc_api_Edge_api_Edge_byte_s3 x target = some r) :
    CallsR Try.prog 34 [(sl v1), (.int .u8 target), (.func (.func 35) #[] #[])] w (fun v w' => v = (.tuple #[(.int .i64 r.1), (.bool r.2)]) ∧ Sat (osl (RP (RI .u8) (RI .i64)) 69 (sl v1) x R :: Φ) w') := by
  refine CallsX_enter Try.func34 rfl Try.ntmps34 rfl ?_
  unfold slices_BinarySearchFunc_api_Edge_api_Edge_byte_s3 at hm
  refine WC_seq ?_
  refine WC_region ?_
  refine WL_op (Run_assign Opd.c) rfl rfl rfl rfl <| WL_op (Run_assign Opd.c) rfl rfl rfl rfl <| ?_
  refine WL_nil ?_
  refine At_then ?_
  refine WC_seq ?_
  refine WC_region ?_
  refine WL_op (Run_move (Opd.t rfl)) rfl rfl rfl rfl <| WL_op (Run_lenSlG Try.underlying58 (Opd.t rfl) (fun _ => (hs.own (i := 0) rfl).len)) rfl rfl rfl rfl <| WL_op (Run_assign (Opd.t rfl)) rfl rfl rfl rfl <| ?_
  refine WL_nil ?_
  refine At_then ?_
  refine WC_seq ?_
  refine WC_region ?_
  refine WL_op (Run_move (Opd.t rfl)) rfl rfl rfl rfl <| WL_op (Run_assign Opd.c) rfl rfl rfl rfl <| WL_op (Run_assign (Opd.t rfl)) rfl rfl rfl rfl <| ?_
  refine WL_nil ?_
  refine At_then ?_
  refine WC_seq ?_
  refine WC_block ?_
  refine WC_loop (σ := Int × Int) (γ := Unit) (F := (slices_BinarySearchFunc_api_Edge_api_Edge_byte_s3_L1 x target)) (N := FUEL) (s0 := (0, (List.length x : Int))) (r := r) (fun ⟨i5, j6⟩ (_ : Unit) w4 => Sat (osl (RP (RI .u8) (RI .i64)) 69 (sl v1) x R :: Φ) w4) (fun ⟨i5, j6⟩ (_ : Unit) => [(0, true, (sl v1)), (1, true, (.int .u8 target)), (2, true, (.func (.func 35) #[] #[])), (8, true, (.int .i64 (List.length x : Int))), (9, true, (.int .i64 i5)), (10, true, (.int .i64 j6))]) hm () (hs.re 1 [0] rfl) rfl ?_
  rintro again7 ⟨i5, j6⟩ _ w4 hm hs
  unfold slices_BinarySearchFunc_api_Edge_api_Edge_byte_s3_L1 at hm
  dsimp only at hm
  refine WC_seq ?_
  refine WC_seq ?_
  refine WC_region ?_
  refine WL_op (Run_move (Opd.t rfl)) rfl rfl rfl rfl <| WL_op (Run_move (Opd.t rfl)) rfl rfl rfl rfl <| WL_op (Run_ltI (Opd.t rfl) (Opd.t rfl)) rfl rfl rfl rfl <| ?_
  refine WL_nil ?_
  refine At_then ?_
  refine WC_cond (Opd.t rfl) (fun hc8 => ?_) (fun hc8 => ?_)
  ·
    replace hm := bif_t hc8 hm
    refine WC_skip ?_
    refine At_then ?_
    refine WC_block ?_
    refine WC_seq ?_
    refine WC_region ?_
    refine WL_op (Run_move (Opd.t rfl)) rfl rfl rfl rfl <| WL_op (Run_move (Opd.t rfl)) rfl rfl rfl rfl <| WL_op (Run_add (Opd.t rfl) (Opd.t rfl)) rfl rfl rfl rfl <| WL_op (Run_conv Try.underlying3 Try.underlying83 (Opd.t rfl)) rfl rfl rfl rfl <| WL_op (Run_shr (Opd.t rfl) Opd.c (fun _ => rfl)) rfl rfl rfl rfl <| WL_op (Run_conv Try.underlying83 Try.underlying3 (Opd.t rfl)) rfl rfl rfl rfl <| WL_op (Run_assign (Opd.t rfl)) rfl rfl rfl rfl <| ?_
    refine WL_nil ?_
    refine At_then ?_
    refine WC_seq ?_
    refine WC_region ?_
    refine WL_op (Run_move (Opd.t rfl)) rfl rfl rfl rfl <| WL_op (Run_move (Opd.t rfl)) rfl rfl rfl rfl <| WL_op (Run_move (Opd.t rfl)) rfl rfl rfl rfl <| ?_
    obtain ⟨e9, he10, hm⟩ := bind_some' hm
    refine WL_op (Run_idxAddr (p := (elA (sl v1) (IntKind.i64.wrap (shrI .u64 (IntKind.u64.wrap (IntKind.i64.wrap (i5 + j6))) 1)) 2)) Try.underlying58 ti69 (Opd.t rfl) (Opd.t rfl) (fun hg => (Own.atA (A := (RP (RI .u8) (RI .i64))) (v := (sl v1)) (hs.own (i := 0) rfl) he10).1)) rfl rfl rfl rfl <| WL_op (Run_loadA (vs := [(.int .u8 e9.1), (.int .i64 e9.2)]) Try.underlying69 rfl ti69 (Opd.t rfl) (fun hg => (Own.cellsF (A := (RP (RI .u8) (RI .i64))) (v := (sl v1)) (hs.own (i := 0) rfl) he10 (fun _ h => openT69 h)).sub 0 rfl) rfl) rfl rfl rfl rfl <| WL_op (Run_move (Opd.t rfl)) rfl rfl rfl rfl <| ?_
    obtain ⟨r11, hr12, hm⟩ := bind_some' hm
    refine WL_call (f := 35) (first := []) (cap := []) (xs := [(.tmp 28), (.tmp 29)]) (vs := [(.agg #[(.int .u8 e9.1), (.int .i64 e9.2)]), (.int .u8 target)]) (args := [(.agg #[(.int .u8 e9.1), (.int .i64 e9.2)]), (.int .u8 target)]) Try.call35 (Opd.t rfl) (.cons (Opd.t rfl) (.cons (Opd.t rfl) .nil)) rfl rfl (dfa_work_put_c1_ok (hs.re 1 [0] rfl) hr12) ?_
    rintro _ w13 ⟨rfl, hs⟩
    replace hs := Sat.n1 (Γ := Φ) hs rfl
    refine WL_op (Run_ltI (Opd.t rfl) Opd.c) rfl rfl rfl rfl <| ?_
    refine WL_nil ?_
    refine At_then ?_
    refine WC_cond (Opd.t rfl) (fun hc14 => ?_) (fun hc14 => ?_)
    ·
      replace hm := bif_t hc14 hm
      refine WC_region ?_
      refine WL_op (Run_move (Opd.t rfl)) rfl rfl rfl rfl <| WL_op (Run_add (Opd.t rfl) Opd.c) rfl rfl rfl rfl <| WL_op (Run_assign (Opd.t rfl)) rfl rfl rfl rfl <| ?_
      refine WL_nil ?_
      refine At_blk_normal ?_
      exact At_again ((IntKind.i64.wrap ((IntKind.i64.wrap (shrI .u64 (IntKind.u64.wrap (IntKind.i64.wrap (i5 + j6))) 1)) + 1)), j6) () hm (hs.re 1 [0] rfl) rfl
    ·
      replace hm := bif_f hc14 hm
      refine WC_region ?_
      refine WL_op (Run_move (Opd.t rfl)) rfl rfl rfl rfl <| WL_op (Run_assign (Opd.t rfl)) rfl rfl rfl rfl <| ?_
      refine WL_nil ?_
      refine At_blk_normal ?_
      exact At_again (i5, (IntKind.i64.wrap (shrI .u64 (IntKind.u64.wrap (IntKind.i64.wrap (i5 + j6))) 1))) () hm (hs.re 1 [0] rfl) rfl
  ·
    replace hm := bif_f hc8 hm
    refine WC_exit ?_
    refine At_then_exit <| At_then_exit <| At_blk_here <| ?_
    refine At_then ?_
    refine WC_seq ?_
    refine WC_region ?_
    refine WL_op (Run_move (Opd.t rfl)) rfl rfl rfl rfl <| WL_op (Run_move (Opd.t rfl)) rfl rfl rfl rfl <| WL_op (Run_move (Opd.t rfl)) rfl rfl rfl rfl <| ?_
    obtain ⟨b15, e16, hm⟩ := letv_some hm
    refine WL_op (Run.eqB (Run_ltI (Opd.t rfl) (Opd.t rfl)) e16) rfl rfl rfl rfl <| WL_op (Run_move (Opd.t rfl)) rfl rfl rfl rfl <| WL_opG rfl rfl rfl rfl guard_pos (Run_move (Opd.t rfl)) rfl rfl rfl <| WL_opG rfl rfl rfl rfl guard_pos (Run_move (Opd.t rfl)) rfl rfl rfl <| WL_opG rfl rfl rfl rfl guard_pos (Run_move (Opd.t rfl)) rfl rfl rfl <| ?_
    obtain ⟨e17, he18, -, hm⟩ := callG_some hm
    refine WL_opG rfl rfl rfl rfl guard_pos (Run_idxAddr (p := (elA (sl v1) i5 2)) Try.underlying58 ti69 (Opd.g rfl id) (Opd.g rfl id) (fun hg => (Own.atA (A := (RP (RI .u8) (RI .i64))) (v := (sl v1)) (hs.own (i := 0) rfl) (he18 hg)).1)) rfl rfl rfl <| WL_opG rfl rfl rfl rfl guard_pos (Run_loadA (vs := [(.int .u8 e17.1), (.int .i64 e17.2)]) Try.underlying69 rfl ti69 (Opd.g rfl id) (fun hg => (Own.cellsF (A := (RP (RI .u8) (RI .i64))) (v := (sl v1)) (hs.own (i := 0) rfl) (he18 hg) (fun _ h => openT69 h)).sub 0 rfl) rfl) rfl rfl rfl <| WL_opG rfl rfl rfl rfl guard_pos (Run_move (Opd.t rfl)) rfl rfl rfl <| ?_
    obtain ⟨r19, hr20, -, hm⟩ := callG_some hm
    refine WL_callG rfl rfl rfl guard_pos (f := 35) (first := []) (cap := []) (xs := [(.tmp 44), (.tmp 45)]) (vs := [(.agg #[(.int .u8 e17.1), (.int .i64 e17.2)]), (.int .u8 target)]) (args := [(.agg #[(.int .u8 e17.1), (.int .i64 e17.2)]), (.int .u8 target)]) Try.call35 (Opd.g rfl id) (.cons (Opd.g rfl id) (.cons (Opd.g rfl id) .nil)) rfl rfl (fun hg => dfa_work_put_c1_ok (hs.re 1 [0] rfl) (hr20 hg)) ?_
    intro v22 w21 hv23 hz24
    replace hs := Sat.ofG (fun hg => (hv23 hg).2.re 1 [0] rfl) hz24 hs
    refine WL_sub1 (v := (.int .i64 r19)) (fun hg => (hv23 hg).1) ?_
    replace hs := Sat.n1 (Γ := Φ) hs rfl
    obtain ⟨b25, e26, hm⟩ := letv_some hm
    refine WL_opG rfl rfl rfl rfl guard_pos (Run.eqB (Run_eqI (Opd.g rfl id) Opd.c) e26) rfl rfl rfl <| ?_
    obtain ⟨b27, e28, hm⟩ := letv_some hm
    refine WL_op (Run.eqB (Run_and (Opd.t rfl) (Opd.g rfl id)) e28) rfl rfl rfl rfl <| WL_op (Run_assign (Opd.t rfl)) rfl rfl rfl rfl <| WL_op (Run_assign (Opd.t rfl)) rfl rfl rfl rfl <| ?_
    refine WL_nil ?_
    refine At_then ?_
    refine WC_ret ?_
    refine At_r2 rfl (ResIs.t rfl) (ResIs.t rfl) ?_
    cases hm
    exact ⟨rfl, (hs.re 1 [0] rfl)⟩

set_option maxRecDepth 100000 in
set_option maxHeartbeats 4000000 in
theorem slices_Clone_api_Edge_api_Edge_ok {Φ : Ctx} {w : World} {s : (List (Int × Int))} {v1 : SLV} {r : (List (Int × Int))} (hs : Sat (imm (RSl (RP (RI .u8) (RI .i64))) [sl v1] s :: Φ) w) (hm : slices_Clone_api_Edge_api_Edge s = some r) :
    CallsR Try.prog 33 [(sl v1)] w (fun v w' => ∃ v3 : SLV, ∃ R4 : List Nat, v = (sl v3) ∧ Sat (osl (RP (RI .u8) (RI .i64)) 69 (sl v3) r R4 :: Φ) w') := by
  refine CallsX_enter Try.func33 rfl Try.ntmps33 rfl ?_
  unfold slices_Clone_api_Edge_api_Edge at hm
  refine WC_seq ?_
  refine WC_region ?_
  refine WL_op (Run_assign Opd.c) rfl rfl rfl rfl <| ?_
  refine WL_nil ?_
  refine At_then ?_
  refine WC_seq ?_
  refine WC_seq ?_
  refine WC_region ?_
  refine WL_op (Run_move (Opd.t rfl)) rfl rfl rfl rfl <| ?_
  rcases srd_nilcase (hs.sl (i := 0) rfl) with ⟨rfl, rfl⟩ | hv5
  ·
    replace hm : (some []) = some r := hm
    refine WL_op (Run.eqB (Run_eqNilSl Try.underlying58 (Opd.t rfl) ((hs.sl (i := 0) rfl).len) Opd.c) rfl) rfl rfl rfl rfl <| ?_
    refine WL_nil ?_
    refine At_then ?_
    refine WC_cond (Opd.t rfl) (fun _ => ?_) (fun h => by cases h)
    refine WC_seq ?_
    refine WC_region ?_
    refine WL_op (Run_assign Opd.c) rfl rfl rfl rfl <| ?_
    refine WL_nil ?_
    refine At_then ?_
    refine WC_ret ?_
    refine At_then_ret <| ?_
    refine At_r1 rfl (ResIs.t rfl) ?_
    replace hs := hs.addNil (RP (RI .u8) (RI .i64)) 69
    cases hm
    exact ⟨(none, 0, 0), [], rfl, (hs.re 2 [0] rfl)⟩
  ·
    refine WL_op (Run.eqB (Run_eqNilSl Try.underlying58 (Opd.t rfl) ((hs.sl (i := 0) rfl).len) Opd.c) hv5) rfl rfl rfl rfl <| ?_
    refine WL_nil ?_
    refine At_then ?_
    refine WC_cond (Opd.t rfl) (fun h => by cases h) (fun _ => ?_)
    refine WC_skip ?_
    refine At_then ?_
    refine WC_seq ?_
    refine WC_region ?_
    refine WS_lit0 (A := (RP (RI .u8) (RI .i64))) hs Try.underlying58 ti69 rfl ?_
    intro b6 w7 hs
    replace hs := Sat.n2 (Γ := Φ) hs rfl
    refine WL_op (Run_move (Opd.t rfl)) rfl rfl rfl rfl <| ?_
    obtain ⟨k8, hm⟩ := chk_some hm
    refine WS_append (A := (RP (RI .u8) (RI .i64))) hs 0 rfl Try.underlying58 ti69 rfl rfl (Opd.t rfl) (Opd.t rfl) (hs.sl (i := 1) rfl) k8 rfl ?_
    intro v9 R10 w11 hs
    replace hs := Sat.n2 (Γ := Φ) hs rfl
    refine WL_op (Run_assign (Opd.t rfl)) rfl rfl rfl rfl <| ?_
    refine WL_nil ?_
    refine At_then ?_
    refine WC_ret ?_
    refine At_r1 rfl (ResIs.t rfl) ?_
    cases hm
    exact ⟨v9, R10, rfl, (hs.re 2 [0] rfl)⟩

set_option maxRecDepth 100000 in
set_option maxHeartbeats 4000000 in
theorem dfa_work_put_F_ok {k_dfa_work_put : (Int × (List Int) × Int × (List ((List (Int × Int)) × Int)) × Int × Int × (List Int) × (Option (List (Int × Bool)))) → Option (Int × (List ((List (Int × Int)) × Int)) × (List Int) × (Option (List (Int × Bool))))} (ih_dfa_work_put : ∀ {Φ : Ctx} {w : World} {at_ : Int} {word : (List Int)} {Wide : Int} {Node : (List ((List (Int × Int)) × Int))} {Root : Int} {Many : Int} {Free : (List Int)} {young : (Option (List (Int × Bool)))} {b : Nat} {v2 : SLV} {v4 : SLV} {R : List Nat} {v6 : SLV} {R7 : List Nat} {v9 : Option Nat} {r : (Int × (List ((List (Int × Int)) × Int)) × (List Int) × (Option (List (Int × Bool))))}, Sat (box b 56 [(.int .i64 Wide), (sl v4), (.int .i64 Root), (.int .i64 Many), (sl v6), (.map v9)] :: imm (RSl (RI .u8)) [sl v2] word :: osl (RP (RSl (RP (RI .u8) (RI .i64))) (RI .i64)) 60 (sl v4) Node R :: osl (RI .i64) 3 (sl v6) Free R7 :: omap mk54 mv54 (.map v9) young :: Φ) w → k_dfa_work_put (at_, word, Wide, Node, Root, Many, Free, young) = some r → CallsR Try.prog 25 [(.pointer (some ⟨b, 0, none⟩)), (.int .i64 at_), (sl v2)] w (fun v w' => ∃ v5 : SLV, ∃ R6 : List Nat, ∃ v8 : SLV, ∃ R9 : List Nat, v = (.int .i64 r.1) ∧ Sat (box b 56 [(.int .i64 Wide), (sl v5), (.int .i64 Root), (.int .i64 Many), (sl v8), (.map v9)] :: osl (RP (RSl (RP (RI .u8) (RI .i64))) (RI .i64)) 60 (sl v5) r.2.1 R6 :: osl (RI .i64) 3 (sl v8) r.2.2.1 R9 :: omap mk54 mv54 (.map v9) r.2.2.2 :: Φ) w')) {Φ : Ctx} {w : World} {at_ : Int} {word : (List Int)} {Wide : Int} {Node : (List ((List (Int × Int)) × Int))} {Root : Int} {Many : Int} {Free : (List Int)} {young : (Option (List (Int × Bool)))} {b : Nat} {v2 : SLV} {v4 : SLV} {R : List Nat} {v6 : SLV} {R7 : List Nat} {v9 : Option Nat} {r : (Int × (List ((List (Int × Int)) × Int)) × (List Int) × (Option (List (Int × Bool))))} (hs : Sat (box b 56 [(.int .i64 Wide), (sl v4), (.int .i64 Root), (.int .i64 Many), (sl v6), (.map v9)] :: imm (RSl (RI .u8)) [sl v2] word :: osl (RP (RSl (RP (RI .u8) (RI .i64))) (RI .i64)) 60 (sl v4) Node R :: osl (RI .i64) 3 (sl v6) Free R7 :: omap mk54 mv54 (.map v9) young :: Φ) w) (hm : dfa_work_put_F k_dfa_work_put at_ word Wide Node Root Many Free young = some r) :
    CallsR Try.prog 25 [(.pointer (some ⟨b, 0, none⟩)), (.int .i64 at_), (sl v2)] w (fun v w' => ∃ v5 : SLV, ∃ R6 : List Nat, ∃ v8 : SLV, ∃ R9 : List Nat, v = (.int .i64 r.1) ∧ Sat (box b 56 [(.int .i64 Wide), (sl v5), (.int .i64 Root), (.int .i64 Many), (sl v8), (.map v9)] :: osl (RP (RSl (RP (RI .u8) (RI .i64))) (RI .i64)) 60 (sl v5) r.2.1 R6 :: osl (RI .i64) 3 (sl v8) r.2.2.1 R9 :: omap mk54 mv54 (.map v9) r.2.2.2 :: Φ) w') := by
  refine CallsX_enter Try.func25 rfl Try.ntmps25 rfl ?_
  unfold dfa_work_put_F at hm
  refine WC_seq ?_
  refine WC_region ?_
  refine WL_op (Run_assign Opd.c) rfl rfl rfl rfl <| ?_
  refine WL_nil ?_
  refine At_then ?_
  refine WC_seq ?_
  refine WC_seq ?_
  refine WC_region ?_
  refine WL_op (Run_move (Opd.t rfl)) rfl rfl rfl rfl <| WL_op (Run_lenSlG Try.underlying23 (Opd.t rfl) (fun hg => (hs.sl (i := 1) rfl).len)) rfl rfl rfl rfl <| WL_op (Run_eqI (Opd.t rfl) Opd.c) rfl rfl rfl rfl <| ?_
  refine WL_nil ?_
  refine At_then ?_
  refine WC_cond (Opd.t rfl) (fun hc11 => ?_) (fun hc11 => ?_)
  ·
    replace hm := bif_t hc11 hm
    refine WC_seq ?_
    refine WC_region ?_
    refine WL_op (Run_move (Opd.t rfl)) rfl rfl rfl rfl <| ?_
    replace hs := hs.addNilI (RP (RI .u8) (RI .i64))
    obtain ⟨r12, hr13, hm⟩ := bind_some' hm
    refine WL_call (f := 32) (first := []) (cap := []) (xs := [(.tmp 14), (.const (sl (none, 0, 0)))]) (vs := [(.pointer (some ⟨b, 0, none⟩)), (sl (none, 0, 0))]) (args := [(.pointer (some ⟨b, 0, none⟩)), (sl (none, 0, 0))]) Try.call32 Opd.f (.cons (Opd.t rfl) (.cons Opd.c .nil)) rfl rfl (dfa_work_node_ok (hs.re 6 [1, 0, 3, 4, 5, 0, 2] rfl) hr13) ?_
    rintro _ w18 ⟨v14, R15, v16, R17, rfl, hs⟩
    replace hs := Sat.n6 (Γ := Φ) hs rfl
    refine WL_op (Run_assign (Opd.t rfl)) rfl rfl rfl rfl <| ?_
    refine WL_nil ?_
    refine At_then ?_
    refine WC_ret ?_
    refine At_then_ret <| ?_
    refine At_r1 rfl (ResIs.t rfl) ?_
    cases hm
    exact ⟨v14, R15, v16, R17, rfl, (hs.re 6 [0, 1, 2, 3] rfl)⟩
  ·
    replace hm := bif_f hc11 hm
    refine WC_skip ?_
    refine At_then ?_
    refine WC_seq ?_
    refine WC_region ?_
    refine WL_op (Run_assign Opd.c) rfl rfl rfl rfl <| ?_
    refine WL_nil ?_
    refine At_then ?_
    refine WC_seq_cut (γ := (List (Int × Int)) × SLV × List Nat) (fun ⟨next20, v21, R22⟩ w19 => dfa_work_put_K1 k_dfa_work_put at_ word Wide Node Root Many Free young next20 = some r ∧ Sat (box b 56 [(.int .i64 Wide), (sl v4), (.int .i64 Root), (.int .i64 Many), (sl v6), (.map v9)] :: osl (RP (RSl (RP (RI .u8) (RI .i64))) (RI .i64)) 60 (sl v4) Node R :: osl (RI .i64) 3 (sl v6) Free R7 :: omap mk54 mv54 (.map v9) young :: imm (RSl (RI .u8)) [sl v2] word :: osl (RP (RI .u8) (RI .i64)) 69 (sl v21) next20 R22 :: Φ) w19) (fun ⟨next20, v21, R22⟩ => [(0, true, (.pointer (some ⟨b, 0, none⟩))), (1, true, (.int .i64 at_)), (2, true, (sl v2)), (7, true, (sl v21))]) ?_ ?_
    ·
      rintro ⟨next20, v21, R22⟩ w19 ⟨hm, hs⟩
      unfold dfa_work_put_K1 at hm
      refine WC_seq ?_
      refine WC_region_mixed [0, 1, 2, 0, 0, 16, 32, 64, 0, 0, 512, 1024, 2432, 0, 8192, 20488, 32772, 0, 262143] (.q 0 0 (.q 1 1 (.q 2 3 (.q 3 7 (.q 4 15 (.q 5 31 (.q 6 63 (.q 7 127 (.q 8 255 (.q 9 511 (.q 10 1023 (.q 11 2047 (.q 13 4095 (.q 14 12287 (.l2 28671 12 (.l2 32767 15 (.q 16 65535 (.l 17 131071 (.l 18 262143 .nil))) 17 (.l 15 163839 (.q 16 196607 (.l 18 262143 .nil)))) 17 (.l 12 159743 (.l 15 163839 (.q 16 196607 (.l 18 262143 .nil))))))))))))))))))) (by kernel_rfl) (by kernel_rfl) ?_
      intro w23 hx24
      replace hs := hs.ext hx24
      refine WD_pure (fun _ => (Run_move (Opd.t rfl))) rfl rfl rfl rfl <| ?_
      obtain ⟨e25, he26, hm⟩ := bind_some' hm
      refine WD_pure (fun _ => (Run_idxAddr (p := (elA (sl v2) 0 1)) Try.underlying23 ti5 (Opd.t rfl) Opd.c (fun hg => (SRd.atA (A := (RI .u8)) (v := (sl v2)) (hs.sl (i := 4) rfl) he26).1))) rfl rfl rfl rfl <| WD_op (fun w => true = true → CellsAt w (elA (sl v2) 0 1) [(.int .u8 e25)]) (fun hg => (SRd.cellsF (A := (RI .u8)) (v := (sl v2)) (hs.sl (i := 4) rfl) he26 (fun _ h => openT5 h)).sub 0 rfl) (fun _ hJ => (Run_load1 (v := (.int .u8 e25)) Try.underlying5 rfl (Opd.t rfl) hJ)) rfl rfl rfl rfl <| WD_pure (fun _ => (Run_move (Opd.t rfl))) rfl rfl rfl rfl <| WD_pure (fun _ => (Run_move (Opd.t rfl))) rfl rfl rfl rfl <| WD_pure (fun _ => (Run_nilP (Opd.t rfl))) rfl rfl rfl rfl <| WD_pure (fun _ => (Run_fieldAddr fo56_0 (Opd.t rfl))) rfl rfl rfl rfl <| WD_op (fun w => CellsAt w ⟨b, 0, none⟩ [(.int .i64 Wide), (sl v4), (.int .i64 Root), (.int .i64 Many), (sl v6)]) ((hs.box (i := 0) rfl).part 0 rfl) (fun _ hJ => (Run_loadA (vs := [(.int .i64 Wide), (sl v4), (.int .i64 Root), (.int .i64 Many), (sl v6)]) Try.underlying29 rfl ti29 (Opd.t rfl) (fun _ => hJ) rfl)) rfl rfl rfl rfl <| WD_pure (fun _ => (Run_move (Opd.t rfl))) rfl rfl rfl rfl <| ?_
      refine WD_pure (fun _ => (Run_move (Opd.t rfl))) rfl rfl rfl rfl <| ?_
      obtain ⟨e27, he28, hm⟩ := bind_some' hm
      refine WD_pure (fun _ => (Run_idxAddr (p := (elA (sl v2) 0 1)) Try.underlying23 ti5 (Opd.t rfl) Opd.c (fun hg => (SRd.atA (A := (RI .u8)) (v := (sl v2)) (hs.sl (i := 4) rfl) he28).1))) rfl rfl rfl rfl <| WD_op (fun w => true = true → CellsAt w (elA (sl v2) 0 1) [(.int .u8 e27)]) (fun hg => (SRd.cellsF (A := (RI .u8)) (v := (sl v2)) (hs.sl (i := 4) rfl) he28 (fun _ h => openT5 h)).sub 0 rfl) (fun _ hJ => (Run_load1 (v := (.int .u8 e27)) Try.underlying5 rfl (Opd.t rfl) hJ)) rfl rfl rfl rfl <| WD_pure (fun _ => (Run_move (Opd.t rfl))) rfl rfl rfl rfl <| ?_
      obtain ⟨k32, hm⟩ := chk_some hm
      obtain ⟨v30, hv29, h31⟩ := SRd.cutS (A := (RI .u8)) (M := Ctx.M _) (fun _ => hs.sl (i := 4) rfl) (fun _ => k32)
      refine WD_pure (fun _ => (Run_cutSl (lo := (some (.const (.int .i64 1)))) (hi := none) Try.underlying23 ti5 (Opd.t rfl) (fun hg => (hs.sl (i := 4) rfl).len) ⟨_, Opd.c⟩ rfl hv29)) rfl rfl rfl rfl <| ?_
      replace hs := hs.addS (h31 rfl)
      refine WD_loud2 ?_ ?_
      ·
        refine WD_loud (pend' := [(2, fun w => true = true → CellsAt w (elA (sl v2) 0 1) [(.int .u8 e25)])]) rfl (by kernel_rfl) ?_
        obtain ⟨r33, hr34, hm⟩ := bind_some' hm
        refine WL_call (f := 31) (first := []) (cap := []) (xs := [(.tmp 35), (.tmp 36), (.tmp 39)]) (vs := [(.agg #[(.int .i64 Wide), (sl v4), (.int .i64 Root), (.int .i64 Many), (sl v6)]), (.int .i64 at_), (.int .u8 e27)]) (args := [(.agg #[(.int .i64 Wide), (sl v4), (.int .i64 Root), (.int .i64 Many), (sl v6)]), (.int .i64 at_), (.int .u8 e27)]) Try.call31 Opd.f (.cons (Opd.t rfl) (.cons (Opd.t rfl) (.cons (Opd.t rfl) .nil))) rfl rfl (dfa_to_s3_ok (d := (Wide, Node, Root, Many, Free)) (hs.re 7 [2, 3, 0, 1, 4, 5, 6] rfl) hr34) ?_
        rintro _ w35 ⟨rfl, hs⟩
        replace hs := Sat.n7 (Γ := Φ) hs rfl
        refine WL_nil ?_
        refine At_QK (allJ_cons (fun hg => (SRd.cellsF (A := (RI .u8)) (v := (sl v2)) (hs.sl (i := 5) rfl) he26 (fun _ h => openT5 h)).sub 0 rfl) allJ_nil) ?_
        refine WD_loud2 ?_ ?_
        ·
          refine WD_loud (pend' := [(2, fun w => true = true → CellsAt w (elA (sl v2) 0 1) [(.int .u8 e25)])]) rfl (by kernel_rfl) ?_
          obtain ⟨r36, hr37, hm⟩ := bind_some' hm
          refine WL_call (f := 25) (first := []) (cap := []) (xs := [(.tmp 31), (.tmp 40), (.tmp 42)]) (vs := [(.pointer (some ⟨b, 0, none⟩)), (.int .i64 r33), (sl v30)]) (args := [(.pointer (some ⟨b, 0, none⟩)), (.int .i64 r33), (sl v30)]) Try.call25 Opd.f (.cons (Opd.t rfl) (.cons (Opd.t rfl) (.cons (Opd.t rfl) .nil))) rfl rfl (ih_dfa_work_put (Node := (Wide, Node, Root, Many, Free).2.1) (hs.re 7 [3, 2, 0, 1, 4, 2, 5, 6] rfl) hr37) ?_
          rintro _ w42 ⟨v38, R39, v40, R41, rfl, hs⟩
          replace hs := Sat.n7 (Γ := Φ) hs rfl
          refine WL_nil ?_
          refine At_QK (allJ_cons (fun hg => (SRd.cellsF (A := (RI .u8)) (v := (sl v2)) (hs.sl (i := 5) rfl) he26 (fun _ h => openT5 h)).sub 0 rfl) allJ_nil) ?_
          refine WD_pure (fun _ => (Run_build (parts := [(0, (.tmp 30)), (1, (.tmp 43))]) (v := (.agg #[(.int .u8 e25), (.int .i64 r36.1)])) (.cons (Opd.t rfl) (.cons (Opd.t rfl) .nil)) (fun _ => by kernel_rfl))) rfl rfl rfl rfl <| ?_
          refine WD_loud (pend' := [(2, fun w => true = true → CellsAt w (elA (sl v2) 0 1) [(.int .u8 e25)])]) rfl (by kernel_rfl) ?_
          refine WS_alloc (zs := [(.int .u8 0), (.int .i64 0)]) hs ti69 rfl rfl ?_
          intro b43 w44 hs
          replace hs := Sat.n8 (Γ := Φ) hs rfl
          refine WL_nil ?_
          refine At_QK (allJ_cons (fun hg => (SRd.cellsF (A := (RI .u8)) (v := (sl v2)) (hs.sl (i := 6) rfl) he26 (fun _ h => openT5 h)).sub 0 rfl) allJ_nil) ?_
          refine WD_loud (pend' := []) rfl (by kernel_rfl) ?_
          refine WS_store (us := [(.int .u8 e25), (.int .i64 r36.1)]) (vs' := [(.int .u8 e25), (.int .i64 r36.1)]) hs 0 rfl ti69 (Opd.t rfl) (Opd.t rfl) rfl rfl rfl rfl rfl ?_
          intro w45 hs
          replace hs := Sat.n8 (Γ := Φ) hs rfl
          refine WL_nil ?_
          refine At_QK allJ_nil ?_
          refine WD_nil ?_
          refine At_then ?_
          refine WC_seq ?_
          refine WC_region ?_
          refine WL_op (Run_move (Opd.t rfl)) rfl rfl rfl rfl <| WL_op (Run_fieldAddr fo69_0 (Opd.t rfl)) rfl rfl rfl rfl <| WL_op (Run_load1 (v := (.int .u8 e25)) Try.underlying5 rfl (Opd.t rfl) (fun _ => (hs.box (i := 0) rfl).part 0 rfl)) rfl rfl rfl rfl <| ?_
          obtain ⟨r46, hr47, hm⟩ := bind_some' hm
          refine WL_call (f := 34) (first := []) (cap := []) (xs := [(.tmp 46), (.tmp 48), (.func 35)]) (vs := [(sl v21), (.int .u8 e25), (.func (.func 35) #[] #[])]) (args := [(sl v21), (.int .u8 e25), (.func (.func 35) #[] #[])]) Try.call34 Opd.f (.cons (Opd.t rfl) (.cons (Opd.t rfl) (.cons Opd.f .nil))) rfl rfl (slices_BinarySearchFunc_api_Edge_api_Edge_byte_s3_ok (hs.re 8 [7, 0, 1, 2, 3, 4, 5, 6] rfl) hr47) ?_
          rintro _ w48 ⟨rfl, hs⟩
          replace hs := Sat.n8 (Γ := Φ) hs rfl
          refine WL_op (Run_move (Opd.t rfl)) rfl rfl rfl rfl <| WL_op (Run_extract (vs := [(.int .i64 r46.1), (.bool r46.2)]) (Opd.t rfl) rfl) rfl rfl rfl rfl <| WL_op (Run_extract (vs := [(.int .i64 r46.1), (.bool r46.2)]) (Opd.t rfl) rfl) rfl rfl rfl rfl <| WL_op (Run_assign (Opd.t rfl)) rfl rfl rfl rfl <| WL_op (Run_assign (Opd.t rfl)) rfl rfl rfl rfl <| ?_
          refine WL_nil ?_
          refine At_then ?_
          refine WC_seq_cut (γ := (List (Int × Int)) × SLV × List Nat) (fun ⟨next50, v51, R52⟩ w49 => dfa_work_put_K2 Wide Root Many r36 next50 = some r ∧ Sat (box b 56 [(.int .i64 Wide), (sl v38), (.int .i64 Root), (.int .i64 Many), (sl v40), (.map v9)] :: osl (RP (RSl (RP (RI .u8) (RI .i64))) (RI .i64)) 60 (sl v38) r36.2.1 R39 :: osl (RI .i64) 3 (sl v40) r36.2.2.1 R41 :: omap mk54 mv54 (.map v9) r36.2.2.2 :: osl (RP (RI .u8) (RI .i64)) 69 (sl v51) next50 R52 :: Φ) w49) (fun ⟨next50, v51, R52⟩ => [(0, true, (.pointer (some ⟨b, 0, none⟩))), (7, true, (sl v51))]) ?_ ?_
          ·
            rintro ⟨next50, v51, R52⟩ w49 ⟨hm, hs⟩
            unfold dfa_work_put_K2 at hm
            refine WC_seq ?_
            refine WC_region ?_
            refine WL_op (Run_move (Opd.t rfl)) rfl rfl rfl rfl <| WL_op (Run_move (Opd.t rfl)) rfl rfl rfl rfl <| ?_
            replace hs := hs.freeze (i := 4) rfl
            obtain ⟨r53, hr54, hm⟩ := bind_some' hm
            refine WL_call (f := 32) (first := []) (cap := []) (xs := [(.tmp 62), (.tmp 63)]) (vs := [(.pointer (some ⟨b, 0, none⟩)), (sl v51)]) (args := [(.pointer (some ⟨b, 0, none⟩)), (sl v51)]) Try.call32 Opd.f (.cons (Opd.t rfl) (.cons (Opd.t rfl) .nil)) rfl rfl (dfa_work_node_ok (hs.re 5 [0, 4, 1, 2, 3, 4] rfl) hr54) ?_
            rintro _ w59 ⟨v55, R56, v57, R58, rfl, hs⟩
            replace hs := Sat.n5 (Γ := Φ) hs rfl
            refine WL_op (Run_assign (Opd.t rfl)) rfl rfl rfl rfl <| ?_
            refine WL_nil ?_
            refine At_then ?_
            refine WC_ret ?_
            refine At_r1 rfl (ResIs.t rfl) ?_
            cases hm
            exact ⟨v55, R56, v57, R58, rfl, (hs.re 5 [0, 1, 2, 3] rfl)⟩
          ·
            refine WC_seq ?_
            refine WC_region ?_
            refine WL_op (Run_move (Opd.t rfl)) rfl rfl rfl rfl <| ?_
            refine WL_nil ?_
            refine At_then ?_
            refine WC_cond (Opd.t rfl) (fun hc60 => ?_) (fun hc60 => ?_)
            ·
              replace hm := bif_t hc60 hm
              refine WC_region ?_
              refine WL_op (Run_move (Opd.t rfl)) rfl rfl rfl rfl <| WL_op (Run_move (Opd.t rfl)) rfl rfl rfl rfl <| WL_op (Run_loadA (vs := [(.int .u8 e25), (.int .i64 r36.1)]) Try.underlying69 rfl ti69 (Opd.t rfl) (fun _ => (hs.box (i := 1) rfl).part 0 rfl) rfl) rfl rfl rfl rfl <| ?_
              obtain ⟨e61, he62, hm⟩ := bind_some' hm
              refine WL_op (Run_idxAddr (p := (elA (sl v21) r46.1 2)) Try.underlying58 ti69 (Opd.t rfl) (Opd.t rfl) (fun hg => (Own.atA (A := (RP (RI .u8) (RI .i64))) (v := (sl v21)) (hs.own (i := 0) rfl) he62).1)) rfl rfl rfl rfl <| ?_
              refine WS_storeElA (A := (RP (RI .u8) (RI .i64))) (us := [(.int .u8 e25), (.int .i64 r36.1)]) (u := (e25, r36.1)) hs 0 rfl ti69 (idx_inB he62 (by simp)) (Opd.t rfl) (Opd.t rfl) rfl rfl rfl rfl ⟨_, _, rfl, rfl, rfl⟩ ?_
              intro w63 hs
              replace hs := Sat.n8 (Γ := Φ) hs rfl
              refine WL_nil ?_
              exact At_join ((List.set next20 (Int.toNat r46.1) (e25, r36.1)), v21, R22) ⟨hm, (hs.re 8 [2, 3, 4, 5, 0] rfl)⟩ rfl
            ·
              replace hm := bif_f hc60 hm
              refine WC_region ?_
              refine WL_op (Run_move (Opd.t rfl)) rfl rfl rfl rfl <| WL_op (Run_move (Opd.t rfl)) rfl rfl rfl rfl <| WL_op (Run_loadA (vs := [(.int .u8 e25), (.int .i64 r36.1)]) Try.underlying69 rfl ti69 (Opd.t rfl) (fun _ => (hs.box (i := 1) rfl).part 0 rfl) rfl) rfl rfl rfl rfl <| ?_
              refine WS_lit (A := (RP (RI .u8) (RI .i64))) (xs := [(e25, r36.1)]) (zs := [(.int .u8 0), (.int .i64 0)]) (cells := [(.int .u8 e25), (.int .i64 r36.1)]) (parts := [(0, (.tmp 59))]) hs Try.underlying58 ti69 rfl rfl rfl (.cons (Opd.t rfl) .nil) (by kernel_rfl) rfl (ARd.cons (A := (RP (RI .u8) (RI .i64))) (c := [(.int .u8 e25), (.int .i64 r36.1)]) (x := (e25, r36.1)) ⟨_, _, rfl, rfl, rfl⟩ ARd.nil) rfl ?_
              intro b64 w65 hs
              replace hs := Sat.n9 (Γ := Φ) hs rfl
              obtain ⟨k66, hm⟩ := chk_some hm
              obtain ⟨k67, hm⟩ := chk_some hm
              refine WL_call (f := 37) (first := []) (cap := []) (xs := [(.tmp 57), (.tmp 58), (.tmp 60)]) (vs := [(sl v21), (.int .i64 r46.1), (sl (some ⟨b64, 0, none⟩, 1, 1))]) (args := [(sl v21), (.int .i64 r46.1), (sl (some ⟨b64, 0, none⟩, 1, 1))]) Try.call37 Opd.f (.cons (Opd.t rfl) (.cons (Opd.t rfl) (.cons (Opd.t rfl) .nil))) rfl rfl (insert37_ok (hs.re 9 [1, 0, 2, 3, 4, 5, 6, 7, 8] rfl) (List.cons_ne_nil _ _) k66 k67) ?_
              rintro _ w70 ⟨v68, R69, rfl, hs⟩
              replace hs := Sat.n9 (Γ := Φ) hs rfl
              refine WL_op (Run_assign (Opd.t rfl)) rfl rfl rfl rfl <| ?_
              refine WL_nil ?_
              exact At_join ((insL next20 r46.1 ([(e25, r36.1)] : List (Int × Int))), v68, R69) ⟨hm, (hs.re 9 [3, 4, 5, 6, 0] rfl)⟩ rfl
        ·
          refine WD_loud (pend' := [(2, fun w => true = true → CellsAt w (elA (sl v2) 0 1) [(.int .u8 e25)])]) rfl (by kernel_rfl) ?_
          refine WS_alloc (zs := [(.int .u8 0), (.int .i64 0)]) hs ti69 rfl rfl ?_
          intro b71 w72 hs
          replace hs := Sat.n8 (Γ := Φ) hs rfl
          refine WL_nil ?_
          refine At_QK (allJ_cons (fun hg => (SRd.cellsF (A := (RI .u8)) (v := (sl v2)) (hs.sl (i := 6) rfl) he26 (fun _ h => openT5 h)).sub 0 rfl) allJ_nil) ?_
          refine WD_loud (pend' := [(2, fun w => true = true → CellsAt w (elA (sl v2) 0 1) [(.int .u8 e25)])]) rfl (by kernel_rfl) ?_
          obtain ⟨r73, hr74, hm⟩ := bind_some' hm
          refine WL_call (f := 25) (first := []) (cap := []) (xs := [(.tmp 31), (.tmp 40), (.tmp 42)]) (vs := [(.pointer (some ⟨b, 0, none⟩)), (.int .i64 r33), (sl v30)]) (args := [(.pointer (some ⟨b, 0, none⟩)), (.int .i64 r33), (sl v30)]) Try.call25 Opd.f (.cons (Opd.t rfl) (.cons (Opd.t rfl) (.cons (Opd.t rfl) .nil))) rfl rfl (ih_dfa_work_put (Node := (Wide, Node, Root, Many, Free).2.1) (hs.re 8 [4, 3, 1, 2, 5, 0, 3, 6, 7] rfl) hr74) ?_
          rintro _ w79 ⟨v75, R76, v77, R78, rfl, hs⟩
          replace hs := Sat.n8 (Γ := Φ) hs rfl
          refine WL_nil ?_
          refine At_QK (allJ_cons (fun hg => (SRd.cellsF (A := (RI .u8)) (v := (sl v2)) (hs.sl (i := 6) rfl) he26 (fun _ h => openT5 h)).sub 0 rfl) allJ_nil) ?_
          refine WD_pure (fun _ => (Run_build (parts := [(0, (.tmp 30)), (1, (.tmp 43))]) (v := (.agg #[(.int .u8 e25), (.int .i64 r73.1)])) (.cons (Opd.t rfl) (.cons (Opd.t rfl) .nil)) (fun _ => by kernel_rfl))) rfl rfl rfl rfl <| ?_
          refine WD_loud (pend' := []) rfl (by kernel_rfl) ?_
          refine WS_store (us := [(.int .u8 e25), (.int .i64 r73.1)]) (vs' := [(.int .u8 e25), (.int .i64 r73.1)]) hs 4 rfl ti69 (Opd.t rfl) (Opd.t rfl) rfl rfl rfl rfl rfl ?_
          intro w80 hs
          replace hs := Sat.n8 (Γ := Φ) hs rfl
          refine WL_nil ?_
          refine At_QK allJ_nil ?_
          refine WD_nil ?_
          refine At_then ?_
          refine WC_seq ?_
          refine WC_region ?_
          refine WL_op (Run_move (Opd.t rfl)) rfl rfl rfl rfl <| WL_op (Run_fieldAddr fo69_0 (Opd.t rfl)) rfl rfl rfl rfl <| WL_op (Run_load1 (v := (.int .u8 e25)) Try.underlying5 rfl (Opd.t rfl) (fun _ => (hs.box (i := 4) rfl).part 0 rfl)) rfl rfl rfl rfl <| ?_
          obtain ⟨r81, hr82, hm⟩ := bind_some' hm
          refine WL_call (f := 34) (first := []) (cap := []) (xs := [(.tmp 46), (.tmp 48), (.func 35)]) (vs := [(sl v21), (.int .u8 e25), (.func (.func 35) #[] #[])]) (args := [(sl v21), (.int .u8 e25), (.func (.func 35) #[] #[])]) Try.call34 Opd.f (.cons (Opd.t rfl) (.cons (Opd.t rfl) (.cons Opd.f .nil))) rfl rfl (slices_BinarySearchFunc_api_Edge_api_Edge_byte_s3_ok (hs.re 8 [7, 0, 1, 2, 3, 4, 5, 6] rfl) hr82) ?_
          rintro _ w83 ⟨rfl, hs⟩
          replace hs := Sat.n8 (Γ := Φ) hs rfl
          refine WL_op (Run_move (Opd.t rfl)) rfl rfl rfl rfl <| WL_op (Run_extract (vs := [(.int .i64 r81.1), (.bool r81.2)]) (Opd.t rfl) rfl) rfl rfl rfl rfl <| WL_op (Run_extract (vs := [(.int .i64 r81.1), (.bool r81.2)]) (Opd.t rfl) rfl) rfl rfl rfl rfl <| WL_op (Run_assign (Opd.t rfl)) rfl rfl rfl rfl <| WL_op (Run_assign (Opd.t rfl)) rfl rfl rfl rfl <| ?_
          refine WL_nil ?_
          refine At_then ?_
          refine WC_seq_cut (γ := (List (Int × Int)) × SLV × List Nat) (fun ⟨next85, v86, R87⟩ w84 => dfa_work_put_K2 Wide Root Many r73 next85 = some r ∧ Sat (box b 56 [(.int .i64 Wide), (sl v75), (.int .i64 Root), (.int .i64 Many), (sl v77), (.map v9)] :: osl (RP (RSl (RP (RI .u8) (RI .i64))) (RI .i64)) 60 (sl v75) r73.2.1 R76 :: osl (RI .i64) 3 (sl v77) r73.2.2.1 R78 :: omap mk54 mv54 (.map v9) r73.2.2.2 :: osl (RP (RI .u8) (RI .i64)) 69 (sl v86) next85 R87 :: Φ) w84) (fun ⟨next85, v86, R87⟩ => [(0, true, (.pointer (some ⟨b, 0, none⟩))), (7, true, (sl v86))]) ?_ ?_
          ·
            rintro ⟨next85, v86, R87⟩ w84 ⟨hm, hs⟩
            unfold dfa_work_put_K2 at hm
            refine WC_seq ?_
            refine WC_region ?_
            refine WL_op (Run_move (Opd.t rfl)) rfl rfl rfl rfl <| WL_op (Run_move (Opd.t rfl)) rfl rfl rfl rfl <| ?_
            replace hs := hs.freeze (i := 4) rfl
            obtain ⟨r88, hr89, hm⟩ := bind_some' hm
            refine WL_call (f := 32) (first := []) (cap := []) (xs := [(.tmp 62), (.tmp 63)]) (vs := [(.pointer (some ⟨b, 0, none⟩)), (sl v86)]) (args := [(.pointer (some ⟨b, 0, none⟩)), (sl v86)]) Try.call32 Opd.f (.cons (Opd.t rfl) (.cons (Opd.t rfl) .nil)) rfl rfl (dfa_work_node_ok (hs.re 5 [0, 4, 1, 2, 3, 4] rfl) hr89) ?_
            rintro _ w94 ⟨v90, R91, v92, R93, rfl, hs⟩
            replace hs := Sat.n5 (Γ := Φ) hs rfl
            refine WL_op (Run_assign (Opd.t rfl)) rfl rfl rfl rfl <| ?_
            refine WL_nil ?_
            refine At_then ?_
            refine WC_ret ?_
            refine At_r1 rfl (ResIs.t rfl) ?_
            cases hm
            exact ⟨v90, R91, v92, R93, rfl, (hs.re 5 [0, 1, 2, 3] rfl)⟩
          ·
            refine WC_seq ?_
            refine WC_region ?_
            refine WL_op (Run_move (Opd.t rfl)) rfl rfl rfl rfl <| ?_
            refine WL_nil ?_
            refine At_then ?_
            refine WC_cond (Opd.t rfl) (fun hc95 => ?_) (fun hc95 => ?_)
            ·
              replace hm := bif_t hc95 hm
              refine WC_region ?_
              refine WL_op (Run_move (Opd.t rfl)) rfl rfl rfl rfl <| WL_op (Run_move (Opd.t rfl)) rfl rfl rfl rfl <| WL_op (Run_loadA (vs := [(.int .u8 e25), (.int .i64 r73.1)]) Try.underlying69 rfl ti69 (Opd.t rfl) (fun _ => (hs.box (i := 5) rfl).part 0 rfl) rfl) rfl rfl rfl rfl <| ?_
              obtain ⟨e96, he97, hm⟩ := bind_some' hm
              refine WL_op (Run_idxAddr (p := (elA (sl v21) r81.1 2)) Try.underlying58 ti69 (Opd.t rfl) (Opd.t rfl) (fun hg => (Own.atA (A := (RP (RI .u8) (RI .i64))) (v := (sl v21)) (hs.own (i := 0) rfl) he97).1)) rfl rfl rfl rfl <| ?_
              refine WS_storeElA (A := (RP (RI .u8) (RI .i64))) (us := [(.int .u8 e25), (.int .i64 r73.1)]) (u := (e25, r73.1)) hs 0 rfl ti69 (idx_inB he97 (by simp)) (Opd.t rfl) (Opd.t rfl) rfl rfl rfl rfl ⟨_, _, rfl, rfl, rfl⟩ ?_
              intro w98 hs
              replace hs := Sat.n8 (Γ := Φ) hs rfl
              refine WL_nil ?_
              exact At_join ((List.set next20 (Int.toNat r81.1) (e25, r73.1)), v21, R22) ⟨hm, (hs.re 8 [1, 2, 3, 4, 0] rfl)⟩ rfl
            ·
              replace hm := bif_f hc95 hm
              refine WC_region ?_
              refine WL_op (Run_move (Opd.t rfl)) rfl rfl rfl rfl <| WL_op (Run_move (Opd.t rfl)) rfl rfl rfl rfl <| WL_op (Run_loadA (vs := [(.int .u8 e25), (.int .i64 r73.1)]) Try.underlying69 rfl ti69 (Opd.t rfl) (fun _ => (hs.box (i := 5) rfl).part 0 rfl) rfl) rfl rfl rfl rfl <| ?_
              refine WS_lit (A := (RP (RI .u8) (RI .i64))) (xs := [(e25, r73.1)]) (zs := [(.int .u8 0), (.int .i64 0)]) (cells := [(.int .u8 e25), (.int .i64 r73.1)]) (parts := [(0, (.tmp 59))]) hs Try.underlying58 ti69 rfl rfl rfl (.cons (Opd.t rfl) .nil) (by kernel_rfl) rfl (ARd.cons (A := (RP (RI .u8) (RI .i64))) (c := [(.int .u8 e25), (.int .i64 r73.1)]) (x := (e25, r73.1)) ⟨_, _, rfl, rfl, rfl⟩ ARd.nil) rfl ?_
              intro b99 w100 hs
              replace hs := Sat.n9 (Γ := Φ) hs rfl
              obtain ⟨k101, hm⟩ := chk_some hm
              obtain ⟨k102, hm⟩ := chk_some hm
              refine WL_call (f := 37) (first := []) (cap := []) (xs := [(.tmp 57), (.tmp 58), (.tmp 60)]) (vs := [(sl v21), (.int .i64 r81.1), (sl (some ⟨b99, 0, none⟩, 1, 1))]) (args := [(sl v21), (.int .i64 r81.1), (sl (some ⟨b99, 0, none⟩, 1, 1))]) Try.call37 Opd.f (.cons (Opd.t rfl) (.cons (Opd.t rfl) (.cons (Opd.t rfl) .nil))) rfl rfl (insert37_ok (hs.re 9 [1, 0, 2, 3, 4, 5, 6, 7, 8] rfl) (List.cons_ne_nil _ _) k101 k102) ?_
              rintro _ w105 ⟨v103, R104, rfl, hs⟩
              replace hs := Sat.n9 (Γ := Φ) hs rfl
              refine WL_op (Run_assign (Opd.t rfl)) rfl rfl rfl rfl <| ?_
              refine WL_nil ?_
              exact At_join ((insL next20 r81.1 ([(e25, r73.1)] : List (Int × Int))), v103, R104) ⟨hm, (hs.re 9 [2, 3, 4, 5, 0] rfl)⟩ rfl
      ·
        refine WD_loud (pend' := [(11, fun w => true = true → CellsAt w (elA (sl v2) 0 1) [(.int .u8 e27)]), (7, fun w => CellsAt w ⟨b, 0, none⟩ [(.int .i64 Wide), (sl v4), (.int .i64 Root), (.int .i64 Many), (sl v6)]), (2, fun w => true = true → CellsAt w (elA (sl v2) 0 1) [(.int .u8 e25)])]) rfl (by kernel_rfl) ?_
        refine WS_alloc (zs := [(.int .u8 0), (.int .i64 0)]) hs ti69 rfl rfl ?_
        intro b106 w107 hs
        replace hs := Sat.n8 (Γ := Φ) hs rfl
        refine WL_nil ?_
        refine At_QK (allJ_cons (fun hg => (SRd.cellsF (A := (RI .u8)) (v := (sl v2)) (hs.sl (i := 6) rfl) he28 (fun _ h => openT5 h)).sub 0 rfl) (allJ_cons ((hs.box (i := 2) rfl).part 0 rfl) (allJ_cons (fun hg => (SRd.cellsF (A := (RI .u8)) (v := (sl v2)) (hs.sl (i := 6) rfl) he26 (fun _ h => openT5 h)).sub 0 rfl) allJ_nil))) ?_
        refine WD_loud (pend' := [(2, fun w => true = true → CellsAt w (elA (sl v2) 0 1) [(.int .u8 e25)])]) rfl (by kernel_rfl) ?_
        obtain ⟨r108, hr109, hm⟩ := bind_some' hm
        refine WL_call (f := 31) (first := []) (cap := []) (xs := [(.tmp 35), (.tmp 36), (.tmp 39)]) (vs := [(.agg #[(.int .i64 Wide), (sl v4), (.int .i64 Root), (.int .i64 Many), (sl v6)]), (.int .i64 at_), (.int .u8 e27)]) (args := [(.agg #[(.int .i64 Wide), (sl v4), (.int .i64 Root), (.int .i64 Many), (sl v6)]), (.int .i64 at_), (.int .u8 e27)]) Try.call31 Opd.f (.cons (Opd.t rfl) (.cons (Opd.t rfl) (.cons (Opd.t rfl) .nil))) rfl rfl (dfa_to_s3_ok (d := (Wide, Node, Root, Many, Free)) (hs.re 8 [3, 4, 0, 1, 2, 5, 6, 7] rfl) hr109) ?_
        rintro _ w110 ⟨rfl, hs⟩
        replace hs := Sat.n8 (Γ := Φ) hs rfl
        refine WL_nil ?_
        refine At_QK (allJ_cons (fun hg => (SRd.cellsF (A := (RI .u8)) (v := (sl v2)) (hs.sl (i := 6) rfl) he26 (fun _ h => openT5 h)).sub 0 rfl) allJ_nil) ?_
        refine WD_loud (pend' := [(2, fun w => true = true → CellsAt w (elA (sl v2) 0 1) [(.int .u8 e25)])]) rfl (by kernel_rfl) ?_
        obtain ⟨r111, hr112, hm⟩ := bind_some' hm
        refine WL_call (f := 25) (first := []) (cap := []) (xs := [(.tmp 31), (.tmp 40), (.tmp 42)]) (vs := [(.pointer (some ⟨b, 0, none⟩)), (.int .i64 r108), (sl v30)]) (args := [(.pointer (some ⟨b, 0, none⟩)), (.int .i64 r108), (sl v30)]) Try.call25 Opd.f (.cons (Opd.t rfl) (.cons (Opd.t rfl) (.cons (Opd.t rfl) .nil))) rfl rfl (ih_dfa_work_put (Node := (Wide, Node, Root, Many, Free).2.1) (hs.re 8 [4, 3, 0, 1, 5, 2, 3, 6, 7] rfl) hr112) ?_
        rintro _ w117 ⟨v113, R114, v115, R116, rfl, hs⟩
        replace hs := Sat.n8 (Γ := Φ) hs rfl
        refine WL_nil ?_
        refine At_QK (allJ_cons (fun hg => (SRd.cellsF (A := (RI .u8)) (v := (sl v2)) (hs.sl (i := 6) rfl) he26 (fun _ h => openT5 h)).sub 0 rfl) allJ_nil) ?_
        refine WD_pure (fun _ => (Run_build (parts := [(0, (.tmp 30)), (1, (.tmp 43))]) (v := (.agg #[(.int .u8 e25), (.int .i64 r111.1)])) (.cons (Opd.t rfl) (.cons (Opd.t rfl) .nil)) (fun _ => by kernel_rfl))) rfl rfl rfl rfl <| ?_
        refine WD_loud (pend' := []) rfl (by kernel_rfl) ?_
        refine WS_store (us := [(.int .u8 e25), (.int .i64 r111.1)]) (vs' := [(.int .u8 e25), (.int .i64 r111.1)]) hs 4 rfl ti69 (Opd.t rfl) (Opd.t rfl) rfl rfl rfl rfl rfl ?_
        intro w118 hs
        replace hs := Sat.n8 (Γ := Φ) hs rfl
        refine WL_nil ?_
        refine At_QK allJ_nil ?_
        refine WD_nil ?_
        refine At_then ?_
        refine WC_seq ?_
        refine WC_region ?_
        refine WL_op (Run_move (Opd.t rfl)) rfl rfl rfl rfl <| WL_op (Run_fieldAddr fo69_0 (Opd.t rfl)) rfl rfl rfl rfl <| WL_op (Run_load1 (v := (.int .u8 e25)) Try.underlying5 rfl (Opd.t rfl) (fun _ => (hs.box (i := 4) rfl).part 0 rfl)) rfl rfl rfl rfl <| ?_
        obtain ⟨r119, hr120, hm⟩ := bind_some' hm
        refine WL_call (f := 34) (first := []) (cap := []) (xs := [(.tmp 46), (.tmp 48), (.func 35)]) (vs := [(sl v21), (.int .u8 e25), (.func (.func 35) #[] #[])]) (args := [(sl v21), (.int .u8 e25), (.func (.func 35) #[] #[])]) Try.call34 Opd.f (.cons (Opd.t rfl) (.cons (Opd.t rfl) (.cons Opd.f .nil))) rfl rfl (slices_BinarySearchFunc_api_Edge_api_Edge_byte_s3_ok (hs.re 8 [7, 0, 1, 2, 3, 4, 5, 6] rfl) hr120) ?_
        rintro _ w121 ⟨rfl, hs⟩
        replace hs := Sat.n8 (Γ := Φ) hs rfl
        refine WL_op (Run_move (Opd.t rfl)) rfl rfl rfl rfl <| WL_op (Run_extract (vs := [(.int .i64 r119.1), (.bool r119.2)]) (Opd.t rfl) rfl) rfl rfl rfl rfl <| WL_op (Run_extract (vs := [(.int .i64 r119.1), (.bool r119.2)]) (Opd.t rfl) rfl) rfl rfl rfl rfl <| WL_op (Run_assign (Opd.t rfl)) rfl rfl rfl rfl <| WL_op (Run_assign (Opd.t rfl)) rfl rfl rfl rfl <| ?_
        refine WL_nil ?_
        refine At_then ?_
        refine WC_seq_cut (γ := (List (Int × Int)) × SLV × List Nat) (fun ⟨next123, v124, R125⟩ w122 => dfa_work_put_K2 Wide Root Many r111 next123 = some r ∧ Sat (box b 56 [(.int .i64 Wide), (sl v113), (.int .i64 Root), (.int .i64 Many), (sl v115), (.map v9)] :: osl (RP (RSl (RP (RI .u8) (RI .i64))) (RI .i64)) 60 (sl v113) r111.2.1 R114 :: osl (RI .i64) 3 (sl v115) r111.2.2.1 R116 :: omap mk54 mv54 (.map v9) r111.2.2.2 :: osl (RP (RI .u8) (RI .i64)) 69 (sl v124) next123 R125 :: Φ) w122) (fun ⟨next123, v124, R125⟩ => [(0, true, (.pointer (some ⟨b, 0, none⟩))), (7, true, (sl v124))]) ?_ ?_
        ·
          rintro ⟨next123, v124, R125⟩ w122 ⟨hm, hs⟩
          unfold dfa_work_put_K2 at hm
          refine WC_seq ?_
          refine WC_region ?_
          refine WL_op (Run_move (Opd.t rfl)) rfl rfl rfl rfl <| WL_op (Run_move (Opd.t rfl)) rfl rfl rfl rfl <| ?_
          replace hs := hs.freeze (i := 4) rfl
          obtain ⟨r126, hr127, hm⟩ := bind_some' hm
          refine WL_call (f := 32) (first := []) (cap := []) (xs := [(.tmp 62), (.tmp 63)]) (vs := [(.pointer (some ⟨b, 0, none⟩)), (sl v124)]) (args := [(.pointer (some ⟨b, 0, none⟩)), (sl v124)]) Try.call32 Opd.f (.cons (Opd.t rfl) (.cons (Opd.t rfl) .nil)) rfl rfl (dfa_work_node_ok (hs.re 5 [0, 4, 1, 2, 3, 4] rfl) hr127) ?_
          rintro _ w132 ⟨v128, R129, v130, R131, rfl, hs⟩
          replace hs := Sat.n5 (Γ := Φ) hs rfl
          refine WL_op (Run_assign (Opd.t rfl)) rfl rfl rfl rfl <| ?_
          refine WL_nil ?_
          refine At_then ?_
          refine WC_ret ?_
          refine At_r1 rfl (ResIs.t rfl) ?_
          cases hm
          exact ⟨v128, R129, v130, R131, rfl, (hs.re 5 [0, 1, 2, 3] rfl)⟩
        ·
          refine WC_seq ?_
          refine WC_region ?_
          refine WL_op (Run_move (Opd.t rfl)) rfl rfl rfl rfl <| ?_
          refine WL_nil ?_
          refine At_then ?_
          refine WC_cond (Opd.t rfl) (fun hc133 => ?_) (fun hc133 => ?_)
          ·
            replace hm := bif_t hc133 hm
            refine WC_region ?_
            refine WL_op (Run_move (Opd.t rfl)) rfl rfl rfl rfl <| WL_op (Run_move (Opd.t rfl)) rfl rfl rfl rfl <| WL_op (Run_loadA (vs := [(.int .u8 e25), (.int .i64 r111.1)]) Try.underlying69 rfl ti69 (Opd.t rfl) (fun _ => (hs.box (i := 5) rfl).part 0 rfl) rfl) rfl rfl rfl rfl <| ?_
            obtain ⟨e134, he135, hm⟩ := bind_some' hm
            refine WL_op (Run_idxAddr (p := (elA (sl v21) r119.1 2)) Try.underlying58 ti69 (Opd.t rfl) (Opd.t rfl) (fun hg => (Own.atA (A := (RP (RI .u8) (RI .i64))) (v := (sl v21)) (hs.own (i := 0) rfl) he135).1)) rfl rfl rfl rfl <| ?_
            refine WS_storeElA (A := (RP (RI .u8) (RI .i64))) (us := [(.int .u8 e25), (.int .i64 r111.1)]) (u := (e25, r111.1)) hs 0 rfl ti69 (idx_inB he135 (by simp)) (Opd.t rfl) (Opd.t rfl) rfl rfl rfl rfl ⟨_, _, rfl, rfl, rfl⟩ ?_
            intro w136 hs
            replace hs := Sat.n8 (Γ := Φ) hs rfl
            refine WL_nil ?_
            exact At_join ((List.set next20 (Int.toNat r119.1) (e25, r111.1)), v21, R22) ⟨hm, (hs.re 8 [1, 2, 3, 4, 0] rfl)⟩ rfl
          ·
            replace hm := bif_f hc133 hm
            refine WC_region ?_
            refine WL_op (Run_move (Opd.t rfl)) rfl rfl rfl rfl <| WL_op (Run_move (Opd.t rfl)) rfl rfl rfl rfl <| WL_op (Run_loadA (vs := [(.int .u8 e25), (.int .i64 r111.1)]) Try.underlying69 rfl ti69 (Opd.t rfl) (fun _ => (hs.box (i := 5) rfl).part 0 rfl) rfl) rfl rfl rfl rfl <| ?_
            refine WS_lit (A := (RP (RI .u8) (RI .i64))) (xs := [(e25, r111.1)]) (zs := [(.int .u8 0), (.int .i64 0)]) (cells := [(.int .u8 e25), (.int .i64 r111.1)]) (parts := [(0, (.tmp 59))]) hs Try.underlying58 ti69 rfl rfl rfl (.cons (Opd.t rfl) .nil) (by kernel_rfl) rfl (ARd.cons (A := (RP (RI .u8) (RI .i64))) (c := [(.int .u8 e25), (.int .i64 r111.1)]) (x := (e25, r111.1)) ⟨_, _, rfl, rfl, rfl⟩ ARd.nil) rfl ?_
            intro b137 w138 hs
            replace hs := Sat.n9 (Γ := Φ) hs rfl
            obtain ⟨k139, hm⟩ := chk_some hm
            obtain ⟨k140, hm⟩ := chk_some hm
            refine WL_call (f := 37) (first := []) (cap := []) (xs := [(.tmp 57), (.tmp 58), (.tmp 60)]) (vs := [(sl v21), (.int .i64 r119.1), (sl (some ⟨b137, 0, none⟩, 1, 1))]) (args := [(sl v21), (.int .i64 r119.1), (sl (some ⟨b137, 0, none⟩, 1, 1))]) Try.call37 Opd.f (.cons (Opd.t rfl) (.cons (Opd.t rfl) (.cons (Opd.t rfl) .nil))) rfl rfl (insert37_ok (hs.re 9 [1, 0, 2, 3, 4, 5, 6, 7, 8] rfl) (List.cons_ne_nil _ _) k139 k140) ?_
            rintro _ w143 ⟨v141, R142, rfl, hs⟩
            replace hs := Sat.n9 (Γ := Φ) hs rfl
            refine WL_op (Run_assign (Opd.t rfl)) rfl rfl rfl rfl <| ?_
            refine WL_nil ?_
            exact At_join ((insL next20 r119.1 ([(e25, r111.1)] : List (Int × Int))), v141, R142) ⟨hm, (hs.re 9 [2, 3, 4, 5, 0] rfl)⟩ rfl
    ·
      refine WC_seq ?_
      refine WC_region ?_
      refine WL_op (Run_move (Opd.t rfl)) rfl rfl rfl rfl <| WL_op (Run_neI (Opd.t rfl) Opd.c) rfl rfl rfl rfl <| ?_
      refine WL_nil ?_
      refine At_then ?_
      refine WC_cond (Opd.t rfl) (fun hc144 => ?_) (fun hc144 => ?_)
      ·
        replace hm := bif_t hc144 hm
        refine WC_region ?_
        refine WL_op (Run_move (Opd.t rfl)) rfl rfl rfl rfl <| WL_op (Run_nilP (Opd.t rfl)) rfl rfl rfl rfl <| WL_op (Run_fieldAddr fo56_0 (Opd.t rfl)) rfl rfl rfl rfl <| WL_op (Run_fieldAddr fo29_1 (Opd.t rfl)) rfl rfl rfl rfl <| WL_op (Run_load1 (v := (sl v4)) Try.underlying26 rfl (Opd.t rfl) (fun _ => (hs.box (i := 0) rfl).part 1 rfl)) rfl rfl rfl rfl <| WL_op (Run_move (Opd.t rfl)) rfl rfl rfl rfl <| ?_
        obtain ⟨e145, he146, hm⟩ := bind_some' hm
        obtain ⟨v147, hC148, hN149, hR150⟩ := cellsMO60 (g := true) (fun hg => (hs.own (i := 2) rfl)) (fun hg => he146)
        replace hs := hs.addL [imm (RSl (RP (RI .u8) (RI .i64))) [sl v147] e145.1] rfl ⟨⟨_, rfl, hR150 rfl⟩, trivial⟩
        replace hs := Sat.n6 (Γ := Φ) hs rfl
        refine WL_op (Run_idxAddr (p := (elA (sl v4) at_ 2)) Try.underlying26 ti60 (Opd.t rfl) (Opd.t rfl) (fun hg => (Own.atA (A := (RP (RSl (RP (RI .u8) (RI .i64))) (RI .i64))) (v := (sl v4)) (hs.own (i := 3) rfl) he146).1)) rfl rfl rfl rfl <| WL_op (Run_fieldAddr fo60_0 (Opd.t rfl)) rfl rfl rfl rfl <| WL_op (Run_load1 (v := (sl v147)) Try.underlying58 rfl (Opd.t rfl) (fun hg => ((hC148 hg).sub (us := [(sl v147)]) 0 rfl).sub 0 rfl)) rfl rfl rfl rfl <| ?_
        obtain ⟨r151, hr152, hm⟩ := bind_some' hm
        refine WL_call (f := 33) (first := []) (cap := []) (xs := [(.tmp 26)]) (vs := [(sl v147)]) (args := [(sl v147)]) Try.call33 Opd.f (.cons (Opd.t rfl) .nil) rfl rfl (slices_Clone_api_Edge_api_Edge_ok (hs.re 6 [0, 0, 1, 2, 3, 4, 5] rfl) hr152) ?_
        rintro _ w155 ⟨v153, R154, rfl, hs⟩
        replace hs := Sat.n7 (Γ := Φ) hs rfl
        refine WL_op (Run_assign (Opd.t rfl)) rfl rfl rfl rfl <| ?_
        refine WL_nil ?_
        exact At_join (r151, v153, R154) ⟨hm, (hs.re 7 [2, 4, 5, 6, 3, 0] rfl)⟩ rfl
      ·
        replace hm := bif_f hc144 hm
        refine WC_skip ?_
        replace hs := hs.addNil (RP (RI .u8) (RI .i64)) 69
        exact At_join ([], (none, 0, 0), []) ⟨hm, (hs.re 6 [1, 3, 4, 5, 2, 0] rfl)⟩ rfl

set_option maxRecDepth 100000 in
set_option maxHeartbeats 4000000 in
theorem dfa_work_put_ok {Φ : Ctx} {w : World} {at_ : Int} {word : (List Int)} {Wide : Int} {Node : (List ((List (Int × Int)) × Int))} {Root : Int} {Many : Int} {Free : (List Int)} {young : (Option (List (Int × Bool)))} {b : Nat} {v2 : SLV} {v4 : SLV} {R : List Nat} {v6 : SLV} {R7 : List Nat} {v9 : Option Nat} {r : (Int × (List ((List (Int × Int)) × Int)) × (List Int) × (Option (List (Int × Bool))))} (hs : Sat (box b 56 [(.int .i64 Wide), (sl v4), (.int .i64 Root), (.int .i64 Many), (sl v6), (.map v9)] :: imm (RSl (RI .u8)) [sl v2] word :: osl (RP (RSl (RP (RI .u8) (RI .i64))) (RI .i64)) 60 (sl v4) Node R :: osl (RI .i64) 3 (sl v6) Free R7 :: omap mk54 mv54 (.map v9) young :: Φ) w) (hm : dfa_work_put at_ word Wide Node Root Many Free young = some r) :
    CallsR Try.prog 25 [(.pointer (some ⟨b, 0, none⟩)), (.int .i64 at_), (sl v2)] w (fun v w' => ∃ v5 : SLV, ∃ R6 : List Nat, ∃ v8 : SLV, ∃ R9 : List Nat, v = (.int .i64 r.1) ∧ Sat (box b 56 [(.int .i64 Wide), (sl v5), (.int .i64 Root), (.int .i64 Many), (sl v8), (.map v9)] :: osl (RP (RSl (RP (RI .u8) (RI .i64))) (RI .i64)) 60 (sl v5) r.2.1 R6 :: osl (RI .i64) 3 (sl v8) r.2.2.1 R9 :: omap mk54 mv54 (.map v9) r.2.2.2 :: Φ) w') := by
  have key : ∀ (N : Nat) {Φ : Ctx} {w : World} {at_ : Int} {word : (List Int)} {Wide : Int} {Node : (List ((List (Int × Int)) × Int))} {Root : Int} {Many : Int} {Free : (List Int)} {young : (Option (List (Int × Bool)))} {b : Nat} {v2 : SLV} {v4 : SLV} {R : List Nat} {v6 : SLV} {R7 : List Nat} {v9 : Option Nat} {r : (Int × (List ((List (Int × Int)) × Int)) × (List Int) × (Option (List (Int × Bool))))}, Sat (box b 56 [(.int .i64 Wide), (sl v4), (.int .i64 Root), (.int .i64 Many), (sl v6), (.map v9)] :: imm (RSl (RI .u8)) [sl v2] word :: osl (RP (RSl (RP (RI .u8) (RI .i64))) (RI .i64)) 60 (sl v4) Node R :: osl (RI .i64) 3 (sl v6) Free R7 :: omap mk54 mv54 (.map v9) young :: Φ) w → fixN (fun k (s : (Int × (List Int) × Int × (List ((List (Int × Int)) × Int)) × Int × Int × (List Int) × (Option (List (Int × Bool))))) => dfa_work_put_F k s.1 s.2.1 s.2.2.1 s.2.2.2.1 s.2.2.2.2.1 s.2.2.2.2.2.1 s.2.2.2.2.2.2.1 s.2.2.2.2.2.2.2) N (at_, word, Wide, Node, Root, Many, Free, young) = some r → CallsR Try.prog 25 [(.pointer (some ⟨b, 0, none⟩)), (.int .i64 at_), (sl v2)] w (fun v w' => ∃ v5 : SLV, ∃ R6 : List Nat, ∃ v8 : SLV, ∃ R9 : List Nat, v = (.int .i64 r.1) ∧ Sat (box b 56 [(.int .i64 Wide), (sl v5), (.int .i64 Root), (.int .i64 Many), (sl v8), (.map v9)] :: osl (RP (RSl (RP (RI .u8) (RI .i64))) (RI .i64)) 60 (sl v5) r.2.1 R6 :: osl (RI .i64) 3 (sl v8) r.2.2.1 R9 :: omap mk54 mv54 (.map v9) r.2.2.2 :: Φ) w') := by
    intro N
    induction N with
    | zero => intros; rename_i h; cases h
    | succ N ih => intros; rename_i hs hm; rw [fixN_succ] at hm; exact dfa_work_put_F_ok (@ih) hs hm
  unfold dfa_work_put at hm
  exact key FUEL hs hm

end Go.Proofs.Ytjappdgehmjomaa
