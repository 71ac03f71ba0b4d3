/- Printed by a program: the walks. -/
import Derived.Test.YtjappdgehmjomaaTypes
import Derived.Test.YtjappdgehmjomaaWalk2
import Derived.Test.YtjappdgehmjomaaWalk3
import Derived.Test.YtjappdgehmjomaaWalk4
namespace Go.Proofs.Ytjappdgehmjomaa
open Go.Proofs

set_option maxRecDepth 100000 in
set_option maxHeartbeats 4000000 in
theorem container_heap_Pop_ok {Φ : Ctx} {w : World} {h : (List Int)} {b : Nat} {v2 : SLV} {R : List Nat} {r : (Int × (List Int))} (hs : Sat (box b 78 [(sl v2)] :: osl (RI .i64) 3 (sl v2) h R :: Φ) w) (hm : container_heap_Pop h = some r) :
    CallsR Try.prog 47 [(.iface 80 (.pointer (some ⟨b, 0, none⟩)))] w (fun v w' => ∃ v18 : SLV, ∃ R19 : List Nat, v = (.iface 3 (.int .i64 r.1)) ∧ Sat (box b 78 [(sl v18)] :: osl (RI .i64) 3 (sl v18) r.2 R19 :: Φ) w') := by
  refine CallsX_enter Try.func47 rfl Try.ntmps47 rfl ?_
  unfold container_heap_Pop at hm
  refine WC_seq ?_
  refine WC_region ?_
  refine WL_op (Run_assign Opd.c) rfl rfl rfl rfl <| ?_
  refine WL_nil ?_
  refine At_then ?_
  refine WC_seq ?_
  refine WC_region ?_
  refine WL_op (Run_move (Opd.t rfl)) rfl rfl rfl rfl <| ?_
  obtain ⟨r1, hr2, hm⟩ := bind_some' hm
  refine WL_inv (f := 67) (t := 80) (u := (.pointer (some ⟨b, 0, none⟩))) (u' := (sl v2)) (name := "Len") (xs := []) (vs := []) (args := [(sl v2)]) Try.call67 (Opd.t rfl) (Reach.load me80_Len Try.underlying80 (run_load1 (v := (sl v2)) Try.underlying78 rfl (CellsAt.cell0 ((hs.box (i := 0) rfl).part (us := [(sl v2)]) 0 rfl) rfl))) .nil rfl rfl (dfa_numbers_Len_s2_ok (hs.re 2 [1, 0] rfl) hr2) ?_
  rintro _ w3 ⟨rfl, hs⟩
  replace hs := Sat.n2 (Γ := Φ) hs rfl
  refine WL_op (Run_sub (Opd.t rfl) Opd.c) rfl rfl rfl rfl <| WL_op (Run_assign (Opd.t rfl)) rfl rfl rfl rfl <| ?_
  refine WL_nil ?_
  refine At_then ?_
  refine WC_seq ?_
  refine WC_region ?_
  refine WL_op (Run_move (Opd.t rfl)) rfl rfl rfl rfl <| WL_op (Run_move (Opd.t rfl)) rfl rfl rfl rfl <| ?_
  obtain ⟨r4, hr5, hm⟩ := bind_some' hm
  refine WL_inv (f := 69) (t := 80) (u := (.pointer (some ⟨b, 0, none⟩))) (u' := (sl v2)) (name := "Swap") (xs := [(.const (.int .i64 0)), (.tmp 8)]) (vs := [(.int .i64 0), (.int .i64 (IntKind.i64.wrap (r1 - 1)))]) (args := [(sl v2), (.int .i64 0), (.int .i64 (IntKind.i64.wrap (r1 - 1)))]) Try.call69 (Opd.t rfl) (Reach.load me80_Swap Try.underlying80 (run_load1 (v := (sl v2)) Try.underlying78 rfl (CellsAt.cell0 ((hs.box (i := 1) rfl).part (us := [(sl v2)]) 0 rfl) rfl))) (.cons Opd.c (.cons (Opd.t rfl) .nil)) rfl rfl (dfa_numbers_Swap_s2_ok (hs.re 2 [0, 1] rfl) hr5) ?_
  rintro _ w6 ⟨rfl, hs⟩
  replace hs := Sat.n2 (Γ := Φ) hs rfl
  refine WL_nil ?_
  refine At_then ?_
  refine WC_seq ?_
  refine WC_region ?_
  refine WL_op (Run_move (Opd.t rfl)) rfl rfl rfl rfl <| WL_op (Run_move (Opd.t rfl)) rfl rfl rfl rfl <| ?_
  obtain ⟨r7, hr8, hm⟩ := bind_some' hm
  refine WL_call (f := 49) (first := []) (cap := []) (xs := [(.tmp 10), (.const (.int .i64 0)), (.tmp 11)]) (vs := [(.iface 80 (.pointer (some ⟨b, 0, none⟩))), (.int .i64 0), (.int .i64 (IntKind.i64.wrap (r1 - 1)))]) (args := [(.iface 80 (.pointer (some ⟨b, 0, none⟩))), (.int .i64 0), (.int .i64 (IntKind.i64.wrap (r1 - 1)))]) Try.call49 Opd.f (.cons (Opd.t rfl) (.cons Opd.c (.cons (Opd.t rfl) .nil))) rfl rfl (container_heap_down_ok (hs.re 2 [1, 0] rfl) hr8) ?_
  rintro _ w9 ⟨rfl, hs⟩
  replace hs := Sat.n2 (Γ := Φ) hs rfl
  refine WL_nil ?_
  refine At_then ?_
  refine WC_seq ?_
  refine WC_region ?_
  refine WL_op (Run_move (Opd.t rfl)) rfl rfl rfl rfl <| ?_
  obtain ⟨r10, hr11, hm⟩ := bind_some' hm
  refine WL_inv (f := 70) (t := 80) (u := (.pointer (some ⟨b, 0, none⟩))) (u' := (.pointer (some ⟨b, 0, none⟩))) (name := "Pop") (xs := []) (vs := []) (args := [(.pointer (some ⟨b, 0, none⟩))]) Try.call70 (Opd.t rfl) (Reach.ptr me80_Pop Try.underlying80) .nil rfl rfl (dfa_numbers_Pop_ok (hs.re 2 [0, 1] rfl) hr11) ?_
  rintro _ w14 ⟨v12, R13, rfl, hs⟩
  replace hs := Sat.n2 (Γ := Φ) hs rfl
  refine WL_op (Run_assign (Opd.t rfl)) rfl rfl rfl rfl <| ?_
  refine WL_nil ?_
  refine At_then ?_
  refine WC_ret ?_
  refine At_r1 rfl (ResIs.t rfl) ?_
  cases hm
  exact ⟨v12, R13, rfl, (hs.re 2 [0, 1] rfl)⟩

set_option maxRecDepth 100000 in
set_option maxHeartbeats 4000000 in
theorem dfa_work_fresh_ok {Φ : Ctx} {w : World} {Wide : Int} {Node : (List ((List (Int × Int)) × Int))} {Root : Int} {Many : Int} {Free : (List Int)} {young : (Option (List (Int × Bool)))} {b : Nat} {v2 : SLV} {R : List Nat} {v4 : SLV} {R5 : List Nat} {v7 : Option Nat} {r : (Int × (List ((List (Int × Int)) × Int)) × (List Int))} (hs : Sat (box b 56 [(.int .i64 Wide), (sl v2), (.int .i64 Root), (.int .i64 Many), (sl v4), (.map v7)] :: osl (RP (RSl (RP (RI .u8) (RI .i64))) (RI .i64)) 60 (sl v2) Node R :: osl (RI .i64) 3 (sl v4) Free R5 :: omap mk54 mv54 (.map v7) young :: Φ) w) (hm : dfa_work_fresh Wide Node Root Many Free young = some r) :
    CallsR Try.prog 41 [(.pointer (some ⟨b, 0, none⟩))] w (fun v w' => ∃ v5 : SLV, ∃ R6 : List Nat, ∃ v8 : SLV, ∃ R9 : List Nat, v = (.int .i64 r.1) ∧ Sat (box b 56 [(.int .i64 Wide), (sl v5), (.int .i64 Root), (.int .i64 Many), (sl v8), (.map v7)] :: osl (RP (RSl (RP (RI .u8) (RI .i64))) (RI .i64)) 60 (sl v5) r.2.1 R6 :: osl (RI .i64) 3 (sl v8) r.2.2 R9 :: omap mk54 mv54 (.map v7) young :: Φ) w') := by
  refine CallsX_enter Try.func41 rfl Try.ntmps41 rfl ?_
  unfold dfa_work_fresh at hm
  refine WC_seq ?_
  refine WC_region ?_
  refine WL_op (Run_assign Opd.c) rfl rfl rfl rfl <| ?_
  refine WL_nil ?_
  refine At_then ?_
  refine WC_seq ?_
  refine WC_seq ?_
  refine WC_region ?_
  refine WL_op (Run_move (Opd.t rfl)) rfl rfl rfl rfl <| WL_op (Run_nilP (Opd.t rfl)) rfl rfl rfl rfl <| WL_op (Run_fieldAddr fo56_0 (Opd.t rfl)) rfl rfl rfl rfl <| WL_op (Run_fieldAddr fo29_4 (Opd.t rfl)) rfl rfl rfl rfl <| WL_op (Run_load1 (v := (sl v4)) Try.underlying27 rfl (Opd.t rfl) (fun _ => (hs.box (i := 0) rfl).part 4 rfl)) rfl rfl rfl rfl <| WL_op (Run_lenSlG Try.underlying27 (Opd.t rfl) (fun _ => (hs.own (i := 2) rfl).len)) rfl rfl rfl rfl <| WL_op (Run_eqI (Opd.t rfl) Opd.c) rfl rfl rfl rfl <| ?_
  refine WL_nil ?_
  refine At_then ?_
  refine WC_cond (Opd.t rfl) (fun hc10 => ?_) (fun hc10 => ?_)
  ·
    replace hm := bif_t hc10 hm
    refine WC_seq ?_
    refine WC_region ?_
    refine WL_op (Run_move (Opd.t rfl)) rfl rfl rfl rfl <| WL_op (Run_move (Opd.t rfl)) rfl rfl rfl rfl <| WL_op (Run_nilP (Opd.t rfl)) rfl rfl rfl rfl <| WL_op (Run_fieldAddr fo56_0 (Opd.t rfl)) rfl rfl rfl rfl <| WL_op (Run_fieldAddr fo29_1 (Opd.t rfl)) rfl rfl rfl rfl <| WL_op (Run_load1 (v := (sl v2)) Try.underlying26 rfl (Opd.t rfl) (fun _ => (hs.box (i := 0) rfl).part 1 rfl)) rfl rfl rfl rfl <| WL_op (Run_build (parts := []) (v := (.agg #[(sl (none, 0, 0)), (.int .i64 0)])) .nil (fun _ => by kernel_rfl)) rfl rfl rfl rfl <| ?_
    refine WS_lit (A := (RP (RSl (RP (RI .u8) (RI .i64))) (RI .i64))) (xs := [([], 0)]) (zs := [(sl (none, 0, 0)), (.int .i64 0)]) (cells := [(sl (none, 0, 0)), (.int .i64 0)]) (parts := [(0, (.tmp 18))]) hs Try.underlying26 ti60 rfl rfl rfl (.cons (Opd.t rfl) .nil) (by kernel_rfl) rfl (ARd.cons (A := (RP (RSl (RP (RI .u8) (RI .i64))) (RI .i64))) (c := [(sl (none, 0, 0)), (.int .i64 0)]) (x := ([], 0)) ⟨_, _, rfl, ⟨_, rfl, SRd.nil⟩, rfl⟩ ARd.nil) rfl ?_
    intro b11 w12 hs
    replace hs := Sat.n5 (Γ := Φ) hs rfl
    replace hs := hs.freeze (i := 0) rfl
    obtain ⟨k13, hm⟩ := chk_some hm
    refine WS_append (A := (RP (RSl (RP (RI .u8) (RI .i64))) (RI .i64))) hs 2 rfl Try.underlying26 ti60 rfl rfl (Opd.t rfl) (Opd.t rfl) (hs.sl (i := 0) rfl) k13 rfl ?_
    intro v14 R15 w16 hs
    replace hs := Sat.n5 (Γ := Φ) hs rfl
    refine WL_op (Run_nilP (Opd.t rfl)) rfl rfl rfl rfl <| WL_op (Run_fieldAddr fo56_0 (Opd.t rfl)) rfl rfl rfl rfl <| WL_op (Run_fieldAddr fo29_1 (Opd.t rfl)) rfl rfl rfl rfl <| ?_
    refine WS_store (us := [(sl v14)]) (vs' := [(.int .i64 Wide), (sl v14), (.int .i64 Root), (.int .i64 Many), (sl v4), (.map v7)]) hs 1 rfl ti26 (Opd.t rfl) (Opd.t rfl) rfl rfl rfl rfl rfl ?_
    intro w17 hs
    replace hs := Sat.n5 (Γ := Φ) hs rfl
    refine WL_nil ?_
    refine At_then ?_
    refine WC_seq ?_
    refine WC_region ?_
    refine WL_op (Run_move (Opd.t rfl)) rfl rfl rfl rfl <| WL_op (Run_nilP (Opd.t rfl)) rfl rfl rfl rfl <| WL_op (Run_fieldAddr fo56_0 (Opd.t rfl)) rfl rfl rfl rfl <| WL_op (Run_fieldAddr fo29_1 (Opd.t rfl)) rfl rfl rfl rfl <| WL_op (Run_load1 (v := (sl v14)) Try.underlying26 rfl (Opd.t rfl) (fun _ => (hs.box (i := 1) rfl).part 1 rfl)) rfl rfl rfl rfl <| WL_op (Run_lenSlG Try.underlying26 (Opd.t rfl) (fun _ => (hs.own (i := 2) rfl).len)) rfl rfl rfl rfl <| WL_op (Run_sub (Opd.t rfl) Opd.c) rfl rfl rfl rfl <| WL_op (Run_assign (Opd.t rfl)) rfl rfl rfl rfl <| ?_
    refine WL_nil ?_
    refine At_then ?_
    refine WC_ret ?_
    refine At_then_ret <| ?_
    refine At_r1 rfl (ResIs.t rfl) ?_
    cases hm
    exact ⟨v14, R15, v4, R5, rfl, (hs.re 5 [1, 2, 3, 4] rfl)⟩
  ·
    replace hm := bif_f hc10 hm
    refine WC_skip ?_
    refine At_then ?_
    refine WC_seq ?_
    refine WC_region ?_
    refine WL_op (Run_move (Opd.t rfl)) rfl rfl rfl rfl <| WL_op (Run_nilP (Opd.t rfl)) rfl rfl rfl rfl <| WL_op (Run_fieldAddr fo56_0 (Opd.t rfl)) rfl rfl rfl rfl <| WL_op (Run_fieldAddr fo29_4 (Opd.t rfl)) rfl rfl rfl rfl <| WL_op (Run_load1 (v := (sl v4)) Try.underlying27 rfl (Opd.t rfl) (fun _ => (hs.box (i := 0) rfl).part 4 rfl)) rfl rfl rfl rfl <| ?_
    refine WS_alloc (zs := [(sl (none, 0, 0))]) hs ti78 rfl rfl ?_
    intro b18 w19 hs
    replace hs := Sat.n5 (Γ := Φ) hs rfl
    refine WS_store (us := [(sl v4)]) (vs' := [(sl v4)]) hs 0 rfl ti78 (Opd.t rfl) (Opd.t rfl) rfl rfl rfl rfl rfl ?_
    intro w20 hs
    replace hs := Sat.n5 (Γ := Φ) hs rfl
    refine WL_nil ?_
    refine At_then ?_
    refine WC_seq ?_
    refine WC_region ?_
    refine WL_op (Run_mkIface Try.underlying80 rfl (Opd.t rfl)) rfl rfl rfl rfl <| ?_
    obtain ⟨r21, hr22, hm⟩ := bind_some' hm
    refine WL_call (f := 47) (first := []) (cap := []) (xs := [(.tmp 36)]) (vs := [(.iface 80 (.pointer (some ⟨b18, 0, none⟩)))]) (args := [(.iface 80 (.pointer (some ⟨b18, 0, none⟩)))]) Try.call47 Opd.f (.cons (Opd.t rfl) .nil) rfl rfl (container_heap_Pop_ok (hs.re 5 [0, 3, 1, 2, 4] rfl) hr22) ?_
    rintro _ w25 ⟨v23, R24, rfl, hs⟩
    replace hs := Sat.n5 (Γ := Φ) hs rfl
    refine WL_op (Run_tassert Try.underlying3 rfl (Opd.t rfl)) rfl rfl rfl rfl <| WL_op (Run_assign (Opd.t rfl)) rfl rfl rfl rfl <| ?_
    refine WL_nil ?_
    refine At_then ?_
    refine WC_seq ?_
    refine WC_region ?_
    refine WL_op (Run_move (Opd.t rfl)) rfl rfl rfl rfl <| WL_op (Run_load1 (v := (sl v23)) Try.underlying78 rfl (Opd.t rfl) (fun _ => (hs.box (i := 0) rfl).part 0 rfl)) rfl rfl rfl rfl <| WL_op (Run_nilP (Opd.t rfl)) rfl rfl rfl rfl <| WL_op (Run_fieldAddr fo56_0 (Opd.t rfl)) rfl rfl rfl rfl <| WL_op (Run_fieldAddr fo29_4 (Opd.t rfl)) rfl rfl rfl rfl <| ?_
    refine WS_store (us := [(sl v23)]) (vs' := [(.int .i64 Wide), (sl v2), (.int .i64 Root), (.int .i64 Many), (sl v23), (.map v7)]) hs 2 rfl ti27 (Opd.t rfl) (Opd.t rfl) rfl rfl rfl rfl rfl ?_
    intro w26 hs
    replace hs := Sat.n5 (Γ := Φ) hs rfl
    refine WL_nil ?_
    refine At_then ?_
    refine WC_seq ?_
    refine WC_region ?_
    refine WL_op (Run_move (Opd.t rfl)) rfl rfl rfl rfl <| WL_op (Run_assign (Opd.t rfl)) rfl rfl rfl rfl <| ?_
    refine WL_nil ?_
    refine At_then ?_
    refine WC_ret ?_
    refine At_r1 rfl (ResIs.t rfl) ?_
    cases hm
    exact ⟨v2, R, v23, R24, rfl, (hs.re 5 [2, 3, 1, 4] rfl)⟩

set_option maxRecDepth 100000 in
set_option maxHeartbeats 4000000 in
theorem dfa_work_node_ok {Φ : Ctx} {w : World} {next_ : (List (Int × Int))} {Wide : Int} {Node : (List ((List (Int × Int)) × Int))} {Root : Int} {Many : Int} {Free : (List Int)} {young : (Option (List (Int × Bool)))} {b : Nat} {v2 : SLV} {v4 : SLV} {R : List Nat} {v6 : SLV} {R7 : List Nat} {v9 : Option Nat} {r : (Int × (List ((List (Int × Int)) × Int)) × (List Int) × (Option (List (Int × Bool))))} (hs : Sat (box b 56 [(.int .i64 Wide), (sl v4), (.int .i64 Root), (.int .i64 Many), (sl v6), (.map v9)] :: imm (RSl (RP (RI .u8) (RI .i64))) [sl v2] next_ :: osl (RP (RSl (RP (RI .u8) (RI .i64))) (RI .i64)) 60 (sl v4) Node R :: osl (RI .i64) 3 (sl v6) Free R7 :: omap mk54 mv54 (.map v9) young :: Φ) w) (hm : dfa_work_node next_ Wide Node Root Many Free young = some r) :
    CallsR Try.prog 32 [(.pointer (some ⟨b, 0, none⟩)), (sl v2)] w (fun v w' => ∃ v5 : SLV, ∃ R6 : List Nat, ∃ v8 : SLV, ∃ R9 : List Nat, v = (.int .i64 r.1) ∧ Sat (box b 56 [(.int .i64 Wide), (sl v5), (.int .i64 Root), (.int .i64 Many), (sl v8), (.map v9)] :: osl (RP (RSl (RP (RI .u8) (RI .i64))) (RI .i64)) 60 (sl v5) r.2.1 R6 :: osl (RI .i64) 3 (sl v8) r.2.2.1 R9 :: omap mk54 mv54 (.map v9) r.2.2.2 :: Φ) w') := by
  refine CallsX_enter Try.func32 rfl Try.ntmps32 rfl ?_
  unfold dfa_work_node at hm
  refine WC_seq ?_
  refine WC_region ?_
  refine WL_op (Run_assign Opd.c) rfl rfl rfl rfl <| ?_
  refine WL_nil ?_
  refine At_then ?_
  refine WC_seq ?_
  refine WC_region ?_
  refine WL_op (Run_move (Opd.t rfl)) rfl rfl rfl rfl <| WL_op (Run_move (Opd.t rfl)) rfl rfl rfl rfl <| ?_
  obtain ⟨r11, hr12, hm⟩ := bind_some' hm
  refine WL_call (f := 40) (first := []) (cap := []) (xs := [(.tmp 10), (.tmp 11)]) (vs := [(.pointer (some ⟨b, 0, none⟩)), (sl v2)]) (args := [(.pointer (some ⟨b, 0, none⟩)), (sl v2)]) Try.call40 Opd.f (.cons (Opd.t rfl) (.cons (Opd.t rfl) .nil)) rfl rfl (dfa_work_same_ok (hs.re 5 [0, 1, 2, 3, 4, 1] rfl) hr12) ?_
  rintro _ w13 ⟨rfl, hs⟩
  replace hs := Sat.n5 (Γ := Φ) hs rfl
  refine WL_op (Run_move (Opd.t rfl)) rfl rfl rfl rfl <| WL_op (Run_extract (vs := [(.int .i64 r11.1), (.bool r11.2)]) (Opd.t rfl) rfl) rfl rfl rfl rfl <| WL_op (Run_extract (vs := [(.int .i64 r11.1), (.bool r11.2)]) (Opd.t rfl) rfl) rfl rfl rfl rfl <| WL_op (Run_assign (Opd.t rfl)) rfl rfl rfl rfl <| WL_op (Run_assign (Opd.t rfl)) rfl rfl rfl rfl <| ?_
  refine WL_nil ?_
  refine At_then ?_
  refine WC_seq ?_
  refine WC_seq ?_
  refine WC_region ?_
  refine WL_op (Run_move (Opd.t rfl)) rfl rfl rfl rfl <| ?_
  refine WL_nil ?_
  refine At_then ?_
  refine WC_cond (Opd.t rfl) (fun hc14 => ?_) (fun hc14 => ?_)
  ·
    replace hm := bif_t hc14 hm
    refine WC_seq ?_
    refine WC_region ?_
    refine WL_op (Run_move (Opd.t rfl)) rfl rfl rfl rfl <| WL_op (Run_assign (Opd.t rfl)) rfl rfl rfl rfl <| ?_
    refine WL_nil ?_
    refine At_then ?_
    refine WC_ret ?_
    refine At_then_ret <| ?_
    refine At_r1 rfl (ResIs.t rfl) ?_
    cases hm
    exact ⟨v4, R, v6, R7, rfl, (hs.re 5 [0, 1, 2, 3] rfl)⟩
  ·
    replace hm := bif_f hc14 hm
    refine WC_skip ?_
    refine At_then ?_
    refine WC_seq ?_
    refine WC_region ?_
    refine WL_op (Run_move (Opd.t rfl)) rfl rfl rfl rfl <| ?_
    obtain ⟨r15, hr16, hm⟩ := bind_some' hm
    refine WL_call (f := 41) (first := []) (cap := []) (xs := [(.tmp 17)]) (vs := [(.pointer (some ⟨b, 0, none⟩))]) (args := [(.pointer (some ⟨b, 0, none⟩))]) Try.call41 Opd.f (.cons (Opd.t rfl) .nil) rfl rfl (dfa_work_fresh_ok (hs.re 5 [0, 1, 2, 3, 4] rfl) hr16) ?_
    rintro _ w21 ⟨v17, R18, v19, R20, rfl, hs⟩
    replace hs := Sat.n5 (Γ := Φ) hs rfl
    refine WL_op (Run_assign (Opd.t rfl)) rfl rfl rfl rfl <| ?_
    refine WL_nil ?_
    refine At_then ?_
    refine WC_seq ?_
    refine WC_region ?_
    refine WL_op (Run_move (Opd.t rfl)) rfl rfl rfl rfl <| WL_op (Run_nilP (Opd.t rfl)) rfl rfl rfl rfl <| WL_op (Run_fieldAddr fo56_0 (Opd.t rfl)) rfl rfl rfl rfl <| WL_op (Run_fieldAddr fo29_1 (Opd.t rfl)) rfl rfl rfl rfl <| WL_op (Run_load1 (v := (sl v17)) Try.underlying26 rfl (Opd.t rfl) (fun _ => (hs.box (i := 0) rfl).part 1 rfl)) rfl rfl rfl rfl <| WL_op (Run_move (Opd.t rfl)) rfl rfl rfl rfl <| WL_op (Run_move (Opd.t rfl)) rfl rfl rfl rfl <| WL_op (Run_build (parts := [(0, (.tmp 25))]) (v := (.agg #[(sl v2), (.int .i64 0)])) (.cons (Opd.t rfl) .nil) (fun _ => by kernel_rfl)) rfl rfl rfl rfl <| ?_
    obtain ⟨e22, he23, hm⟩ := bind_some' hm
    obtain ⟨v24, hC25, hN26, hR27⟩ := cellsMO60 (g := true) (fun hg => (hs.own (i := 1) rfl)) (fun hg => he23)
    replace hs := hs.addL [imm (RSl (RP (RI .u8) (RI .i64))) [sl v24] e22.1] rfl ⟨⟨_, rfl, hR27 rfl⟩, trivial⟩
    replace hs := Sat.n6 (Γ := Φ) hs rfl
    refine WL_op (Run_idxAddr (p := (elA (sl v17) r15.1 2)) Try.underlying26 ti60 (Opd.t rfl) (Opd.t rfl) (fun hg => (Own.atA (A := (RP (RSl (RP (RI .u8) (RI .i64))) (RI .i64))) (v := (sl v17)) (hs.own (i := 2) rfl) he23).1)) rfl rfl rfl rfl <| ?_
    refine WS_storeElA (A := (RP (RSl (RP (RI .u8) (RI .i64))) (RI .i64))) (us := [(sl v2), (.int .i64 0)]) (u := (next_, 0)) hs 2 rfl ti60 (idx_inB he23 (by simp)) (Opd.t rfl) (Opd.t rfl) rfl rfl rfl rfl ⟨_, _, rfl, ⟨_, rfl, (hs.sl (i := 5) rfl)⟩, rfl⟩ ?_
    intro w28 hs
    replace hs := Sat.n6 (Γ := Φ) hs rfl
    refine WL_nil ?_
    refine At_then ?_
    refine WC_seq ?_
    refine WC_region ?_
    refine WL_op (Run_move (Opd.t rfl)) rfl rfl rfl rfl <| WL_op (Run_nilP (Opd.t rfl)) rfl rfl rfl rfl <| WL_op (Run_fieldAddr fo56_1 (Opd.t rfl)) rfl rfl rfl rfl <| WL_op (Run_load1 (v := (.map v9)) Try.underlying54 rfl (Opd.t rfl) (fun _ => (hs.box (i := 1) rfl).part 5 rfl)) rfl rfl rfl rfl <| WL_op (Run_move (Opd.t rfl)) rfl rfl rfl rfl <| ?_
    obtain ⟨m29, hm30, hm⟩ := bind_some' hm
    refine WS_mapUpdate (ke := mk54) (vi := mv54) (l := m29) (k := r15.1) (u := true) hs 4 rfl hm30 mK54 Try.underlying54 (Opd.t rfl) (Opd.t rfl) Opd.c ?_
    intro w31 hs
    replace hs := Sat.n6 (Γ := Φ) hs rfl
    refine WL_nil ?_
    refine At_then ?_
    refine WC_seq ?_
    refine WC_seq ?_
    refine WC_region ?_
    refine WL_op (Run_move (Opd.t rfl)) rfl rfl rfl rfl <| WL_op (Run_lenSlG Try.underlying58 (Opd.t rfl) (fun hg => (hs.sl (i := 5) rfl).len)) rfl rfl rfl rfl <| WL_op (Run_move Opd.c) rfl rfl rfl rfl <| ?_
    refine WL_nil ?_
    refine At_then ?_
    refine WC_block ?_
    refine WC_loop (σ := (List ((List (Int × Int)) × Int)) × Int) (γ := Unit) (F := (dfa_work_node_L1 next_ r15 m29)) (N := FUEL) (s0 := ((List.set r15.2.1 (Int.toNat r15.1) (next_, 0)), 0)) (r := r) (fun ⟨l33, t34⟩ (_ : Unit) w32 => Sat (box b 56 [(.int .i64 Wide), (sl v17), (.int .i64 Root), (.int .i64 Many), (sl v19), (.map v9)] :: osl (RP (RSl (RP (RI .u8) (RI .i64))) (RI .i64)) 60 (sl v17) l33 R18 :: osl (RI .i64) 3 (sl v19) r15.2.2 R20 :: omap mk54 mv54 (.map v9) (some (mset m29 r15.1 true)) :: imm (RSl (RP (RI .u8) (RI .i64))) [sl v2] next_ :: Φ) w32) (fun ⟨l33, t34⟩ (_ : Unit) => [(0, true, (.pointer (some ⟨b, 0, none⟩))), (5, true, (.int .i64 r15.1)), (33, true, (sl v2)), (34, true, (.int .i64 (List.length next_ : Int))), (35, true, (.int .i64 t34))]) hm () (hs.re 6 [1, 2, 3, 4, 5] rfl) rfl ?_
    rintro again35 ⟨l33, t34⟩ _ w32 hm hs
    unfold dfa_work_node_L1 at hm
    dsimp only at hm
    refine WC_seq ?_
    refine WC_region ?_
    refine WL_op (Run_ltI (Opd.t rfl) (Opd.t rfl)) rfl rfl rfl rfl <| ?_
    refine WL_nil ?_
    refine At_then ?_
    refine WC_seq ?_
    refine WC_cond (Opd.t rfl) (fun hc36 => ?_) (fun hc36 => ?_)
    ·
      replace hm := bif_t hc36 hm
      refine WC_skip ?_
      refine At_then ?_
      refine WC_seq ?_
      refine WC_block ?_
      refine WC_seq ?_
      refine WC_region ?_
      obtain ⟨e37, he38, hm⟩ := bind_some' hm
      refine WL_op (Run_idxAddr (p := (elA (sl v2) t34 2)) Try.underlying58 ti69 (Opd.t rfl) (Opd.t rfl) (fun hg => (SRd.atA (A := (RP (RI .u8) (RI .i64))) (v := (sl v2)) (hs.sl (i := 4) rfl) he38).1)) rfl rfl rfl rfl <| WL_op (Run_loadA (vs := [(.int .u8 e37.1), (.int .i64 e37.2)]) Try.underlying69 rfl ti69 (Opd.t rfl) (fun hg => (SRd.cellsF (A := (RP (RI .u8) (RI .i64))) (v := (sl v2)) (hs.sl (i := 4) rfl) he38 (fun _ h => openT69 h)).sub 0 rfl) rfl) rfl rfl rfl rfl <| ?_
      refine WS_alloc (zs := [(.int .u8 0), (.int .i64 0)]) hs ti69 rfl rfl ?_
      intro b39 w40 hs
      replace hs := Sat.n6 (Γ := Φ) hs rfl
      refine WS_store (us := [(.int .u8 e37.1), (.int .i64 e37.2)]) (vs' := [(.int .u8 e37.1), (.int .i64 e37.2)]) hs 0 rfl ti69 (Opd.t rfl) (Opd.t rfl) rfl rfl rfl rfl rfl ?_
      intro w41 hs
      replace hs := Sat.n6 (Γ := Φ) hs rfl
      refine WL_nil ?_
      refine At_then ?_
      refine WC_region_mixed [0, 1, 2, 4, 8, 0, 32, 80, 128, 256, 512, 2047, 4095, 6143] (.q 0 0 (.q 1 1 (.q 2 3 (.q 3 7 (.q 4 15 (.q 5 31 (.q 6 63 (.q 7 127 (.q 8 255 (.q 9 511 (.q 10 1023 (.q 11 2047 (.q 12 4095 (.l 13 8191 .nil)))))))))))))) (by kernel_rfl) (by kernel_rfl) ?_
      intro w42 hx43
      replace hs := hs.ext hx43
      refine WD_pure (fun _ => (Run_move (Opd.t rfl))) rfl rfl rfl rfl <| WD_pure (fun _ => (Run_nilP (Opd.t rfl))) rfl rfl rfl rfl <| WD_pure (fun _ => (Run_fieldAddr fo56_0 (Opd.t rfl))) rfl rfl rfl rfl <| WD_pure (fun _ => (Run_fieldAddr fo29_1 (Opd.t rfl))) rfl rfl rfl rfl <| WD_op (fun w => CellsAt w ⟨b, 1, none⟩ [(sl v17)]) ((hs.box (i := 1) rfl).part 1 rfl) (fun _ hJ => (Run_load1 (v := (sl v17)) Try.underlying26 rfl (Opd.t rfl) (fun _ => hJ))) rfl rfl rfl rfl <| WD_pure (fun _ => (Run_fieldAddr fo69_1 (Opd.t rfl))) rfl rfl rfl rfl <| WD_op (fun w => CellsAt w ⟨b39, 1, none⟩ [(.int .i64 e37.2)]) ((hs.box (i := 0) rfl).part 1 rfl) (fun _ hJ => (Run_load1 (v := (.int .i64 e37.2)) Try.underlying3 rfl (Opd.t rfl) (fun _ => hJ))) rfl rfl rfl rfl <| ?_
      obtain ⟨e44, he45, hm⟩ := bind_some' hm
      obtain ⟨v46, hC47, hN48, hR49⟩ := cellsMO60 (g := true) (fun hg => (hs.own (i := 2) rfl)) (fun hg => he45)
      replace hs := hs.addL [imm (RSl (RP (RI .u8) (RI .i64))) [sl v46] e44.1] rfl ⟨⟨_, rfl, hR49 rfl⟩, trivial⟩
      replace hs := Sat.n7 (Γ := Φ) hs rfl
      refine WD_pure (fun _ => (Run_idxAddr (p := (elA (sl v17) e37.2 2)) Try.underlying26 ti60 (Opd.t rfl) (Opd.t rfl) (fun hg => (Own.atA (A := (RP (RSl (RP (RI .u8) (RI .i64))) (RI .i64))) (v := (sl v17)) (hs.own (i := 3) rfl) he45).1))) rfl rfl rfl rfl <| WD_pure (fun _ => (Run_fieldAddr fo60_1 (Opd.t rfl))) rfl rfl rfl rfl <| WD_op (fun w => true = true → CellsAt w ((elA (sl v17) e37.2 2).add 1) [(.int .i64 e44.2)]) (fun hg => ((hC47 hg).sub (us := [(.int .i64 e44.2)]) 1 rfl).sub 0 rfl) (fun _ hJ => (Run_load1 (v := (.int .i64 e44.2)) Try.underlying3 rfl (Opd.t rfl) hJ)) rfl rfl rfl rfl <| WD_pure (fun _ => (Run_add (Opd.t rfl) Opd.c)) rfl rfl rfl rfl <| ?_
      obtain ⟨e50, he51, hm⟩ := bind_some' hm
      obtain ⟨v52, hC53, hN54, hR55⟩ := cellsMO60 (g := true) (fun hg => (hs.own (i := 3) rfl)) (fun hg => he51)
      replace hs := hs.addL [imm (RSl (RP (RI .u8) (RI .i64))) [sl v52] e50.1] rfl ⟨⟨_, rfl, hR55 rfl⟩, trivial⟩
      replace hs := Sat.n8 (Γ := Φ) hs rfl
      refine WD_pure (fun _ => (Run_idxAddr (p := (elA (sl v17) e37.2 2)) Try.underlying26 ti60 (Opd.t rfl) (Opd.t rfl) (fun hg => (Own.atA (A := (RP (RSl (RP (RI .u8) (RI .i64))) (RI .i64))) (v := (sl v17)) (hs.own (i := 4) rfl) he51).1))) rfl rfl rfl rfl <| WD_pure (fun _ => (Run_fieldAddr fo60_1 (Opd.t rfl))) rfl rfl rfl rfl <| ?_
      refine WD_loud (pend' := []) rfl (by kernel_rfl) ?_
      refine WS_storeEl (A := (RP (RSl (RP (RI .u8) (RI .i64))) (RI .i64))) (k := 1) (us := [(.int .i64 (IntKind.i64.wrap (e44.2 + 1)))]) (vs := [(sl v52), (.int .i64 e50.2)]) (vs' := [(sl v52), (.int .i64 (IntKind.i64.wrap (e44.2 + 1)))]) (u := (e50.1, (IntKind.i64.wrap (e44.2 + 1)))) hs 4 rfl ti3 he51 (Opd.t rfl) (Opd.t rfl) rfl rfl rfl (hC53 rfl) rfl rfl rfl ⟨_, _, rfl, ⟨_, rfl, (hs.sl (i := 0) rfl)⟩, rfl⟩ ?_
      intro w56 hs
      replace hs := Sat.n8 (Γ := Φ) hs rfl
      refine WL_nil ?_
      refine At_QK allJ_nil ?_
      refine WD_nil ?_
      refine At_blk_normal ?_
      refine At_then ?_
      refine WC_region ?_
      refine WL_op (Run_add (Opd.t rfl) Opd.c) rfl rfl rfl rfl <| WL_op (Run_move (Opd.t rfl)) rfl rfl rfl rfl <| ?_
      refine WL_nil ?_
      exact At_again ((List.set l33 (Int.toNat e37.2) (e50.1, (IntKind.i64.wrap (e44.2 + 1)))), (IntKind.i64.wrap (t34 + 1))) () hm (hs.re 8 [3, 4, 5, 6, 7] rfl) rfl
    ·
      replace hm := bif_f hc36 hm
      refine WC_exit ?_
      refine At_then_exit <| At_then_exit <| At_blk_here <| ?_
      refine At_then ?_
      refine WC_seq ?_
      refine WC_region ?_
      refine WL_op (Run_move (Opd.t rfl)) rfl rfl rfl rfl <| WL_op (Run_assign (Opd.t rfl)) rfl rfl rfl rfl <| ?_
      refine WL_nil ?_
      refine At_then ?_
      refine WC_ret ?_
      refine At_r1 rfl (ResIs.t rfl) ?_
      cases hm
      exact ⟨v17, R18, v19, R20, rfl, (hs.re 5 [0, 1, 2, 3] rfl)⟩

set_option maxRecDepth 100000 in
set_option maxHeartbeats 4000000 in
theorem dfa_to_s3_ok {Φ : Ctx} {w : World} {d : (Int × (List ((List (Int × Int)) × Int)) × Int × Int × (List Int))} {at_ : Int} {by_ : Int} {v1 : SLV} {R : List Nat} {v3 : SLV} {R4 : List Nat} {r : Int} (hs : Sat (osl (RP (RSl (RP (RI .u8) (RI .i64))) (RI .i64)) 60 (sl v1) d.2.1 R :: osl (RI .i64) 3 (sl v3) d.2.2.2.2 R4 :: Φ) w) (hm : dfa_to_s3 d at_ by_ = some r) :
    CallsR Try.prog 31 [(.agg #[(.int .i64 d.1), (sl v1), (.int .i64 d.2.2.1), (.int .i64 d.2.2.2.1), (sl v3)]), (.int .i64 at_), (.int .u8 by_)] w (fun v w' => v = (.int .i64 r) ∧ Sat (osl (RP (RSl (RP (RI .u8) (RI .i64))) (RI .i64)) 60 (sl v1) d.2.1 R :: osl (RI .i64) 3 (sl v3) d.2.2.2.2 R4 :: Φ) w') := by
  refine CallsX_enter Try.func31 rfl Try.ntmps31 rfl ?_
  unfold dfa_to_s3 at hm
  refine WC_seq ?_
  refine WC_region ?_
  refine WS_box (zs := [(.int .i64 d.1), (sl v1), (.int .i64 d.2.2.1), (.int .i64 d.2.2.2.1), (sl v3)]) hs (Opd.t rfl) rfl rfl ?_
  intro b3 w4 hs
  replace hs := Sat.n3 (Γ := Φ) hs rfl
  refine WL_op (Run_assign Opd.c) rfl rfl rfl rfl <| ?_
  refine WL_nil ?_
  refine At_then ?_
  refine WC_seq ?_
  refine WC_seq ?_
  refine WC_region ?_
  refine WL_op (Run_move (Opd.t rfl)) rfl rfl rfl rfl <| WL_op (Run_eqI (Opd.t rfl) Opd.c) rfl rfl rfl rfl <| ?_
  refine WL_nil ?_
  refine At_then ?_
  refine WC_cond (Opd.t rfl) (fun hc5 => ?_) (fun hc5 => ?_)
  ·
    replace hm := bif_t hc5 hm
    refine WC_seq ?_
    refine WC_region ?_
    refine WL_op (Run_assign Opd.c) rfl rfl rfl rfl <| ?_
    refine WL_nil ?_
    refine At_then ?_
    refine WC_ret ?_
    refine At_then_ret <| ?_
    refine At_r1 rfl (ResIs.t rfl) ?_
    cases hm
    exact ⟨rfl, (hs.re 3 [1, 2] rfl)⟩
  ·
    replace hm := bif_f hc5 hm
    refine WC_skip ?_
    refine At_then ?_
    refine WC_seq ?_
    refine WC_region ?_
    refine WL_op (Run_fieldAddr fo29_1 (Opd.t rfl)) rfl rfl rfl rfl <| WL_op (Run_load1 (v := (sl v1)) Try.underlying26 rfl (Opd.t rfl) (fun _ => (hs.box (i := 0) rfl).part 1 rfl)) rfl rfl rfl rfl <| WL_op (Run_move (Opd.t rfl)) rfl rfl rfl rfl <| ?_
    obtain ⟨e6, he7, hm⟩ := bind_some' hm
    obtain ⟨v8, hC9, hN10, hR11⟩ := cellsMO60 (g := true) (fun hg => (hs.own (i := 1) rfl)) (fun hg => he7)
    replace hs := hs.addL [imm (RSl (RP (RI .u8) (RI .i64))) [sl v8] e6.1] rfl ⟨⟨_, rfl, hR11 rfl⟩, trivial⟩
    replace hs := Sat.n4 (Γ := Φ) hs rfl
    refine WL_op (Run_idxAddr (p := (elA (sl v1) at_ 2)) Try.underlying26 ti60 (Opd.t rfl) (Opd.t rfl) (fun hg => (Own.atA (A := (RP (RSl (RP (RI .u8) (RI .i64))) (RI .i64))) (v := (sl v1)) (hs.own (i := 2) rfl) he7).1)) rfl rfl rfl rfl <| WL_op (Run_fieldAddr fo60_0 (Opd.t rfl)) rfl rfl rfl rfl <| WL_op (Run_load1 (v := (sl v8)) Try.underlying58 rfl (Opd.t rfl) (fun hg => ((hC9 hg).sub (us := [(sl v8)]) 0 rfl).sub 0 rfl)) rfl rfl rfl rfl <| WL_op (Run_move (Opd.t rfl)) rfl rfl rfl rfl <| ?_
    obtain ⟨r12, hr13, hm⟩ := bind_some' hm
    refine WL_call (f := 34) (first := []) (cap := []) (xs := [(.tmp 17), (.tmp 18), (.func 39)]) (vs := [(sl v8), (.int .u8 by_), (.func (.func 39) #[] #[])]) (args := [(sl v8), (.int .u8 by_), (.func (.func 39) #[] #[])]) Try.call34 Opd.f (.cons (Opd.t rfl) (.cons (Opd.t rfl) (.cons Opd.f .nil))) rfl rfl (slices_BinarySearchFunc_api_Edge_api_Edge_byte_ok (hs.re 4 [0, 0, 1, 2, 3] rfl) hr13) ?_
    rintro _ w14 ⟨rfl, hs⟩
    replace hs := Sat.n4 (Γ := Φ) hs rfl
    refine WL_op (Run_move (Opd.t rfl)) rfl rfl rfl rfl <| WL_op (Run_extract (vs := [(.int .i64 r12.1), (.bool r12.2)]) (Opd.t rfl) rfl) rfl rfl rfl rfl <| WL_op (Run_extract (vs := [(.int .i64 r12.1), (.bool r12.2)]) (Opd.t rfl) rfl) rfl rfl rfl rfl <| WL_op (Run_assign (Opd.t rfl)) rfl rfl rfl rfl <| WL_op (Run_assign (Opd.t rfl)) rfl rfl rfl rfl <| ?_
    refine WL_nil ?_
    refine At_then ?_
    refine WC_seq ?_
    refine WC_seq ?_
    refine WC_region ?_
    refine WL_op (Run_move (Opd.t rfl)) rfl rfl rfl rfl <| WL_op (Run_notB (Opd.t rfl)) rfl rfl rfl rfl <| ?_
    refine WL_nil ?_
    refine At_then ?_
    refine WC_cond (Opd.t rfl) (fun hc15 => ?_) (fun hc15 => ?_)
    ·
      replace hm := bif_t hc15 hm
      refine WC_seq ?_
      refine WC_region ?_
      refine WL_op (Run_assign Opd.c) rfl rfl rfl rfl <| ?_
      refine WL_nil ?_
      refine At_then ?_
      refine WC_ret ?_
      refine At_then_ret <| ?_
      refine At_r1 rfl (ResIs.t rfl) ?_
      cases hm
      exact ⟨rfl, (hs.re 4 [2, 3] rfl)⟩
    ·
      replace hm := bif_f hc15 hm
      refine WC_skip ?_
      refine At_then ?_
      refine WC_seq ?_
      refine WC_region ?_
      refine WL_op (Run_fieldAddr fo29_1 (Opd.t rfl)) rfl rfl rfl rfl <| WL_op (Run_load1 (v := (sl v1)) Try.underlying26 rfl (Opd.t rfl) (fun _ => (hs.box (i := 1) rfl).part 1 rfl)) rfl rfl rfl rfl <| WL_op (Run_move (Opd.t rfl)) rfl rfl rfl rfl <| ?_
      obtain ⟨e16, he17, hm⟩ := bind_some' hm
      obtain ⟨v18, hC19, hN20, hR21⟩ := cellsMO60 (g := true) (fun hg => (hs.own (i := 2) rfl)) (fun hg => he17)
      replace hs := hs.addL [imm (RSl (RP (RI .u8) (RI .i64))) [sl v18] e16.1] rfl ⟨⟨_, rfl, hR21 rfl⟩, trivial⟩
      replace hs := Sat.n5 (Γ := Φ) hs rfl
      refine WL_op (Run_idxAddr (p := (elA (sl v1) at_ 2)) Try.underlying26 ti60 (Opd.t rfl) (Opd.t rfl) (fun hg => (Own.atA (A := (RP (RSl (RP (RI .u8) (RI .i64))) (RI .i64))) (v := (sl v1)) (hs.own (i := 3) rfl) he17).1)) rfl rfl rfl rfl <| WL_op (Run_fieldAddr fo60_0 (Opd.t rfl)) rfl rfl rfl rfl <| WL_op (Run_load1 (v := (sl v18)) Try.underlying58 rfl (Opd.t rfl) (fun hg => ((hC19 hg).sub (us := [(sl v18)]) 0 rfl).sub 0 rfl)) rfl rfl rfl rfl <| WL_op (Run_move (Opd.t rfl)) rfl rfl rfl rfl <| ?_
      obtain ⟨e22, he23, hm⟩ := bind_some' hm
      refine WL_op (Run_idxAddr (p := (elA (sl v18) r12.1 2)) Try.underlying58 ti69 (Opd.t rfl) (Opd.t rfl) (fun hg => (SRd.atA (A := (RP (RI .u8) (RI .i64))) (v := (sl v18)) (hs.sl (i := 0) rfl) he23).1)) rfl rfl rfl rfl <| WL_op (Run_fieldAddr fo69_1 (Opd.t rfl)) rfl rfl rfl rfl <| WL_op (Run_load1 (v := (.int .i64 e22.2)) Try.underlying3 rfl (Opd.t rfl) (fun hg => ((SRd.cellsF (A := (RP (RI .u8) (RI .i64))) (v := (sl v18)) (hs.sl (i := 0) rfl) he23 (fun _ h => openT69 h)).sub (us := [(.int .i64 e22.2)]) 1 rfl).sub 0 rfl)) rfl rfl rfl rfl <| WL_op (Run_assign (Opd.t rfl)) rfl rfl rfl rfl <| ?_
      refine WL_nil ?_
      refine At_then ?_
      refine WC_ret ?_
      refine At_r1 rfl (ResIs.t rfl) ?_
      cases hm
      exact ⟨rfl, (hs.re 5 [3, 4] rfl)⟩

end Go.Proofs.Ytjappdgehmjomaa
