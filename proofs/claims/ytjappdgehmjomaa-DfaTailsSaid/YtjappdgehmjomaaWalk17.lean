/- Printed by a program: the walks. -/
import Derived.Test.YtjappdgehmjomaaTypes
import Derived.Test.YtjappdgehmjomaaWalk1
import Derived.Test.YtjappdgehmjomaaWalk8
import Derived.Test.YtjappdgehmjomaaWalk10
import Derived.Test.YtjappdgehmjomaaWalk11
namespace Go.Proofs.Ytjappdgehmjomaa
open Go.Proofs

set_option maxRecDepth 100000 in
set_option maxHeartbeats 4000000 in
theorem scrutinylaw09_DfaTails_ok {Φ : Ctx} {w : World} {a : (List (List Int))} {b : (List (List Int))} {v1 : SLV} {v3 : SLV} {r : Bool} (hs : Sat (imm (RSl (RSl (RI .u8))) [sl v1] a :: imm (RSl (RSl (RI .u8))) [sl v3] b :: Φ) w) (hm : scrutinylaw09_DfaTails a b = some r) :
    CallsR Try.prog 7 [(sl v1), (sl v3)] w (fun v w' => v = (.bool r) ∧ Sat (Φ) w') := by
  refine CallsX_enter Try.func7 rfl Try.ntmps7 rfl ?_
  unfold scrutinylaw09_DfaTails at hm
  refine WC_seq ?_
  refine WC_region ?_
  refine WL_op (Run_assign Opd.c) rfl rfl rfl rfl <| ?_
  refine WL_nil ?_
  refine At_then ?_
  refine WC_seq ?_
  refine WC_region ?_
  obtain ⟨r3, hr4, hm⟩ := bind_some' hm
  refine WL_call (f := 9) (first := []) (cap := []) (xs := []) (vs := []) (args := []) Try.call9 Opd.f .nil rfl rfl (scrutinylaw09_shown_ok (hs.re 2 [0, 1] rfl) hr4) ?_
  rintro _ w5 ⟨rfl, hs⟩
  replace hs := Sat.n2 (Γ := Φ) hs rfl
  refine WL_op (Run_assign (Opd.t rfl)) rfl rfl rfl rfl <| ?_
  refine WL_nil ?_
  refine At_then ?_
  refine WC_seq ?_
  refine WC_seq ?_
  refine WC_region ?_
  refine WL_op (Run_move (Opd.t rfl)) rfl rfl rfl rfl <| WL_op (Run_lenSlG Try.underlying22 (Opd.t rfl) (fun hg => (hs.sl (i := 0) rfl).len)) rfl rfl rfl rfl <| ?_
  obtain ⟨b6, e7, hm⟩ := letv_some hm
  refine WL_op (Run.eqB (Run_ltI (Opd.t rfl) Opd.c) e7) rfl rfl rfl rfl <| WL_op (Run_move (Opd.t rfl)) rfl rfl rfl rfl <| WL_opG rfl rfl rfl rfl guard_neg (Run_move (Opd.t rfl)) rfl rfl rfl <| WL_opG rfl rfl rfl rfl guard_neg (Run_lenSlG Try.underlying22 (Opd.g rfl id) (fun hg => (hs.sl (i := 0) rfl).len)) rfl rfl rfl <| ?_
  obtain ⟨b8, e9, hm⟩ := letv_some hm
  refine WL_opG rfl rfl rfl rfl guard_neg (Run.eqB (Run_gtI (Opd.g rfl id) Opd.c) e9) rfl rfl rfl <| ?_
  obtain ⟨b10, e11, hm⟩ := letv_some hm
  refine WL_op (Run.eqB (Run_or (Opd.t rfl) (Opd.g rfl id)) e11) rfl rfl rfl rfl <| WL_op (Run_move (Opd.t rfl)) rfl rfl rfl rfl <| WL_opG rfl rfl rfl rfl guard_neg (Run_move (Opd.t rfl)) rfl rfl rfl <| WL_opG rfl rfl rfl rfl guard_neg (Run_lenSlG Try.underlying22 (Opd.g rfl id) (fun hg => (hs.sl (i := 1) rfl).len)) rfl rfl rfl <| ?_
  obtain ⟨b12, e13, hm⟩ := letv_some hm
  refine WL_opG rfl rfl rfl rfl guard_neg (Run.eqB (Run_ltI (Opd.g rfl id) Opd.c) e13) rfl rfl rfl <| ?_
  obtain ⟨b14, e15, hm⟩ := letv_some hm
  refine WL_op (Run.eqB (Run_or (Opd.t rfl) (Opd.g rfl id)) e15) rfl rfl rfl rfl <| WL_op (Run_move (Opd.t rfl)) rfl rfl rfl rfl <| WL_opG rfl rfl rfl rfl guard_neg (Run_move (Opd.t rfl)) rfl rfl rfl <| WL_opG rfl rfl rfl rfl guard_neg (Run_lenSlG Try.underlying22 (Opd.g rfl id) (fun hg => (hs.sl (i := 1) rfl).len)) rfl rfl rfl <| ?_
  obtain ⟨b16, e17, hm⟩ := letv_some hm
  refine WL_opG rfl rfl rfl rfl guard_neg (Run.eqB (Run_gtI (Opd.g rfl id) Opd.c) e17) rfl rfl rfl <| ?_
  obtain ⟨b18, e19, hm⟩ := letv_some hm
  refine WL_op (Run.eqB (Run_or (Opd.t rfl) (Opd.g rfl id)) e19) rfl rfl rfl rfl <| ?_
  refine WL_nil ?_
  refine At_then ?_
  refine WC_cond (Opd.t rfl) (fun hc20 => ?_) (fun hc20 => ?_)
  ·
    replace hm := bif_t hc20 hm
    refine WC_seq ?_
    refine WC_region ?_
    refine WL_op (Run_move (Opd.t rfl)) rfl rfl rfl rfl <| WL_op (Run_assign (Opd.t rfl)) rfl rfl rfl rfl <| ?_
    refine WL_nil ?_
    refine At_then ?_
    refine WC_ret ?_
    refine At_then_ret <| ?_
    refine At_r1 rfl (ResIs.t rfl) ?_
    cases hm
    exact ⟨rfl, (hs.re 2 [] rfl)⟩
  ·
    replace hm := bif_f hc20 hm
    refine WC_skip ?_
    refine At_then ?_
    refine WC_seq ?_
    refine WC_region ?_
    refine WL_op (Run_move (Opd.t rfl)) rfl rfl rfl rfl <| ?_
    obtain ⟨e21, he22, hm⟩ := bind_some' hm
    obtain ⟨v23, hC24, hN25, hR26⟩ := cellsM23 (g := true) (fun hg => (hs.sl (i := 0) rfl)) (fun hg => he22)
    replace hs := hs.addL [elem true (elA (sl v1) 0 1) [(sl v23)], imm (RSl (RI .u8)) [sl v23] e21] rfl ⟨fun hg => ⟨hN25 hg, hC24 hg⟩, ⟨_, rfl, hR26 rfl⟩, trivial⟩
    replace hs := Sat.n4 (Γ := Φ) hs rfl
    refine WL_op (Run_idxAddr (p := (elA (sl v1) 0 1)) Try.underlying22 ti23 (Opd.t rfl) Opd.c (fun hg => (SRd.atA (A := (RSl (RI .u8))) (v := (sl v1)) (hs.sl (i := 2) rfl) he22).1)) rfl rfl rfl rfl <| WL_op (Run_load1 (v := (sl v23)) Try.underlying23 rfl (Opd.t rfl) (fun hg => ((hs.elem (i := 0) rfl) hg).sub 0 rfl)) rfl rfl rfl rfl <| WL_op (Run_lenSlG Try.underlying23 (Opd.t rfl) (fun hg => (hs.sl (i := 1) rfl).len)) rfl rfl rfl rfl <| WL_op (Run_assign (Opd.t rfl)) rfl rfl rfl rfl <| ?_
    refine WL_nil ?_
    refine At_then ?_
    refine WC_seq ?_
    refine WC_region ?_
    refine WL_op (Run_move (Opd.t rfl)) rfl rfl rfl rfl <| ?_
    obtain ⟨e27, he28, hm⟩ := bind_some' hm
    obtain ⟨v29, hC30, hN31, hR32⟩ := cellsM23 (g := true) (fun hg => (hs.sl (i := 3) rfl)) (fun hg => he28)
    replace hs := hs.addL [elem true (elA (sl v3) 0 1) [(sl v29)], imm (RSl (RI .u8)) [sl v29] e27] rfl ⟨fun hg => ⟨hN31 hg, hC30 hg⟩, ⟨_, rfl, hR32 rfl⟩, trivial⟩
    replace hs := Sat.n6 (Γ := Φ) hs rfl
    refine WL_op (Run_idxAddr (p := (elA (sl v3) 0 1)) Try.underlying22 ti23 (Opd.t rfl) Opd.c (fun hg => (SRd.atA (A := (RSl (RI .u8))) (v := (sl v3)) (hs.sl (i := 5) rfl) he28).1)) rfl rfl rfl rfl <| WL_op (Run_load1 (v := (sl v29)) Try.underlying23 rfl (Opd.t rfl) (fun hg => ((hs.elem (i := 0) rfl) hg).sub 0 rfl)) rfl rfl rfl rfl <| WL_op (Run_lenSlG Try.underlying23 (Opd.t rfl) (fun hg => (hs.sl (i := 1) rfl).len)) rfl rfl rfl rfl <| WL_op (Run_assign (Opd.t rfl)) rfl rfl rfl rfl <| ?_
    refine WL_nil ?_
    refine At_then ?_
    refine WC_seq ?_
    refine WC_seq ?_
    refine WC_region ?_
    refine WL_op (Run_move (Opd.t rfl)) rfl rfl rfl rfl <| ?_
    obtain ⟨b33, e34, hm⟩ := letv_some hm
    refine WL_op (Run.eqB (Run_ltI (Opd.t rfl) Opd.c) e34) rfl rfl rfl rfl <| WL_op (Run_move (Opd.t rfl)) rfl rfl rfl rfl <| WL_opG rfl rfl rfl rfl guard_neg (Run_move (Opd.t rfl)) rfl rfl rfl <| ?_
    obtain ⟨b35, e36, hm⟩ := letv_some hm
    refine WL_opG rfl rfl rfl rfl guard_neg (Run.eqB (Run_gtI (Opd.g rfl id) Opd.c) e36) rfl rfl rfl <| ?_
    obtain ⟨b37, e38, hm⟩ := letv_some hm
    refine WL_op (Run.eqB (Run_or (Opd.t rfl) (Opd.g rfl id)) e38) rfl rfl rfl rfl <| WL_op (Run_move (Opd.t rfl)) rfl rfl rfl rfl <| WL_opG rfl rfl rfl rfl guard_neg (Run_move (Opd.t rfl)) rfl rfl rfl <| ?_
    obtain ⟨b39, e40, hm⟩ := letv_some hm
    refine WL_opG rfl rfl rfl rfl guard_neg (Run.eqB (Run_ltI (Opd.g rfl id) Opd.c) e40) rfl rfl rfl <| ?_
    obtain ⟨b41, e42, hm⟩ := letv_some hm
    refine WL_op (Run.eqB (Run_or (Opd.t rfl) (Opd.g rfl id)) e42) rfl rfl rfl rfl <| WL_op (Run_move (Opd.t rfl)) rfl rfl rfl rfl <| WL_opG rfl rfl rfl rfl guard_neg (Run_move (Opd.t rfl)) rfl rfl rfl <| ?_
    obtain ⟨b43, e44, hm⟩ := letv_some hm
    refine WL_opG rfl rfl rfl rfl guard_neg (Run.eqB (Run_gtI (Opd.g rfl id) Opd.c) e44) rfl rfl rfl <| ?_
    obtain ⟨b45, e46, hm⟩ := letv_some hm
    refine WL_op (Run.eqB (Run_or (Opd.t rfl) (Opd.g rfl id)) e46) rfl rfl rfl rfl <| ?_
    refine WL_nil ?_
    refine At_then ?_
    refine WC_cond (Opd.t rfl) (fun hc47 => ?_) (fun hc47 => ?_)
    ·
      replace hm := bif_t hc47 hm
      refine WC_seq ?_
      refine WC_region ?_
      refine WL_op (Run_move (Opd.t rfl)) rfl rfl rfl rfl <| WL_op (Run_assign (Opd.t rfl)) rfl rfl rfl rfl <| ?_
      refine WL_nil ?_
      refine At_then ?_
      refine WC_ret ?_
      refine At_then_ret <| ?_
      refine At_r1 rfl (ResIs.t rfl) ?_
      cases hm
      exact ⟨rfl, (hs.re 6 [] rfl)⟩
    ·
      replace hm := bif_f hc47 hm
      refine WC_skip ?_
      refine At_then ?_
      refine WC_seq ?_
      refine WC_region ?_
      refine WL_op (Run_move (Opd.t rfl)) rfl rfl rfl rfl <| ?_
      obtain ⟨r48, hr49, hm⟩ := bind_some' hm
      refine WL_call (f := 12) (first := []) (cap := []) (xs := [(.tmp 71)]) (vs := [(.int .i64 (List.length e21 : Int))]) (args := [(.int .i64 (List.length e21 : Int))]) Try.call12 Opd.f (.cons (Opd.t rfl) .nil) rfl rfl (scrutinyref09_New_ok (hs.re 6 [0, 1, 2, 3, 4, 5] rfl) hr49) ?_
      rintro _ w52 ⟨v50, R51, rfl, hs⟩
      replace hs := Sat.n7 (Γ := Φ) hs rfl
      refine WL_op (Run_move (Opd.t rfl)) rfl rfl rfl rfl <| WL_op (Run_extract (vs := [(.agg #[(.int .i64 r48.1.1), (sl v50)]), (.int .i64 r48.2)]) (Opd.t rfl) rfl) rfl rfl rfl rfl <| WL_op (Run_extract (vs := [(.agg #[(.int .i64 r48.1.1), (sl v50)]), (.int .i64 r48.2)]) (Opd.t rfl) rfl) rfl rfl rfl rfl <| ?_
      refine WS_alloc (zs := [(.int .i64 0), (sl (none, 0, 0))]) hs ti34 rfl rfl ?_
      intro b53 w54 hs
      replace hs := Sat.n8 (Γ := Φ) hs rfl
      refine WS_store (us := [(.int .i64 r48.1.1), (sl v50)]) (vs' := [(.int .i64 r48.1.1), (sl v50)]) hs 0 rfl ti34 (Opd.t rfl) (Opd.t rfl) rfl rfl rfl rfl rfl ?_
      intro w55 hs
      replace hs := Sat.n8 (Γ := Φ) hs rfl
      refine WL_op (Run_assign (Opd.t rfl)) rfl rfl rfl rfl <| ?_
      refine WL_nil ?_
      refine At_then ?_
      refine WC_seq ?_
      refine WC_region ?_
      refine WL_op (Run_move (Opd.t rfl)) rfl rfl rfl rfl <| ?_
      obtain ⟨r56, hr57, hm⟩ := bind_some' hm
      refine WL_call (f := 12) (first := []) (cap := []) (xs := [(.tmp 76)]) (vs := [(.int .i64 (List.length e27 : Int))]) (args := [(.int .i64 (List.length e27 : Int))]) Try.call12 Opd.f (.cons (Opd.t rfl) .nil) rfl rfl (scrutinyref09_New_ok (hs.re 8 [0, 1, 2, 3, 4, 5, 6, 7] rfl) hr57) ?_
      rintro _ w60 ⟨v58, R59, rfl, hs⟩
      replace hs := Sat.n9 (Γ := Φ) hs rfl
      refine WL_op (Run_move (Opd.t rfl)) rfl rfl rfl rfl <| WL_op (Run_extract (vs := [(.agg #[(.int .i64 r56.1.1), (sl v58)]), (.int .i64 r56.2)]) (Opd.t rfl) rfl) rfl rfl rfl rfl <| WL_op (Run_extract (vs := [(.agg #[(.int .i64 r56.1.1), (sl v58)]), (.int .i64 r56.2)]) (Opd.t rfl) rfl) rfl rfl rfl rfl <| ?_
      refine WS_alloc (zs := [(.int .i64 0), (sl (none, 0, 0))]) hs ti34 rfl rfl ?_
      intro b61 w62 hs
      replace hs := Sat.n10 (Γ := Φ) hs rfl
      refine WS_store (us := [(.int .i64 r56.1.1), (sl v58)]) (vs' := [(.int .i64 r56.1.1), (sl v58)]) hs 0 rfl ti34 (Opd.t rfl) (Opd.t rfl) rfl rfl rfl rfl rfl ?_
      intro w63 hs
      replace hs := Sat.n10 (Γ := Φ) hs rfl
      refine WL_op (Run_assign (Opd.t rfl)) rfl rfl rfl rfl <| ?_
      refine WL_nil ?_
      refine At_then ?_
      refine WC_seq ?_
      refine WC_region ?_
      refine WL_op (Run_move (Opd.t rfl)) rfl rfl rfl rfl <| WL_op (Run_move (Opd.t rfl)) rfl rfl rfl rfl <| WL_op (Run_add (Opd.t rfl) (Opd.t rfl)) rfl rfl rfl rfl <| ?_
      obtain ⟨r64, hr65, hm⟩ := bind_some' hm
      refine WL_call (f := 11) (first := []) (cap := []) (xs := [(.tmp 83)]) (vs := [(.int .i64 (IntKind.i64.wrap ((List.length e21 : Int) + (List.length e27 : Int))))]) (args := [(.int .i64 (IntKind.i64.wrap ((List.length e21 : Int) + (List.length e27 : Int))))]) Try.call11 Opd.f (.cons (Opd.t rfl) .nil) rfl rfl (dfa_New_ok (hs.re 10 [0, 1, 2, 3, 4, 5, 6, 7, 8, 9] rfl) hr65) ?_
      rintro _ w70 ⟨v66, R67, v68, R69, rfl, hs⟩
      replace hs := Sat.n12 (Γ := Φ) hs rfl
      refine WL_op (Run_move (Opd.t rfl)) rfl rfl rfl rfl <| WL_op (Run_extract (vs := [(.agg #[(.int .i64 r64.1.1), (sl v66), (.int .i64 r64.1.2.2.1), (.int .i64 r64.1.2.2.2.1), (sl v68)]), (.int .i64 r64.2)]) (Opd.t rfl) rfl) rfl rfl rfl rfl <| WL_op (Run_extract (vs := [(.agg #[(.int .i64 r64.1.1), (sl v66), (.int .i64 r64.1.2.2.1), (.int .i64 r64.1.2.2.2.1), (sl v68)]), (.int .i64 r64.2)]) (Opd.t rfl) rfl) rfl rfl rfl rfl <| ?_
      refine WS_alloc (zs := [(.int .i64 0), (sl (none, 0, 0)), (.int .i64 0), (.int .i64 0), (sl (none, 0, 0))]) hs ti29 rfl rfl ?_
      intro b71 w72 hs
      replace hs := Sat.n13 (Γ := Φ) hs rfl
      refine WS_store (us := [(.int .i64 r64.1.1), (sl v66), (.int .i64 r64.1.2.2.1), (.int .i64 r64.1.2.2.2.1), (sl v68)]) (vs' := [(.int .i64 r64.1.1), (sl v66), (.int .i64 r64.1.2.2.1), (.int .i64 r64.1.2.2.2.1), (sl v68)]) hs 0 rfl ti29 (Opd.t rfl) (Opd.t rfl) rfl rfl rfl rfl rfl ?_
      intro w73 hs
      replace hs := Sat.n13 (Γ := Φ) hs rfl
      refine WL_op (Run_assign (Opd.t rfl)) rfl rfl rfl rfl <| ?_
      refine WL_nil ?_
      refine At_then ?_
      refine WC_seq ?_
      refine WC_seq ?_
      refine WC_region ?_
      refine WL_op (Run_assign Opd.c) rfl rfl rfl rfl <| ?_
      refine WL_nil ?_
      refine At_then ?_
      refine WC_block ?_
      replace hs := hs.freeze (i := 6) rfl
      refine WC_loop (σ := Int × (List (List Int)) × Int) (γ := SLV) (F := (scrutinylaw09_DfaTails_L1 a b r3 e21 e27 r56 r64)) (N := FUEL) (s0 := (r48.1.1, r48.1.2, 0)) (r := r) (fun ⟨c75, c76, i78⟩ v77 w74 => Sat (imm (RSl (RSl (RI .u8))) [sl v1] a :: imm (RSl (RSl (RI .u8))) [sl v3] b :: box b53 34 [(.int .i64 c75), (sl v77)] :: imm (RSl (RSl (RI .u8))) [sl v77] c76 :: box b61 34 [(.int .i64 r56.1.1), (sl v58)] :: osl (RSl (RI .u8)) 23 (sl v58) r56.1.2 R59 :: box b71 29 [(.int .i64 r64.1.1), (sl v66), (.int .i64 r64.1.2.2.1), (.int .i64 r64.1.2.2.2.1), (sl v68)] :: osl (RP (RSl (RP (RI .u8) (RI .i64))) (RI .i64)) 60 (sl v66) r64.1.2.1 R67 :: osl (RI .i64) 3 (sl v68) r64.1.2.2.2.2 R69 :: Φ) w74) (fun ⟨c75, c76, i78⟩ v77 => [(0, true, (sl v1)), (1, true, (sl v3)), (5, true, (.bool r3)), (6, true, (.int .i64 (List.length e21 : Int))), (7, true, (.int .i64 (List.length e27 : Int))), (8, true, (.pointer (some ⟨b53, 0, none⟩))), (10, true, (.pointer (some ⟨b61, 0, none⟩))), (12, true, (.pointer (some ⟨b71, 0, none⟩))), (13, true, (.int .i64 r64.2)), (14, true, (.int .i64 i78))]) hm v50 (hs.re 13 [11, 12, 5, 6, 3, 4, 0, 1, 2] rfl) rfl ?_
      rintro again79 ⟨c75, c76, i78⟩ v77 w74 hm hs
      unfold scrutinylaw09_DfaTails_L1 at hm
      dsimp only at hm
      refine WC_seq ?_
      refine WC_seq ?_
      refine WC_region ?_
      refine WL_op (Run_move (Opd.t rfl)) rfl rfl rfl rfl <| WL_op (Run_move (Opd.t rfl)) rfl rfl rfl rfl <| WL_op (Run_lenSlG Try.underlying22 (Opd.t rfl) (fun hg => (hs.sl (i := 0) rfl).len)) rfl rfl rfl rfl <| WL_op (Run_ltI (Opd.t rfl) (Opd.t rfl)) rfl rfl rfl rfl <| ?_
      refine WL_nil ?_
      refine At_then ?_
      refine WC_cond (Opd.t rfl) (fun hc80 => ?_) (fun hc80 => ?_)
      ·
        replace hm := bif_t hc80 hm
        refine WC_skip ?_
        refine At_then ?_
        refine WC_seq ?_
        refine WC_block ?_
        refine WC_seq ?_
        refine WC_seq ?_
        refine WC_region ?_
        refine WL_op (Run_move (Opd.t rfl)) rfl rfl rfl rfl <| WL_op (Run_move (Opd.t rfl)) rfl rfl rfl rfl <| ?_
        obtain ⟨e81, he82, hm⟩ := bind_some' hm
        obtain ⟨v83, hC84, hN85, hR86⟩ := cellsM23 (g := true) (fun hg => (hs.sl (i := 0) rfl)) (fun hg => he82)
        replace hs := hs.addL [elem true (elA (sl v1) i78 1) [(sl v83)], imm (RSl (RI .u8)) [sl v83] e81] rfl ⟨fun hg => ⟨hN85 hg, hC84 hg⟩, ⟨_, rfl, hR86 rfl⟩, trivial⟩
        replace hs := Sat.n11 (Γ := Φ) hs rfl
        refine WL_op (Run_idxAddr (p := (elA (sl v1) i78 1)) Try.underlying22 ti23 (Opd.t rfl) (Opd.t rfl) (fun hg => (SRd.atA (A := (RSl (RI .u8))) (v := (sl v1)) (hs.sl (i := 2) rfl) he82).1)) rfl rfl rfl rfl <| WL_op (Run_load1 (v := (sl v83)) Try.underlying23 rfl (Opd.t rfl) (fun hg => ((hs.elem (i := 0) rfl) hg).sub 0 rfl)) rfl rfl rfl rfl <| WL_op (Run_lenSlG Try.underlying23 (Opd.t rfl) (fun hg => (hs.sl (i := 1) rfl).len)) rfl rfl rfl rfl <| WL_op (Run_move (Opd.t rfl)) rfl rfl rfl rfl <| WL_op (Run_neI (Opd.t rfl) (Opd.t rfl)) rfl rfl rfl rfl <| ?_
        refine WL_nil ?_
        refine At_then ?_
        refine WC_cond (Opd.t rfl) (fun hc87 => ?_) (fun hc87 => ?_)
        ·
          replace hm := bif_t hc87 hm
          refine WC_seq ?_
          refine WC_region ?_
          refine WL_op (Run_move (Opd.t rfl)) rfl rfl rfl rfl <| WL_op (Run_assign (Opd.t rfl)) rfl rfl rfl rfl <| ?_
          refine WL_nil ?_
          refine At_then ?_
          refine WC_ret ?_
          refine At_then_ret <| At_blk_ret <| At_then_ret <| At_then_ret <| At_blk_ret <| At_then_ret <| ?_
          refine At_r1 rfl (ResIs.t rfl) ?_
          cases hm
          exact ⟨rfl, (hs.re 11 [] rfl)⟩
        ·
          replace hm := bif_f hc87 hm
          refine WC_skip ?_
          refine At_then ?_
          refine WC_seq ?_
          refine WC_region_mixed [0, 0, 0, 6, 8, 17, 32, 64, 64, 64, 0, 1279, 3583, 8191] (.q 0 0 (.q 1 1 (.q 2 3 (.q 3 7 (.q 4 15 (.l2 31 5 (.q 6 63 (.q 7 127 (.q 8 255 (.q 9 511 (.l 10 1023 (.l 11 2047 (.q 12 4095 (.q 13 8191 .nil)))))))) 10 (.l 5 1055 (.q 6 1087 (.q 7 1151 (.q 8 1279 (.q 9 1535 (.l 11 2047 (.q 12 4095 (.q 13 8191 .nil)))))))))))))) (by kernel_rfl) (by kernel_rfl) ?_
          intro w88 hx89
          replace hs := hs.ext hx89
          refine WD_op (fun w => CellsAt w ⟨b53, 0, none⟩ [(.int .i64 c75), (sl v77)]) ((hs.box (i := 4) rfl).part 0 rfl) (fun _ hJ => (Run_loadA (vs := [(.int .i64 c75), (sl v77)]) Try.underlying34 rfl ti34 (Opd.t rfl) (fun _ => hJ) rfl)) rfl rfl rfl rfl <| WD_pure (fun _ => (Run_move (Opd.t rfl))) rfl rfl rfl rfl <| WD_pure (fun _ => (Run_move (Opd.t rfl))) rfl rfl rfl rfl <| ?_
          obtain ⟨e90, he91, hm⟩ := bind_some' hm
          obtain ⟨v92, hC93, hN94, hR95⟩ := cellsM23 (g := true) (fun hg => (hs.sl (i := 2) rfl)) (fun hg => he91)
          replace hs := hs.addL [elem true (elA (sl v1) i78 1) [(sl v92)], imm (RSl (RI .u8)) [sl v92] e90] rfl ⟨fun hg => ⟨hN94 hg, hC93 hg⟩, ⟨_, rfl, hR95 rfl⟩, trivial⟩
          replace hs := Sat.n13 (Γ := Φ) hs rfl
          refine WD_pure (fun _ => (Run_idxAddr (p := (elA (sl v1) i78 1)) Try.underlying22 ti23 (Opd.t rfl) (Opd.t rfl) (fun hg => (SRd.atA (A := (RSl (RI .u8))) (v := (sl v1)) (hs.sl (i := 4) rfl) he91).1))) rfl rfl rfl rfl <| WD_op (fun w => true = true → CellsAt w (elA (sl v1) i78 1) [(sl v92)]) (fun hg => ((hs.elem (i := 0) rfl) hg).sub 0 rfl) (fun _ hJ => (Run_load1 (v := (sl v92)) Try.underlying23 rfl (Opd.t rfl) hJ)) rfl rfl rfl rfl <| ?_
          refine WD_loud2 ?_ ?_
          ·
            refine WD_loud (pend' := []) rfl (by kernel_rfl) ?_
            obtain ⟨r96, hr97, hm⟩ := bind_some' hm
            refine WL_call (f := 14) (first := []) (cap := []) (xs := [(.tmp 102), (.tmp 106)]) (vs := [(.agg #[(.int .i64 c75), (sl v77)]), (sl v92)]) (args := [(.agg #[(.int .i64 c75), (sl v77)]), (sl v92)]) Try.call14 Opd.f (.cons (Opd.t rfl) (.cons (Opd.t rfl) .nil)) rfl rfl (scrutinyref09_Insert_ok (s := (c75, c76)) (hs.re 13 [7, 1, 0, 1, 2, 3, 4, 5, 6, 7, 8, 9, 10, 11, 12] rfl) hr97) ?_
            rintro _ w99 ⟨v98, rfl, hs⟩
            replace hs := Sat.n14 (Γ := Φ) hs rfl
            refine WL_nil ?_
            refine At_QK allJ_nil ?_
            refine WD_pure (fun _ => (Run_move (Opd.t rfl))) rfl rfl rfl rfl <| WD_pure (fun _ => (Run_extract (vs := [(.agg #[(.int .i64 r96.1.1), (sl v98)]), (.bool r96.2.1), (.int .i64 r96.2.2)]) (Opd.t rfl) rfl)) rfl rfl rfl rfl <| WD_pure (fun _ => (Run_extract (vs := [(.agg #[(.int .i64 r96.1.1), (sl v98)]), (.bool r96.2.1), (.int .i64 r96.2.2)]) (Opd.t rfl) rfl)) rfl rfl rfl rfl <| WD_pure (fun _ => (Run_extract (vs := [(.agg #[(.int .i64 r96.1.1), (sl v98)]), (.bool r96.2.1), (.int .i64 r96.2.2)]) (Opd.t rfl) rfl)) rfl rfl rfl rfl <| ?_
            refine WD_loud (pend' := []) rfl (by kernel_rfl) ?_
            refine WS_alloc (zs := [(.int .i64 0), (sl (none, 0, 0))]) hs ti34 rfl rfl ?_
            intro b100 w101 hs
            replace hs := Sat.n15 (Γ := Φ) hs rfl
            refine WL_nil ?_
            refine At_QK allJ_nil ?_
            refine WD_loud (pend' := []) rfl (by kernel_rfl) ?_
            refine WS_store (us := [(.int .i64 r96.1.1), (sl v98)]) (vs' := [(.int .i64 r96.1.1), (sl v98)]) hs 0 rfl ti34 (Opd.t rfl) (Opd.t rfl) rfl rfl rfl rfl rfl ?_
            intro w102 hs
            replace hs := Sat.n15 (Γ := Φ) hs rfl
            refine WL_nil ?_
            refine At_QK allJ_nil ?_
            refine WD_pure (fun _ => (Run_assign (Opd.t rfl))) rfl rfl rfl rfl <| WD_pure (fun _ => (Run_assign (Opd.t rfl))) rfl rfl rfl rfl <| ?_
            refine WD_nil ?_
            refine At_then ?_
            refine WC_region ?_
            refine WL_op (Run_loadA (vs := [(.int .i64 r96.1.1), (sl v98)]) Try.underlying34 rfl ti34 (Opd.t rfl) (fun _ => (hs.box (i := 0) rfl).part 0 rfl) rfl) rfl rfl rfl rfl <| ?_
            refine WS_store (us := [(.int .i64 r96.1.1), (sl v98)]) (vs' := [(.int .i64 r96.1.1), (sl v98)]) hs 8 rfl ti34 (Opd.t rfl) (Opd.t rfl) rfl rfl rfl rfl rfl ?_
            intro w103 hs
            replace hs := Sat.n15 (Γ := Φ) hs rfl
            refine WL_nil ?_
            refine At_blk_normal ?_
            refine At_then ?_
            refine WC_region ?_
            refine WL_op (Run_move (Opd.t rfl)) rfl rfl rfl rfl <| WL_op (Run_add (Opd.t rfl) Opd.c) rfl rfl rfl rfl <| WL_op (Run_assign (Opd.t rfl)) rfl rfl rfl rfl <| ?_
            refine WL_nil ?_
            exact At_again (r96.1.1, r96.1.2, (IntKind.i64.wrap (i78 + 1))) v98 hm (hs.re 15 [6, 7, 8, 1, 10, 11, 12, 13, 14] rfl) rfl
          ·
            refine WD_loud (pend' := [(4, fun w => true = true → CellsAt w (elA (sl v1) i78 1) [(sl v92)]), (0, fun w => CellsAt w ⟨b53, 0, none⟩ [(.int .i64 c75), (sl v77)])]) rfl (by kernel_rfl) ?_
            refine WS_alloc (zs := [(.int .i64 0), (sl (none, 0, 0))]) hs ti34 rfl rfl ?_
            intro b104 w105 hs
            replace hs := Sat.n14 (Γ := Φ) hs rfl
            refine WL_nil ?_
            refine At_QK (allJ_cons (fun hg => ((hs.elem (i := 1) rfl) hg).sub 0 rfl) (allJ_cons ((hs.box (i := 7) rfl).part 0 rfl) allJ_nil)) ?_
            refine WD_loud (pend' := []) rfl (by kernel_rfl) ?_
            obtain ⟨r106, hr107, hm⟩ := bind_some' hm
            refine WL_call (f := 14) (first := []) (cap := []) (xs := [(.tmp 102), (.tmp 106)]) (vs := [(.agg #[(.int .i64 c75), (sl v77)]), (sl v92)]) (args := [(.agg #[(.int .i64 c75), (sl v77)]), (sl v92)]) Try.call14 Opd.f (.cons (Opd.t rfl) (.cons (Opd.t rfl) .nil)) rfl rfl (scrutinyref09_Insert_ok (s := (c75, c76)) (hs.re 14 [8, 2, 0, 1, 2, 3, 4, 5, 6, 7, 8, 9, 10, 11, 12, 13] rfl) hr107) ?_
            rintro _ w109 ⟨v108, rfl, hs⟩
            replace hs := Sat.n15 (Γ := Φ) hs rfl
            refine WL_nil ?_
            refine At_QK allJ_nil ?_
            refine WD_pure (fun _ => (Run_move (Opd.t rfl))) rfl rfl rfl rfl <| WD_pure (fun _ => (Run_extract (vs := [(.agg #[(.int .i64 r106.1.1), (sl v108)]), (.bool r106.2.1), (.int .i64 r106.2.2)]) (Opd.t rfl) rfl)) rfl rfl rfl rfl <| WD_pure (fun _ => (Run_extract (vs := [(.agg #[(.int .i64 r106.1.1), (sl v108)]), (.bool r106.2.1), (.int .i64 r106.2.2)]) (Opd.t rfl) rfl)) rfl rfl rfl rfl <| WD_pure (fun _ => (Run_extract (vs := [(.agg #[(.int .i64 r106.1.1), (sl v108)]), (.bool r106.2.1), (.int .i64 r106.2.2)]) (Opd.t rfl) rfl)) rfl rfl rfl rfl <| ?_
            refine WD_loud (pend' := []) rfl (by kernel_rfl) ?_
            refine WS_store (us := [(.int .i64 r106.1.1), (sl v108)]) (vs' := [(.int .i64 r106.1.1), (sl v108)]) hs 1 rfl ti34 (Opd.t rfl) (Opd.t rfl) rfl rfl rfl rfl rfl ?_
            intro w110 hs
            replace hs := Sat.n15 (Γ := Φ) hs rfl
            refine WL_nil ?_
            refine At_QK allJ_nil ?_
            refine WD_pure (fun _ => (Run_assign (Opd.t rfl))) rfl rfl rfl rfl <| WD_pure (fun _ => (Run_assign (Opd.t rfl))) rfl rfl rfl rfl <| ?_
            refine WD_nil ?_
            refine At_then ?_
            refine WC_region ?_
            refine WL_op (Run_loadA (vs := [(.int .i64 r106.1.1), (sl v108)]) Try.underlying34 rfl ti34 (Opd.t rfl) (fun _ => (hs.box (i := 1) rfl).part 0 rfl) rfl) rfl rfl rfl rfl <| ?_
            refine WS_store (us := [(.int .i64 r106.1.1), (sl v108)]) (vs' := [(.int .i64 r106.1.1), (sl v108)]) hs 8 rfl ti34 (Opd.t rfl) (Opd.t rfl) rfl rfl rfl rfl rfl ?_
            intro w111 hs
            replace hs := Sat.n15 (Γ := Φ) hs rfl
            refine WL_nil ?_
            refine At_blk_normal ?_
            refine At_then ?_
            refine WC_region ?_
            refine WL_op (Run_move (Opd.t rfl)) rfl rfl rfl rfl <| WL_op (Run_add (Opd.t rfl) Opd.c) rfl rfl rfl rfl <| WL_op (Run_assign (Opd.t rfl)) rfl rfl rfl rfl <| ?_
            refine WL_nil ?_
            exact At_again (r106.1.1, r106.1.2, (IntKind.i64.wrap (i78 + 1))) v108 hm (hs.re 15 [6, 7, 8, 0, 10, 11, 12, 13, 14] rfl) rfl
      ·
        replace hm := bif_f hc80 hm
        refine WC_exit ?_
        refine At_then_exit <| At_then_exit <| At_blk_here <| ?_
        refine At_then ?_
        refine WC_seq ?_
        refine WC_seq ?_
        refine WC_region ?_
        refine WL_op (Run_assign Opd.c) rfl rfl rfl rfl <| ?_
        refine WL_nil ?_
        refine At_then ?_
        refine WC_block ?_
        replace hs := hs.freeze (i := 5) rfl
        refine WC_loop (σ := Int × (List (List Int)) × Int) (γ := SLV) (F := (scrutinylaw09_DfaTails_L2 a b r3 e27 r64 c75 c76)) (N := FUEL) (s0 := (r56.1.1, r56.1.2, 0)) (r := r) (fun ⟨c113, c114, i116⟩ v115 w112 => Sat (imm (RSl (RSl (RI .u8))) [sl v1] a :: imm (RSl (RSl (RI .u8))) [sl v3] b :: box b53 34 [(.int .i64 c75), (sl v77)] :: imm (RSl (RSl (RI .u8))) [sl v77] c76 :: box b61 34 [(.int .i64 c113), (sl v115)] :: imm (RSl (RSl (RI .u8))) [sl v115] c114 :: box b71 29 [(.int .i64 r64.1.1), (sl v66), (.int .i64 r64.1.2.2.1), (.int .i64 r64.1.2.2.2.1), (sl v68)] :: osl (RP (RSl (RP (RI .u8) (RI .i64))) (RI .i64)) 60 (sl v66) r64.1.2.1 R67 :: osl (RI .i64) 3 (sl v68) r64.1.2.2.2.2 R69 :: Φ) w112) (fun ⟨c113, c114, i116⟩ v115 => [(0, true, (sl v1)), (1, true, (sl v3)), (5, true, (.bool r3)), (7, true, (.int .i64 (List.length e27 : Int))), (8, true, (.pointer (some ⟨b53, 0, none⟩))), (10, true, (.pointer (some ⟨b61, 0, none⟩))), (12, true, (.pointer (some ⟨b71, 0, none⟩))), (13, true, (.int .i64 r64.2)), (18, true, (.int .i64 i116))]) hm v58 (hs.re 9 [0, 1, 2, 3, 4, 5, 6, 7, 8] rfl) rfl ?_
        rintro again117 ⟨c113, c114, i116⟩ v115 w112 hm hs
        unfold scrutinylaw09_DfaTails_L2 at hm
        dsimp only at hm
        refine WC_seq ?_
        refine WC_seq ?_
        refine WC_region ?_
        refine WL_op (Run_move (Opd.t rfl)) rfl rfl rfl rfl <| WL_op (Run_move (Opd.t rfl)) rfl rfl rfl rfl <| WL_op (Run_lenSlG Try.underlying22 (Opd.t rfl) (fun hg => (hs.sl (i := 1) rfl).len)) rfl rfl rfl rfl <| WL_op (Run_ltI (Opd.t rfl) (Opd.t rfl)) rfl rfl rfl rfl <| ?_
        refine WL_nil ?_
        refine At_then ?_
        refine WC_cond (Opd.t rfl) (fun hc118 => ?_) (fun hc118 => ?_)
        ·
          replace hm := bif_t hc118 hm
          refine WC_skip ?_
          refine At_then ?_
          refine WC_seq ?_
          refine WC_block ?_
          refine WC_seq ?_
          refine WC_seq ?_
          refine WC_region ?_
          refine WL_op (Run_move (Opd.t rfl)) rfl rfl rfl rfl <| WL_op (Run_move (Opd.t rfl)) rfl rfl rfl rfl <| ?_
          obtain ⟨e119, he120, hm⟩ := bind_some' hm
          obtain ⟨v121, hC122, hN123, hR124⟩ := cellsM23 (g := true) (fun hg => (hs.sl (i := 1) rfl)) (fun hg => he120)
          replace hs := hs.addL [elem true (elA (sl v3) i116 1) [(sl v121)], imm (RSl (RI .u8)) [sl v121] e119] rfl ⟨fun hg => ⟨hN123 hg, hC122 hg⟩, ⟨_, rfl, hR124 rfl⟩, trivial⟩
          replace hs := Sat.n11 (Γ := Φ) hs rfl
          refine WL_op (Run_idxAddr (p := (elA (sl v3) i116 1)) Try.underlying22 ti23 (Opd.t rfl) (Opd.t rfl) (fun hg => (SRd.atA (A := (RSl (RI .u8))) (v := (sl v3)) (hs.sl (i := 3) rfl) he120).1)) rfl rfl rfl rfl <| WL_op (Run_load1 (v := (sl v121)) Try.underlying23 rfl (Opd.t rfl) (fun hg => ((hs.elem (i := 0) rfl) hg).sub 0 rfl)) rfl rfl rfl rfl <| WL_op (Run_lenSlG Try.underlying23 (Opd.t rfl) (fun hg => (hs.sl (i := 1) rfl).len)) rfl rfl rfl rfl <| WL_op (Run_move (Opd.t rfl)) rfl rfl rfl rfl <| WL_op (Run_neI (Opd.t rfl) (Opd.t rfl)) rfl rfl rfl rfl <| ?_
          refine WL_nil ?_
          refine At_then ?_
          refine WC_cond (Opd.t rfl) (fun hc125 => ?_) (fun hc125 => ?_)
          ·
            replace hm := bif_t hc125 hm
            refine WC_seq ?_
            refine WC_region ?_
            refine WL_op (Run_move (Opd.t rfl)) rfl rfl rfl rfl <| WL_op (Run_assign (Opd.t rfl)) rfl rfl rfl rfl <| ?_
            refine WL_nil ?_
            refine At_then ?_
            refine WC_ret ?_
            refine At_then_ret <| At_blk_ret <| At_then_ret <| At_then_ret <| At_blk_ret <| At_then_ret <| ?_
            refine At_r1 rfl (ResIs.t rfl) ?_
            cases hm
            exact ⟨rfl, (hs.re 11 [] rfl)⟩
          ·
            replace hm := bif_f hc125 hm
            refine WC_skip ?_
            refine At_then ?_
            refine WC_seq ?_
            refine WC_region_mixed [0, 0, 0, 6, 8, 17, 32, 64, 64, 64, 0, 1279, 3583, 8191] (.q 0 0 (.q 1 1 (.q 2 3 (.q 3 7 (.q 4 15 (.l2 31 5 (.q 6 63 (.q 7 127 (.q 8 255 (.q 9 511 (.l 10 1023 (.l 11 2047 (.q 12 4095 (.q 13 8191 .nil)))))))) 10 (.l 5 1055 (.q 6 1087 (.q 7 1151 (.q 8 1279 (.q 9 1535 (.l 11 2047 (.q 12 4095 (.q 13 8191 .nil)))))))))))))) (by kernel_rfl) (by kernel_rfl) ?_
            intro w126 hx127
            replace hs := hs.ext hx127
            refine WD_op (fun w => CellsAt w ⟨b61, 0, none⟩ [(.int .i64 c113), (sl v115)]) ((hs.box (i := 6) rfl).part 0 rfl) (fun _ hJ => (Run_loadA (vs := [(.int .i64 c113), (sl v115)]) Try.underlying34 rfl ti34 (Opd.t rfl) (fun _ => hJ) rfl)) rfl rfl rfl rfl <| WD_pure (fun _ => (Run_move (Opd.t rfl))) rfl rfl rfl rfl <| WD_pure (fun _ => (Run_move (Opd.t rfl))) rfl rfl rfl rfl <| ?_
            obtain ⟨e128, he129, hm⟩ := bind_some' hm
            obtain ⟨v130, hC131, hN132, hR133⟩ := cellsM23 (g := true) (fun hg => (hs.sl (i := 3) rfl)) (fun hg => he129)
            replace hs := hs.addL [elem true (elA (sl v3) i116 1) [(sl v130)], imm (RSl (RI .u8)) [sl v130] e128] rfl ⟨fun hg => ⟨hN132 hg, hC131 hg⟩, ⟨_, rfl, hR133 rfl⟩, trivial⟩
            replace hs := Sat.n13 (Γ := Φ) hs rfl
            refine WD_pure (fun _ => (Run_idxAddr (p := (elA (sl v3) i116 1)) Try.underlying22 ti23 (Opd.t rfl) (Opd.t rfl) (fun hg => (SRd.atA (A := (RSl (RI .u8))) (v := (sl v3)) (hs.sl (i := 5) rfl) he129).1))) rfl rfl rfl rfl <| WD_op (fun w => true = true → CellsAt w (elA (sl v3) i116 1) [(sl v130)]) (fun hg => ((hs.elem (i := 0) rfl) hg).sub 0 rfl) (fun _ hJ => (Run_load1 (v := (sl v130)) Try.underlying23 rfl (Opd.t rfl) hJ)) rfl rfl rfl rfl <| ?_
            refine WD_loud2 ?_ ?_
            ·
              refine WD_loud (pend' := []) rfl (by kernel_rfl) ?_
              obtain ⟨r134, hr135, hm⟩ := bind_some' hm
              refine WL_call (f := 14) (first := []) (cap := []) (xs := [(.tmp 127), (.tmp 131)]) (vs := [(.agg #[(.int .i64 c113), (sl v115)]), (sl v130)]) (args := [(.agg #[(.int .i64 c113), (sl v115)]), (sl v130)]) Try.call14 Opd.f (.cons (Opd.t rfl) (.cons (Opd.t rfl) .nil)) rfl rfl (scrutinyref09_Insert_ok (s := (c113, c114)) (hs.re 13 [9, 1, 0, 1, 2, 3, 4, 5, 6, 7, 8, 9, 10, 11, 12] rfl) hr135) ?_
              rintro _ w137 ⟨v136, rfl, hs⟩
              replace hs := Sat.n14 (Γ := Φ) hs rfl
              refine WL_nil ?_
              refine At_QK allJ_nil ?_
              refine WD_pure (fun _ => (Run_move (Opd.t rfl))) rfl rfl rfl rfl <| WD_pure (fun _ => (Run_extract (vs := [(.agg #[(.int .i64 r134.1.1), (sl v136)]), (.bool r134.2.1), (.int .i64 r134.2.2)]) (Opd.t rfl) rfl)) rfl rfl rfl rfl <| WD_pure (fun _ => (Run_extract (vs := [(.agg #[(.int .i64 r134.1.1), (sl v136)]), (.bool r134.2.1), (.int .i64 r134.2.2)]) (Opd.t rfl) rfl)) rfl rfl rfl rfl <| WD_pure (fun _ => (Run_extract (vs := [(.agg #[(.int .i64 r134.1.1), (sl v136)]), (.bool r134.2.1), (.int .i64 r134.2.2)]) (Opd.t rfl) rfl)) rfl rfl rfl rfl <| ?_
              refine WD_loud (pend' := []) rfl (by kernel_rfl) ?_
              refine WS_alloc (zs := [(.int .i64 0), (sl (none, 0, 0))]) hs ti34 rfl rfl ?_
              intro b138 w139 hs
              replace hs := Sat.n15 (Γ := Φ) hs rfl
              refine WL_nil ?_
              refine At_QK allJ_nil ?_
              refine WD_loud (pend' := []) rfl (by kernel_rfl) ?_
              refine WS_store (us := [(.int .i64 r134.1.1), (sl v136)]) (vs' := [(.int .i64 r134.1.1), (sl v136)]) hs 0 rfl ti34 (Opd.t rfl) (Opd.t rfl) rfl rfl rfl rfl rfl ?_
              intro w140 hs
              replace hs := Sat.n15 (Γ := Φ) hs rfl
              refine WL_nil ?_
              refine At_QK allJ_nil ?_
              refine WD_pure (fun _ => (Run_assign (Opd.t rfl))) rfl rfl rfl rfl <| WD_pure (fun _ => (Run_assign (Opd.t rfl))) rfl rfl rfl rfl <| ?_
              refine WD_nil ?_
              refine At_then ?_
              refine WC_region ?_
              refine WL_op (Run_loadA (vs := [(.int .i64 r134.1.1), (sl v136)]) Try.underlying34 rfl ti34 (Opd.t rfl) (fun _ => (hs.box (i := 0) rfl).part 0 rfl) rfl) rfl rfl rfl rfl <| ?_
              refine WS_store (us := [(.int .i64 r134.1.1), (sl v136)]) (vs' := [(.int .i64 r134.1.1), (sl v136)]) hs 10 rfl ti34 (Opd.t rfl) (Opd.t rfl) rfl rfl rfl rfl rfl ?_
              intro w141 hs
              replace hs := Sat.n15 (Γ := Φ) hs rfl
              refine WL_nil ?_
              refine At_blk_normal ?_
              refine At_then ?_
              refine WC_region ?_
              refine WL_op (Run_move (Opd.t rfl)) rfl rfl rfl rfl <| WL_op (Run_add (Opd.t rfl) Opd.c) rfl rfl rfl rfl <| WL_op (Run_assign (Opd.t rfl)) rfl rfl rfl rfl <| ?_
              refine WL_nil ?_
              exact At_again (r134.1.1, r134.1.2, (IntKind.i64.wrap (i116 + 1))) v136 hm (hs.re 15 [6, 7, 8, 9, 10, 1, 12, 13, 14] rfl) rfl
            ·
              refine WD_loud (pend' := [(4, fun w => true = true → CellsAt w (elA (sl v3) i116 1) [(sl v130)]), (0, fun w => CellsAt w ⟨b61, 0, none⟩ [(.int .i64 c113), (sl v115)])]) rfl (by kernel_rfl) ?_
              refine WS_alloc (zs := [(.int .i64 0), (sl (none, 0, 0))]) hs ti34 rfl rfl ?_
              intro b142 w143 hs
              replace hs := Sat.n14 (Γ := Φ) hs rfl
              refine WL_nil ?_
              refine At_QK (allJ_cons (fun hg => ((hs.elem (i := 1) rfl) hg).sub 0 rfl) (allJ_cons ((hs.box (i := 9) rfl).part 0 rfl) allJ_nil)) ?_
              refine WD_loud (pend' := []) rfl (by kernel_rfl) ?_
              obtain ⟨r144, hr145, hm⟩ := bind_some' hm
              refine WL_call (f := 14) (first := []) (cap := []) (xs := [(.tmp 127), (.tmp 131)]) (vs := [(.agg #[(.int .i64 c113), (sl v115)]), (sl v130)]) (args := [(.agg #[(.int .i64 c113), (sl v115)]), (sl v130)]) Try.call14 Opd.f (.cons (Opd.t rfl) (.cons (Opd.t rfl) .nil)) rfl rfl (scrutinyref09_Insert_ok (s := (c113, c114)) (hs.re 14 [10, 2, 0, 1, 2, 3, 4, 5, 6, 7, 8, 9, 10, 11, 12, 13] rfl) hr145) ?_
              rintro _ w147 ⟨v146, rfl, hs⟩
              replace hs := Sat.n15 (Γ := Φ) hs rfl
              refine WL_nil ?_
              refine At_QK allJ_nil ?_
              refine WD_pure (fun _ => (Run_move (Opd.t rfl))) rfl rfl rfl rfl <| WD_pure (fun _ => (Run_extract (vs := [(.agg #[(.int .i64 r144.1.1), (sl v146)]), (.bool r144.2.1), (.int .i64 r144.2.2)]) (Opd.t rfl) rfl)) rfl rfl rfl rfl <| WD_pure (fun _ => (Run_extract (vs := [(.agg #[(.int .i64 r144.1.1), (sl v146)]), (.bool r144.2.1), (.int .i64 r144.2.2)]) (Opd.t rfl) rfl)) rfl rfl rfl rfl <| WD_pure (fun _ => (Run_extract (vs := [(.agg #[(.int .i64 r144.1.1), (sl v146)]), (.bool r144.2.1), (.int .i64 r144.2.2)]) (Opd.t rfl) rfl)) rfl rfl rfl rfl <| ?_
              refine WD_loud (pend' := []) rfl (by kernel_rfl) ?_
              refine WS_store (us := [(.int .i64 r144.1.1), (sl v146)]) (vs' := [(.int .i64 r144.1.1), (sl v146)]) hs 1 rfl ti34 (Opd.t rfl) (Opd.t rfl) rfl rfl rfl rfl rfl ?_
              intro w148 hs
              replace hs := Sat.n15 (Γ := Φ) hs rfl
              refine WL_nil ?_
              refine At_QK allJ_nil ?_
              refine WD_pure (fun _ => (Run_assign (Opd.t rfl))) rfl rfl rfl rfl <| WD_pure (fun _ => (Run_assign (Opd.t rfl))) rfl rfl rfl rfl <| ?_
              refine WD_nil ?_
              refine At_then ?_
              refine WC_region ?_
              refine WL_op (Run_loadA (vs := [(.int .i64 r144.1.1), (sl v146)]) Try.underlying34 rfl ti34 (Opd.t rfl) (fun _ => (hs.box (i := 1) rfl).part 0 rfl) rfl) rfl rfl rfl rfl <| ?_
              refine WS_store (us := [(.int .i64 r144.1.1), (sl v146)]) (vs' := [(.int .i64 r144.1.1), (sl v146)]) hs 10 rfl ti34 (Opd.t rfl) (Opd.t rfl) rfl rfl rfl rfl rfl ?_
              intro w149 hs
              replace hs := Sat.n15 (Γ := Φ) hs rfl
              refine WL_nil ?_
              refine At_blk_normal ?_
              refine At_then ?_
              refine WC_region ?_
              refine WL_op (Run_move (Opd.t rfl)) rfl rfl rfl rfl <| WL_op (Run_add (Opd.t rfl) Opd.c) rfl rfl rfl rfl <| WL_op (Run_assign (Opd.t rfl)) rfl rfl rfl rfl <| ?_
              refine WL_nil ?_
              exact At_again (r144.1.1, r144.1.2, (IntKind.i64.wrap (i116 + 1))) v146 hm (hs.re 15 [6, 7, 8, 9, 10, 0, 12, 13, 14] rfl) rfl
        ·
          replace hm := bif_f hc118 hm
          refine WC_exit ?_
          refine At_then_exit <| At_then_exit <| At_blk_here <| ?_
          refine At_then ?_
          refine WC_seq ?_
          refine WC_seq ?_
          refine WC_region ?_
          refine WL_op (Run_assign Opd.c) rfl rfl rfl rfl <| ?_
          refine WL_nil ?_
          refine At_then ?_
          refine WC_block ?_
          replace hs := hs.freeze (i := 7) rfl
          replace hs := hs.freeze (i := 8) rfl
          refine WC_loop (σ := Int × (List ((List (Int × Int)) × Int)) × Int × Int × (List Int) × Int) (γ := SLV × SLV) (F := (scrutinylaw09_DfaTails_L3 a b r3 r64 c75 c76 c113 c114)) (N := FUEL) (s0 := (r64.1.1, r64.1.2.1, r64.1.2.2.1, r64.1.2.2.2.1, r64.1.2.2.2.2, 0)) (r := r) (fun ⟨c151, c152, c154, c155, c156, i158⟩ ⟨v153, v157⟩ w150 => Sat (imm (RSl (RSl (RI .u8))) [sl v1] a :: imm (RSl (RSl (RI .u8))) [sl v3] b :: box b53 34 [(.int .i64 c75), (sl v77)] :: imm (RSl (RSl (RI .u8))) [sl v77] c76 :: box b61 34 [(.int .i64 c113), (sl v115)] :: imm (RSl (RSl (RI .u8))) [sl v115] c114 :: box b71 29 [(.int .i64 c151), (sl v153), (.int .i64 c154), (.int .i64 c155), (sl v157)] :: imm (RSl (RP (RSl (RP (RI .u8) (RI .i64))) (RI .i64))) [sl v153] c152 :: imm (RSl (RI .i64)) [sl v157] c156 :: Φ) w150) (fun ⟨c151, c152, c154, c155, c156, i158⟩ ⟨v153, v157⟩ => [(0, true, (sl v1)), (1, true, (sl v3)), (5, true, (.bool r3)), (8, true, (.pointer (some ⟨b53, 0, none⟩))), (10, true, (.pointer (some ⟨b61, 0, none⟩))), (12, true, (.pointer (some ⟨b71, 0, none⟩))), (13, true, (.int .i64 r64.2)), (22, true, (.int .i64 i158))]) hm (v66, v68) (hs.re 9 [0, 1, 2, 3, 4, 5, 6, 7, 8] rfl) rfl ?_
          rintro again159 ⟨c151, c152, c154, c155, c156, i158⟩ ⟨v153, v157⟩ w150 hm hs
          unfold scrutinylaw09_DfaTails_L3 at hm
          dsimp only at hm
          refine WC_seq ?_
          refine WC_seq ?_
          refine WC_region ?_
          refine WL_op (Run_move (Opd.t rfl)) rfl rfl rfl rfl <| WL_op (Run_move (Opd.t rfl)) rfl rfl rfl rfl <| WL_op (Run_lenSlG Try.underlying22 (Opd.t rfl) (fun hg => (hs.sl (i := 0) rfl).len)) rfl rfl rfl rfl <| WL_op (Run_ltI (Opd.t rfl) (Opd.t rfl)) rfl rfl rfl rfl <| ?_
          refine WL_nil ?_
          refine At_then ?_
          refine WC_cond (Opd.t rfl) (fun hc160 => ?_) (fun hc160 => ?_)
          ·
            replace hm := bif_t hc160 hm
            refine WC_skip ?_
            refine At_then ?_
            refine WC_seq ?_
            refine WC_block ?_
            refine WC_seq ?_
            refine WC_region ?_
            refine WL_op (Run_assign Opd.c) rfl rfl rfl rfl <| ?_
            refine WL_nil ?_
            refine At_then ?_
            refine WC_block ?_
            refine WC_loop (σ := Int × (List ((List (Int × Int)) × Int)) × Int × Int × (List Int) × Int) (γ := SLV × SLV) (F := (scrutinylaw09_DfaTails_L4 a b i158 again159)) (N := FUEL) (s0 := (c151, c152, c154, c155, c156, 0)) (r := r) (fun ⟨c162, c163, c165, c166, c167, k169⟩ ⟨v164, v168⟩ w161 => Sat (imm (RSl (RSl (RI .u8))) [sl v1] a :: imm (RSl (RSl (RI .u8))) [sl v3] b :: box b53 34 [(.int .i64 c75), (sl v77)] :: imm (RSl (RSl (RI .u8))) [sl v77] c76 :: box b61 34 [(.int .i64 c113), (sl v115)] :: imm (RSl (RSl (RI .u8))) [sl v115] c114 :: box b71 29 [(.int .i64 c162), (sl v164), (.int .i64 c165), (.int .i64 c166), (sl v168)] :: imm (RSl (RP (RSl (RP (RI .u8) (RI .i64))) (RI .i64))) [sl v164] c163 :: imm (RSl (RI .i64)) [sl v168] c167 :: Φ) w161) (fun ⟨c162, c163, c165, c166, c167, k169⟩ ⟨v164, v168⟩ => [(0, true, (sl v1)), (1, true, (sl v3)), (5, true, (.bool r3)), (8, true, (.pointer (some ⟨b53, 0, none⟩))), (10, true, (.pointer (some ⟨b61, 0, none⟩))), (12, true, (.pointer (some ⟨b71, 0, none⟩))), (13, true, (.int .i64 r64.2)), (22, true, (.int .i64 i158)), (23, true, (.int .i64 k169))]) hm (v153, v157) (hs.re 9 [0, 1, 2, 3, 4, 5, 6, 7, 8] rfl) rfl ?_
            rintro again170 ⟨c162, c163, c165, c166, c167, k169⟩ ⟨v164, v168⟩ w161 hm hs
            unfold scrutinylaw09_DfaTails_L4 at hm
            dsimp only at hm
            refine WC_seq ?_
            refine WC_seq ?_
            refine WC_region ?_
            refine WL_op (Run_move (Opd.t rfl)) rfl rfl rfl rfl <| WL_op (Run_move (Opd.t rfl)) rfl rfl rfl rfl <| WL_op (Run_lenSlG Try.underlying22 (Opd.t rfl) (fun hg => (hs.sl (i := 1) rfl).len)) rfl rfl rfl rfl <| WL_op (Run_ltI (Opd.t rfl) (Opd.t rfl)) rfl rfl rfl rfl <| ?_
            refine WL_nil ?_
            refine At_then ?_
            refine WC_cond (Opd.t rfl) (fun hc171 => ?_) (fun hc171 => ?_)
            ·
              replace hm := bif_t hc171 hm
              refine WC_skip ?_
              refine At_then ?_
              refine WC_seq ?_
              refine WC_block ?_
              refine WC_seq ?_
              refine WC_region_mixed [0, 0, 0, 0, 12, 16, 34, 0, 0, 384, 512, 1088, 2049, 4096, 8192, 8192, 8192, 0, 163839, 458751, 1048575] (.q 0 0 (.q 2 1 (.q 3 5 (.q 4 13 (.q 5 29 (.q 7 61 (.q 8 189 (.q 9 445 (.q 10 957 (.l2 1981 1 (.l2 1983 6 (.l2 2047 11 (.l2 4095 12 (.q 13 8191 (.q 14 16383 (.q 15 32767 (.q 16 65535 (.l 17 131071 (.l 18 262143 (.q 19 524287 (.q 20 1048575 .nil)))))))) 17 (.l 12 135167 (.q 13 139263 (.q 14 147455 (.q 15 163839 (.q 16 196607 (.l 18 262143 (.q 19 524287 (.q 20 1048575 .nil))))))))) 17 (.l 11 133119 (.l 12 135167 (.q 13 139263 (.q 14 147455 (.q 15 163839 (.q 16 196607 (.l 18 262143 (.q 19 524287 (.q 20 1048575 .nil)))))))))) 17 (.l 6 133055 (.l 11 133119 (.l 12 135167 (.q 13 139263 (.q 14 147455 (.q 15 163839 (.q 16 196607 (.l 18 262143 (.q 19 524287 (.q 20 1048575 .nil))))))))))) 17 (.l 1 133053 (.l 6 133055 (.l 11 133119 (.l 12 135167 (.q 13 139263 (.q 14 147455 (.q 15 163839 (.q 16 196607 (.l 18 262143 (.q 19 524287 (.q 20 1048575 .nil))))))))))))))))))))) (by kernel_rfl) (by kernel_rfl) ?_
              intro w172 hx173
              replace hs := hs.ext hx173
              refine WD_op (fun w => CellsAt w ⟨b71, 0, none⟩ [(.int .i64 c162), (sl v164), (.int .i64 c165), (.int .i64 c166), (sl v168)]) ((hs.box (i := 6) rfl).part 0 rfl) (fun _ hJ => (Run_loadA (vs := [(.int .i64 c162), (sl v164), (.int .i64 c165), (.int .i64 c166), (sl v168)]) Try.underlying29 rfl ti29 (Opd.t rfl) (fun _ => hJ) rfl)) rfl rfl rfl rfl <| WD_pure (fun _ => (Run_move (Opd.t rfl))) rfl rfl rfl rfl <| WD_pure (fun _ => (Run_move (Opd.t rfl))) rfl rfl rfl rfl <| ?_
              obtain ⟨e174, he175, hm⟩ := bind_some' hm
              obtain ⟨v176, hC177, hN178, hR179⟩ := cellsM23 (g := true) (fun hg => (hs.sl (i := 0) rfl)) (fun hg => he175)
              replace hs := hs.addL [elem true (elA (sl v1) i158 1) [(sl v176)], imm (RSl (RI .u8)) [sl v176] e174] rfl ⟨fun hg => ⟨hN178 hg, hC177 hg⟩, ⟨_, rfl, hR179 rfl⟩, trivial⟩
              replace hs := Sat.n11 (Γ := Φ) hs rfl
              refine WD_pure (fun _ => (Run_idxAddr (p := (elA (sl v1) i158 1)) Try.underlying22 ti23 (Opd.t rfl) (Opd.t rfl) (fun hg => (SRd.atA (A := (RSl (RI .u8))) (v := (sl v1)) (hs.sl (i := 2) rfl) he175).1))) rfl rfl rfl rfl <| WD_op (fun w => true = true → CellsAt w (elA (sl v1) i158 1) [(sl v176)]) (fun hg => ((hs.elem (i := 0) rfl) hg).sub 0 rfl) (fun _ hJ => (Run_load1 (v := (sl v176)) Try.underlying23 rfl (Opd.t rfl) hJ)) rfl rfl rfl rfl <| WD_pure (fun _ => (Run_move (Opd.t rfl))) rfl rfl rfl rfl <| WD_pure (fun _ => (Run_move (Opd.t rfl))) rfl rfl rfl rfl <| ?_
              obtain ⟨e180, he181, hm⟩ := bind_some' hm
              obtain ⟨v182, hC183, hN184, hR185⟩ := cellsM23 (g := true) (fun hg => (hs.sl (i := 3) rfl)) (fun hg => he181)
              replace hs := hs.addL [elem true (elA (sl v3) k169 1) [(sl v182)], imm (RSl (RI .u8)) [sl v182] e180] rfl ⟨fun hg => ⟨hN184 hg, hC183 hg⟩, ⟨_, rfl, hR185 rfl⟩, trivial⟩
              replace hs := Sat.n13 (Γ := Φ) hs rfl
              refine WD_pure (fun _ => (Run_idxAddr (p := (elA (sl v3) k169 1)) Try.underlying22 ti23 (Opd.t rfl) (Opd.t rfl) (fun hg => (SRd.atA (A := (RSl (RI .u8))) (v := (sl v3)) (hs.sl (i := 5) rfl) he181).1))) rfl rfl rfl rfl <| WD_op (fun w => true = true → CellsAt w (elA (sl v3) k169 1) [(sl v182)]) (fun hg => ((hs.elem (i := 0) rfl) hg).sub 0 rfl) (fun _ hJ => (Run_load1 (v := (sl v182)) Try.underlying23 rfl (Opd.t rfl) hJ)) rfl rfl rfl rfl <| ?_
              refine WD_loud2 ?_ ?_
              ·
                refine WD_loud (pend' := [(10, fun w => true = true → CellsAt w (elA (sl v3) k169 1) [(sl v182)]), (5, fun w => true = true → CellsAt w (elA (sl v1) i158 1) [(sl v176)]), (0, fun w => CellsAt w ⟨b71, 0, none⟩ [(.int .i64 c162), (sl v164), (.int .i64 c165), (.int .i64 c166), (sl v168)])]) rfl (by kernel_rfl) ?_
                refine WS_lit0 (A := (RI .u8)) hs Try.underlying23 ti5 rfl ?_
                intro b186 w187 hs
                replace hs := Sat.n14 (Γ := Φ) hs rfl
                refine WL_nil ?_
                refine At_QK (allJ_cons (fun hg => ((hs.elem (i := 1) rfl) hg).sub 0 rfl) (allJ_cons (fun hg => ((hs.elem (i := 3) rfl) hg).sub 0 rfl) (allJ_cons ((hs.box (i := 11) rfl).part 0 rfl) allJ_nil))) ?_
                refine WD_loud2 ?_ ?_
                ·
                  refine WD_loud (pend' := [(10, fun w => true = true → CellsAt w (elA (sl v3) k169 1) [(sl v182)]), (0, fun w => CellsAt w ⟨b71, 0, none⟩ [(.int .i64 c162), (sl v164), (.int .i64 c165), (.int .i64 c166), (sl v168)])]) rfl (by kernel_rfl) ?_
                  obtain ⟨k188, hm⟩ := chk_some hm
                  refine WS_append (A := (RI .u8)) hs 0 rfl Try.underlying23 ti5 rfl rfl (Opd.t rfl) (Opd.t rfl) (hs.sl (i := 4) rfl) k188 rfl ?_
                  intro v189 R190 w191 hs
                  replace hs := Sat.n14 (Γ := Φ) hs rfl
                  refine WL_nil ?_
                  refine At_QK (allJ_cons (fun hg => ((hs.elem (i := 1) rfl) hg).sub 0 rfl) (allJ_cons ((hs.box (i := 11) rfl).part 0 rfl) allJ_nil)) ?_
                  refine WD_loud2 ?_ ?_
                  ·
                    refine WD_loud (pend' := [(0, fun w => CellsAt w ⟨b71, 0, none⟩ [(.int .i64 c162), (sl v164), (.int .i64 c165), (.int .i64 c166), (sl v168)])]) rfl (by kernel_rfl) ?_
                    obtain ⟨k192, hm⟩ := chk_some hm
                    refine WS_append (A := (RI .u8)) hs 0 rfl Try.underlying23 ti5 rfl rfl (Opd.t rfl) (Opd.t rfl) (hs.sl (i := 2) rfl) k192 rfl ?_
                    intro v193 R194 w195 hs
                    replace hs := Sat.n14 (Γ := Φ) hs rfl
                    refine WL_nil ?_
                    refine At_QK (allJ_cons ((hs.box (i := 11) rfl).part 0 rfl) allJ_nil) ?_
                    refine WD_loud2 ?_ ?_
                    ·
                      refine WD_loud (pend' := []) rfl (by kernel_rfl) ?_
                      replace hs := hs.freeze (i := 0) rfl
                      obtain ⟨r196, hr197, hm⟩ := bind_some' hm
                      refine WL_call (f := 13) (first := []) (cap := []) (xs := [(.tmp 150), (.tmp 161)]) (vs := [(.agg #[(.int .i64 c162), (sl v164), (.int .i64 c165), (.int .i64 c166), (sl v168)]), (sl v193)]) (args := [(.agg #[(.int .i64 c162), (sl v164), (.int .i64 c165), (.int .i64 c166), (sl v168)]), (sl v193)]) Try.call13 Opd.f (.cons (Opd.t rfl) (.cons (Opd.t rfl) .nil)) rfl rfl (dfa_Insert_ok (d := (c162, c163, c165, c166, c167)) (hs.re 14 [12, 13, 0, 0, 1, 2, 3, 4, 5, 6, 7, 8, 9, 10, 11, 12, 13] rfl) hr197) ?_
                      rintro _ w200 ⟨v198, v199, rfl, hs⟩
                      replace hs := Sat.n16 (Γ := Φ) hs rfl
                      refine WL_nil ?_
                      refine At_QK allJ_nil ?_
                      refine WD_pure (fun _ => (Run_move (Opd.t rfl))) rfl rfl rfl rfl <| WD_pure (fun _ => (Run_extract (vs := [(.agg #[(.int .i64 r196.1.1), (sl v198), (.int .i64 r196.1.2.2.1), (.int .i64 r196.1.2.2.2.1), (sl v199)]), (.bool r196.2.1), (.int .i64 r196.2.2)]) (Opd.t rfl) rfl)) rfl rfl rfl rfl <| WD_pure (fun _ => (Run_extract (vs := [(.agg #[(.int .i64 r196.1.1), (sl v198), (.int .i64 r196.1.2.2.1), (.int .i64 r196.1.2.2.2.1), (sl v199)]), (.bool r196.2.1), (.int .i64 r196.2.2)]) (Opd.t rfl) rfl)) rfl rfl rfl rfl <| WD_pure (fun _ => (Run_extract (vs := [(.agg #[(.int .i64 r196.1.1), (sl v198), (.int .i64 r196.1.2.2.1), (.int .i64 r196.1.2.2.2.1), (sl v199)]), (.bool r196.2.1), (.int .i64 r196.2.2)]) (Opd.t rfl) rfl)) rfl rfl rfl rfl <| ?_
                      refine WD_loud (pend' := []) rfl (by kernel_rfl) ?_
                      refine WS_alloc (zs := [(.int .i64 0), (sl (none, 0, 0)), (.int .i64 0), (.int .i64 0), (sl (none, 0, 0))]) hs ti29 rfl rfl ?_
                      intro b201 w202 hs
                      replace hs := Sat.n17 (Γ := Φ) hs rfl
                      refine WL_nil ?_
                      refine At_QK allJ_nil ?_
                      refine WD_loud (pend' := []) rfl (by kernel_rfl) ?_
                      refine WS_store (us := [(.int .i64 r196.1.1), (sl v198), (.int .i64 r196.1.2.2.1), (.int .i64 r196.1.2.2.2.1), (sl v199)]) (vs' := [(.int .i64 r196.1.1), (sl v198), (.int .i64 r196.1.2.2.1), (.int .i64 r196.1.2.2.2.1), (sl v199)]) hs 0 rfl ti29 (Opd.t rfl) (Opd.t rfl) rfl rfl rfl rfl rfl ?_
                      intro w203 hs
                      replace hs := Sat.n17 (Γ := Φ) hs rfl
                      refine WL_nil ?_
                      refine At_QK allJ_nil ?_
                      refine WD_pure (fun _ => (Run_assign (Opd.t rfl))) rfl rfl rfl rfl <| WD_pure (fun _ => (Run_assign (Opd.t rfl))) rfl rfl rfl rfl <| ?_
                      refine WD_nil ?_
                      refine At_then ?_
                      refine WC_seq ?_
                      refine WC_seq ?_
                      refine WC_region ?_
                      refine WL_op (Run_move (Opd.t rfl)) rfl rfl rfl rfl <| WL_op (Run_neI (Opd.t rfl) Opd.c) rfl rfl rfl rfl <| ?_
                      refine WL_nil ?_
                      refine At_then ?_
                      refine WC_cond (Opd.t rfl) (fun hc204 => ?_) (fun hc204 => ?_)
                      ·
                        replace hm := bif_t hc204 hm
                        refine WC_seq ?_
                        refine WC_region ?_
                        refine WL_op (Run_assign Opd.c) rfl rfl rfl rfl <| ?_
                        refine WL_nil ?_
                        refine At_then ?_
                        refine WC_ret ?_
                        refine At_then_ret <| At_blk_ret <| At_then_ret <| At_then_ret <| At_blk_ret <| At_blk_ret <| At_then_ret <| At_then_ret <| At_blk_ret <| At_then_ret <| ?_
                        refine At_r1 rfl (ResIs.t rfl) ?_
                        cases hm
                        exact ⟨rfl, (hs.re 17 [] rfl)⟩
                      ·
                        replace hm := bif_f hc204 hm
                        refine WC_skip ?_
                        refine At_then ?_
                        refine WC_region ?_
                        refine WL_op (Run_loadA (vs := [(.int .i64 r196.1.1), (sl v198), (.int .i64 r196.1.2.2.1), (.int .i64 r196.1.2.2.2.1), (sl v199)]) Try.underlying29 rfl ti29 (Opd.t rfl) (fun _ => (hs.box (i := 0) rfl).part 0 rfl) rfl) rfl rfl rfl rfl <| ?_
                        refine WS_store (us := [(.int .i64 r196.1.1), (sl v198), (.int .i64 r196.1.2.2.1), (.int .i64 r196.1.2.2.2.1), (sl v199)]) (vs' := [(.int .i64 r196.1.1), (sl v198), (.int .i64 r196.1.2.2.1), (.int .i64 r196.1.2.2.2.1), (sl v199)]) hs 14 rfl ti29 (Opd.t rfl) (Opd.t rfl) rfl rfl rfl rfl rfl ?_
                        intro w205 hs
                        replace hs := Sat.n17 (Γ := Φ) hs rfl
                        refine WL_nil ?_
                        refine At_blk_normal ?_
                        refine At_then ?_
                        refine WC_region ?_
                        refine WL_op (Run_move (Opd.t rfl)) rfl rfl rfl rfl <| WL_op (Run_add (Opd.t rfl) Opd.c) rfl rfl rfl rfl <| WL_op (Run_assign (Opd.t rfl)) rfl rfl rfl rfl <| ?_
                        refine WL_nil ?_
                        exact At_again (r196.1.1, r196.1.2.1, r196.1.2.2.1, r196.1.2.2.2.1, r196.1.2.2.2.2, (IntKind.i64.wrap (k169 + 1))) (v198, v199) hm (hs.re 17 [8, 9, 10, 11, 12, 13, 14, 1, 2] rfl) rfl
                    ·
                      refine WD_loud (pend' := [(0, fun w => CellsAt w ⟨b71, 0, none⟩ [(.int .i64 c162), (sl v164), (.int .i64 c165), (.int .i64 c166), (sl v168)])]) rfl (by kernel_rfl) ?_
                      refine WS_alloc (zs := [(.int .i64 0), (sl (none, 0, 0)), (.int .i64 0), (.int .i64 0), (sl (none, 0, 0))]) hs ti29 rfl rfl ?_
                      intro b206 w207 hs
                      replace hs := Sat.n15 (Γ := Φ) hs rfl
                      refine WL_nil ?_
                      refine At_QK (allJ_cons ((hs.box (i := 12) rfl).part 0 rfl) allJ_nil) ?_
                      refine WD_loud (pend' := []) rfl (by kernel_rfl) ?_
                      replace hs := hs.freeze (i := 1) rfl
                      obtain ⟨r208, hr209, hm⟩ := bind_some' hm
                      refine WL_call (f := 13) (first := []) (cap := []) (xs := [(.tmp 150), (.tmp 161)]) (vs := [(.agg #[(.int .i64 c162), (sl v164), (.int .i64 c165), (.int .i64 c166), (sl v168)]), (sl v193)]) (args := [(.agg #[(.int .i64 c162), (sl v164), (.int .i64 c165), (.int .i64 c166), (sl v168)]), (sl v193)]) Try.call13 Opd.f (.cons (Opd.t rfl) (.cons (Opd.t rfl) .nil)) rfl rfl (dfa_Insert_ok (d := (c162, c163, c165, c166, c167)) (hs.re 15 [13, 14, 1, 0, 1, 2, 3, 4, 5, 6, 7, 8, 9, 10, 11, 12, 13, 14] rfl) hr209) ?_
                      rintro _ w212 ⟨v210, v211, rfl, hs⟩
                      replace hs := Sat.n17 (Γ := Φ) hs rfl
                      refine WL_nil ?_
                      refine At_QK allJ_nil ?_
                      refine WD_pure (fun _ => (Run_move (Opd.t rfl))) rfl rfl rfl rfl <| WD_pure (fun _ => (Run_extract (vs := [(.agg #[(.int .i64 r208.1.1), (sl v210), (.int .i64 r208.1.2.2.1), (.int .i64 r208.1.2.2.2.1), (sl v211)]), (.bool r208.2.1), (.int .i64 r208.2.2)]) (Opd.t rfl) rfl)) rfl rfl rfl rfl <| WD_pure (fun _ => (Run_extract (vs := [(.agg #[(.int .i64 r208.1.1), (sl v210), (.int .i64 r208.1.2.2.1), (.int .i64 r208.1.2.2.2.1), (sl v211)]), (.bool r208.2.1), (.int .i64 r208.2.2)]) (Opd.t rfl) rfl)) rfl rfl rfl rfl <| WD_pure (fun _ => (Run_extract (vs := [(.agg #[(.int .i64 r208.1.1), (sl v210), (.int .i64 r208.1.2.2.1), (.int .i64 r208.1.2.2.2.1), (sl v211)]), (.bool r208.2.1), (.int .i64 r208.2.2)]) (Opd.t rfl) rfl)) rfl rfl rfl rfl <| ?_
                      refine WD_loud (pend' := []) rfl (by kernel_rfl) ?_
                      refine WS_store (us := [(.int .i64 r208.1.1), (sl v210), (.int .i64 r208.1.2.2.1), (.int .i64 r208.1.2.2.2.1), (sl v211)]) (vs' := [(.int .i64 r208.1.1), (sl v210), (.int .i64 r208.1.2.2.1), (.int .i64 r208.1.2.2.2.1), (sl v211)]) hs 2 rfl ti29 (Opd.t rfl) (Opd.t rfl) rfl rfl rfl rfl rfl ?_
                      intro w213 hs
                      replace hs := Sat.n17 (Γ := Φ) hs rfl
                      refine WL_nil ?_
                      refine At_QK allJ_nil ?_
                      refine WD_pure (fun _ => (Run_assign (Opd.t rfl))) rfl rfl rfl rfl <| WD_pure (fun _ => (Run_assign (Opd.t rfl))) rfl rfl rfl rfl <| ?_
                      refine WD_nil ?_
                      refine At_then ?_
                      refine WC_seq ?_
                      refine WC_seq ?_
                      refine WC_region ?_
                      refine WL_op (Run_move (Opd.t rfl)) rfl rfl rfl rfl <| WL_op (Run_neI (Opd.t rfl) Opd.c) rfl rfl rfl rfl <| ?_
                      refine WL_nil ?_
                      refine At_then ?_
                      refine WC_cond (Opd.t rfl) (fun hc214 => ?_) (fun hc214 => ?_)
                      ·
                        replace hm := bif_t hc214 hm
                        refine WC_seq ?_
                        refine WC_region ?_
                        refine WL_op (Run_assign Opd.c) rfl rfl rfl rfl <| ?_
                        refine WL_nil ?_
                        refine At_then ?_
                        refine WC_ret ?_
                        refine At_then_ret <| At_blk_ret <| At_then_ret <| At_then_ret <| At_blk_ret <| At_blk_ret <| At_then_ret <| At_then_ret <| At_blk_ret <| At_then_ret <| ?_
                        refine At_r1 rfl (ResIs.t rfl) ?_
                        cases hm
                        exact ⟨rfl, (hs.re 17 [] rfl)⟩
                      ·
                        replace hm := bif_f hc214 hm
                        refine WC_skip ?_
                        refine At_then ?_
                        refine WC_region ?_
                        refine WL_op (Run_loadA (vs := [(.int .i64 r208.1.1), (sl v210), (.int .i64 r208.1.2.2.1), (.int .i64 r208.1.2.2.2.1), (sl v211)]) Try.underlying29 rfl ti29 (Opd.t rfl) (fun _ => (hs.box (i := 2) rfl).part 0 rfl) rfl) rfl rfl rfl rfl <| ?_
                        refine WS_store (us := [(.int .i64 r208.1.1), (sl v210), (.int .i64 r208.1.2.2.1), (.int .i64 r208.1.2.2.2.1), (sl v211)]) (vs' := [(.int .i64 r208.1.1), (sl v210), (.int .i64 r208.1.2.2.1), (.int .i64 r208.1.2.2.2.1), (sl v211)]) hs 14 rfl ti29 (Opd.t rfl) (Opd.t rfl) rfl rfl rfl rfl rfl ?_
                        intro w215 hs
                        replace hs := Sat.n17 (Γ := Φ) hs rfl
                        refine WL_nil ?_
                        refine At_blk_normal ?_
                        refine At_then ?_
                        refine WC_region ?_
                        refine WL_op (Run_move (Opd.t rfl)) rfl rfl rfl rfl <| WL_op (Run_add (Opd.t rfl) Opd.c) rfl rfl rfl rfl <| WL_op (Run_assign (Opd.t rfl)) rfl rfl rfl rfl <| ?_
                        refine WL_nil ?_
                        exact At_again (r208.1.1, r208.1.2.1, r208.1.2.2.1, r208.1.2.2.2.1, r208.1.2.2.2.2, (IntKind.i64.wrap (k169 + 1))) (v210, v211) hm (hs.re 17 [8, 9, 10, 11, 12, 13, 14, 0, 1] rfl) rfl
                  ·
                    refine WD_loud (pend' := [(10, fun w => true = true → CellsAt w (elA (sl v3) k169 1) [(sl v182)]), (0, fun w => CellsAt w ⟨b71, 0, none⟩ [(.int .i64 c162), (sl v164), (.int .i64 c165), (.int .i64 c166), (sl v168)])]) rfl (by kernel_rfl) ?_
                    refine WS_alloc (zs := [(.int .i64 0), (sl (none, 0, 0)), (.int .i64 0), (.int .i64 0), (sl (none, 0, 0))]) hs ti29 rfl rfl ?_
                    intro b216 w217 hs
                    replace hs := Sat.n15 (Γ := Φ) hs rfl
                    refine WL_nil ?_
                    refine At_QK (allJ_cons (fun hg => ((hs.elem (i := 2) rfl) hg).sub 0 rfl) (allJ_cons ((hs.box (i := 12) rfl).part 0 rfl) allJ_nil)) ?_
                    refine WD_loud (pend' := [(0, fun w => CellsAt w ⟨b71, 0, none⟩ [(.int .i64 c162), (sl v164), (.int .i64 c165), (.int .i64 c166), (sl v168)])]) rfl (by kernel_rfl) ?_
                    obtain ⟨k218, hm⟩ := chk_some hm
                    refine WS_append (A := (RI .u8)) hs 1 rfl Try.underlying23 ti5 rfl rfl (Opd.t rfl) (Opd.t rfl) (hs.sl (i := 3) rfl) k218 rfl ?_
                    intro v219 R220 w221 hs
                    replace hs := Sat.n15 (Γ := Φ) hs rfl
                    refine WL_nil ?_
                    refine At_QK (allJ_cons ((hs.box (i := 12) rfl).part 0 rfl) allJ_nil) ?_
                    refine WD_loud (pend' := []) rfl (by kernel_rfl) ?_
                    replace hs := hs.freeze (i := 1) rfl
                    obtain ⟨r222, hr223, hm⟩ := bind_some' hm
                    refine WL_call (f := 13) (first := []) (cap := []) (xs := [(.tmp 150), (.tmp 161)]) (vs := [(.agg #[(.int .i64 c162), (sl v164), (.int .i64 c165), (.int .i64 c166), (sl v168)]), (sl v219)]) (args := [(.agg #[(.int .i64 c162), (sl v164), (.int .i64 c165), (.int .i64 c166), (sl v168)]), (sl v219)]) Try.call13 Opd.f (.cons (Opd.t rfl) (.cons (Opd.t rfl) .nil)) rfl rfl (dfa_Insert_ok (d := (c162, c163, c165, c166, c167)) (hs.re 15 [13, 14, 1, 0, 1, 2, 3, 4, 5, 6, 7, 8, 9, 10, 11, 12, 13, 14] rfl) hr223) ?_
                    rintro _ w226 ⟨v224, v225, rfl, hs⟩
                    replace hs := Sat.n17 (Γ := Φ) hs rfl
                    refine WL_nil ?_
                    refine At_QK allJ_nil ?_
                    refine WD_pure (fun _ => (Run_move (Opd.t rfl))) rfl rfl rfl rfl <| WD_pure (fun _ => (Run_extract (vs := [(.agg #[(.int .i64 r222.1.1), (sl v224), (.int .i64 r222.1.2.2.1), (.int .i64 r222.1.2.2.2.1), (sl v225)]), (.bool r222.2.1), (.int .i64 r222.2.2)]) (Opd.t rfl) rfl)) rfl rfl rfl rfl <| WD_pure (fun _ => (Run_extract (vs := [(.agg #[(.int .i64 r222.1.1), (sl v224), (.int .i64 r222.1.2.2.1), (.int .i64 r222.1.2.2.2.1), (sl v225)]), (.bool r222.2.1), (.int .i64 r222.2.2)]) (Opd.t rfl) rfl)) rfl rfl rfl rfl <| WD_pure (fun _ => (Run_extract (vs := [(.agg #[(.int .i64 r222.1.1), (sl v224), (.int .i64 r222.1.2.2.1), (.int .i64 r222.1.2.2.2.1), (sl v225)]), (.bool r222.2.1), (.int .i64 r222.2.2)]) (Opd.t rfl) rfl)) rfl rfl rfl rfl <| ?_
                    refine WD_loud (pend' := []) rfl (by kernel_rfl) ?_
                    refine WS_store (us := [(.int .i64 r222.1.1), (sl v224), (.int .i64 r222.1.2.2.1), (.int .i64 r222.1.2.2.2.1), (sl v225)]) (vs' := [(.int .i64 r222.1.1), (sl v224), (.int .i64 r222.1.2.2.1), (.int .i64 r222.1.2.2.2.1), (sl v225)]) hs 2 rfl ti29 (Opd.t rfl) (Opd.t rfl) rfl rfl rfl rfl rfl ?_
                    intro w227 hs
                    replace hs := Sat.n17 (Γ := Φ) hs rfl
                    refine WL_nil ?_
                    refine At_QK allJ_nil ?_
                    refine WD_pure (fun _ => (Run_assign (Opd.t rfl))) rfl rfl rfl rfl <| WD_pure (fun _ => (Run_assign (Opd.t rfl))) rfl rfl rfl rfl <| ?_
                    refine WD_nil ?_
                    refine At_then ?_
                    refine WC_seq ?_
                    refine WC_seq ?_
                    refine WC_region ?_
                    refine WL_op (Run_move (Opd.t rfl)) rfl rfl rfl rfl <| WL_op (Run_neI (Opd.t rfl) Opd.c) rfl rfl rfl rfl <| ?_
                    refine WL_nil ?_
                    refine At_then ?_
                    refine WC_cond (Opd.t rfl) (fun hc228 => ?_) (fun hc228 => ?_)
                    ·
                      replace hm := bif_t hc228 hm
                      refine WC_seq ?_
                      refine WC_region ?_
                      refine WL_op (Run_assign Opd.c) rfl rfl rfl rfl <| ?_
                      refine WL_nil ?_
                      refine At_then ?_
                      refine WC_ret ?_
                      refine At_then_ret <| At_blk_ret <| At_then_ret <| At_then_ret <| At_blk_ret <| At_blk_ret <| At_then_ret <| At_then_ret <| At_blk_ret <| At_then_ret <| ?_
                      refine At_r1 rfl (ResIs.t rfl) ?_
                      cases hm
                      exact ⟨rfl, (hs.re 17 [] rfl)⟩
                    ·
                      replace hm := bif_f hc228 hm
                      refine WC_skip ?_
                      refine At_then ?_
                      refine WC_region ?_
                      refine WL_op (Run_loadA (vs := [(.int .i64 r222.1.1), (sl v224), (.int .i64 r222.1.2.2.1), (.int .i64 r222.1.2.2.2.1), (sl v225)]) Try.underlying29 rfl ti29 (Opd.t rfl) (fun _ => (hs.box (i := 2) rfl).part 0 rfl) rfl) rfl rfl rfl rfl <| ?_
                      refine WS_store (us := [(.int .i64 r222.1.1), (sl v224), (.int .i64 r222.1.2.2.1), (.int .i64 r222.1.2.2.2.1), (sl v225)]) (vs' := [(.int .i64 r222.1.1), (sl v224), (.int .i64 r222.1.2.2.1), (.int .i64 r222.1.2.2.2.1), (sl v225)]) hs 14 rfl ti29 (Opd.t rfl) (Opd.t rfl) rfl rfl rfl rfl rfl ?_
                      intro w229 hs
                      replace hs := Sat.n17 (Γ := Φ) hs rfl
                      refine WL_nil ?_
                      refine At_blk_normal ?_
                      refine At_then ?_
                      refine WC_region ?_
                      refine WL_op (Run_move (Opd.t rfl)) rfl rfl rfl rfl <| WL_op (Run_add (Opd.t rfl) Opd.c) rfl rfl rfl rfl <| WL_op (Run_assign (Opd.t rfl)) rfl rfl rfl rfl <| ?_
                      refine WL_nil ?_
                      exact At_again (r222.1.1, r222.1.2.1, r222.1.2.2.1, r222.1.2.2.2.1, r222.1.2.2.2.2, (IntKind.i64.wrap (k169 + 1))) (v224, v225) hm (hs.re 17 [8, 9, 10, 11, 12, 13, 14, 0, 1] rfl) rfl
                ·
                  refine WD_loud (pend' := [(10, fun w => true = true → CellsAt w (elA (sl v3) k169 1) [(sl v182)]), (5, fun w => true = true → CellsAt w (elA (sl v1) i158 1) [(sl v176)]), (0, fun w => CellsAt w ⟨b71, 0, none⟩ [(.int .i64 c162), (sl v164), (.int .i64 c165), (.int .i64 c166), (sl v168)])]) rfl (by kernel_rfl) ?_
                  refine WS_alloc (zs := [(.int .i64 0), (sl (none, 0, 0)), (.int .i64 0), (.int .i64 0), (sl (none, 0, 0))]) hs ti29 rfl rfl ?_
                  intro b230 w231 hs
                  replace hs := Sat.n15 (Γ := Φ) hs rfl
                  refine WL_nil ?_
                  refine At_QK (allJ_cons (fun hg => ((hs.elem (i := 2) rfl) hg).sub 0 rfl) (allJ_cons (fun hg => ((hs.elem (i := 4) rfl) hg).sub 0 rfl) (allJ_cons ((hs.box (i := 12) rfl).part 0 rfl) allJ_nil))) ?_
                  refine WD_loud (pend' := [(10, fun w => true = true → CellsAt w (elA (sl v3) k169 1) [(sl v182)]), (0, fun w => CellsAt w ⟨b71, 0, none⟩ [(.int .i64 c162), (sl v164), (.int .i64 c165), (.int .i64 c166), (sl v168)])]) rfl (by kernel_rfl) ?_
                  obtain ⟨k232, hm⟩ := chk_some hm
                  refine WS_append (A := (RI .u8)) hs 1 rfl Try.underlying23 ti5 rfl rfl (Opd.t rfl) (Opd.t rfl) (hs.sl (i := 5) rfl) k232 rfl ?_
                  intro v233 R234 w235 hs
                  replace hs := Sat.n15 (Γ := Φ) hs rfl
                  refine WL_nil ?_
                  refine At_QK (allJ_cons (fun hg => ((hs.elem (i := 2) rfl) hg).sub 0 rfl) (allJ_cons ((hs.box (i := 12) rfl).part 0 rfl) allJ_nil)) ?_
                  refine WD_loud (pend' := [(0, fun w => CellsAt w ⟨b71, 0, none⟩ [(.int .i64 c162), (sl v164), (.int .i64 c165), (.int .i64 c166), (sl v168)])]) rfl (by kernel_rfl) ?_
                  obtain ⟨k236, hm⟩ := chk_some hm
                  refine WS_append (A := (RI .u8)) hs 1 rfl Try.underlying23 ti5 rfl rfl (Opd.t rfl) (Opd.t rfl) (hs.sl (i := 3) rfl) k236 rfl ?_
                  intro v237 R238 w239 hs
                  replace hs := Sat.n15 (Γ := Φ) hs rfl
                  refine WL_nil ?_
                  refine At_QK (allJ_cons ((hs.box (i := 12) rfl).part 0 rfl) allJ_nil) ?_
                  refine WD_loud (pend' := []) rfl (by kernel_rfl) ?_
                  replace hs := hs.freeze (i := 1) rfl
                  obtain ⟨r240, hr241, hm⟩ := bind_some' hm
                  refine WL_call (f := 13) (first := []) (cap := []) (xs := [(.tmp 150), (.tmp 161)]) (vs := [(.agg #[(.int .i64 c162), (sl v164), (.int .i64 c165), (.int .i64 c166), (sl v168)]), (sl v237)]) (args := [(.agg #[(.int .i64 c162), (sl v164), (.int .i64 c165), (.int .i64 c166), (sl v168)]), (sl v237)]) Try.call13 Opd.f (.cons (Opd.t rfl) (.cons (Opd.t rfl) .nil)) rfl rfl (dfa_Insert_ok (d := (c162, c163, c165, c166, c167)) (hs.re 15 [13, 14, 1, 0, 1, 2, 3, 4, 5, 6, 7, 8, 9, 10, 11, 12, 13, 14] rfl) hr241) ?_
                  rintro _ w244 ⟨v242, v243, rfl, hs⟩
                  replace hs := Sat.n17 (Γ := Φ) hs rfl
                  refine WL_nil ?_
                  refine At_QK allJ_nil ?_
                  refine WD_pure (fun _ => (Run_move (Opd.t rfl))) rfl rfl rfl rfl <| WD_pure (fun _ => (Run_extract (vs := [(.agg #[(.int .i64 r240.1.1), (sl v242), (.int .i64 r240.1.2.2.1), (.int .i64 r240.1.2.2.2.1), (sl v243)]), (.bool r240.2.1), (.int .i64 r240.2.2)]) (Opd.t rfl) rfl)) rfl rfl rfl rfl <| WD_pure (fun _ => (Run_extract (vs := [(.agg #[(.int .i64 r240.1.1), (sl v242), (.int .i64 r240.1.2.2.1), (.int .i64 r240.1.2.2.2.1), (sl v243)]), (.bool r240.2.1), (.int .i64 r240.2.2)]) (Opd.t rfl) rfl)) rfl rfl rfl rfl <| WD_pure (fun _ => (Run_extract (vs := [(.agg #[(.int .i64 r240.1.1), (sl v242), (.int .i64 r240.1.2.2.1), (.int .i64 r240.1.2.2.2.1), (sl v243)]), (.bool r240.2.1), (.int .i64 r240.2.2)]) (Opd.t rfl) rfl)) rfl rfl rfl rfl <| ?_
                  refine WD_loud (pend' := []) rfl (by kernel_rfl) ?_
                  refine WS_store (us := [(.int .i64 r240.1.1), (sl v242), (.int .i64 r240.1.2.2.1), (.int .i64 r240.1.2.2.2.1), (sl v243)]) (vs' := [(.int .i64 r240.1.1), (sl v242), (.int .i64 r240.1.2.2.1), (.int .i64 r240.1.2.2.2.1), (sl v243)]) hs 2 rfl ti29 (Opd.t rfl) (Opd.t rfl) rfl rfl rfl rfl rfl ?_
                  intro w245 hs
                  replace hs := Sat.n17 (Γ := Φ) hs rfl
                  refine WL_nil ?_
                  refine At_QK allJ_nil ?_
                  refine WD_pure (fun _ => (Run_assign (Opd.t rfl))) rfl rfl rfl rfl <| WD_pure (fun _ => (Run_assign (Opd.t rfl))) rfl rfl rfl rfl <| ?_
                  refine WD_nil ?_
                  refine At_then ?_
                  refine WC_seq ?_
                  refine WC_seq ?_
                  refine WC_region ?_
                  refine WL_op (Run_move (Opd.t rfl)) rfl rfl rfl rfl <| WL_op (Run_neI (Opd.t rfl) Opd.c) rfl rfl rfl rfl <| ?_
                  refine WL_nil ?_
                  refine At_then ?_
                  refine WC_cond (Opd.t rfl) (fun hc246 => ?_) (fun hc246 => ?_)
                  ·
                    replace hm := bif_t hc246 hm
                    refine WC_seq ?_
                    refine WC_region ?_
                    refine WL_op (Run_assign Opd.c) rfl rfl rfl rfl <| ?_
                    refine WL_nil ?_
                    refine At_then ?_
                    refine WC_ret ?_
                    refine At_then_ret <| At_blk_ret <| At_then_ret <| At_then_ret <| At_blk_ret <| At_blk_ret <| At_then_ret <| At_then_ret <| At_blk_ret <| At_then_ret <| ?_
                    refine At_r1 rfl (ResIs.t rfl) ?_
                    cases hm
                    exact ⟨rfl, (hs.re 17 [] rfl)⟩
                  ·
                    replace hm := bif_f hc246 hm
                    refine WC_skip ?_
                    refine At_then ?_
                    refine WC_region ?_
                    refine WL_op (Run_loadA (vs := [(.int .i64 r240.1.1), (sl v242), (.int .i64 r240.1.2.2.1), (.int .i64 r240.1.2.2.2.1), (sl v243)]) Try.underlying29 rfl ti29 (Opd.t rfl) (fun _ => (hs.box (i := 2) rfl).part 0 rfl) rfl) rfl rfl rfl rfl <| ?_
                    refine WS_store (us := [(.int .i64 r240.1.1), (sl v242), (.int .i64 r240.1.2.2.1), (.int .i64 r240.1.2.2.2.1), (sl v243)]) (vs' := [(.int .i64 r240.1.1), (sl v242), (.int .i64 r240.1.2.2.1), (.int .i64 r240.1.2.2.2.1), (sl v243)]) hs 14 rfl ti29 (Opd.t rfl) (Opd.t rfl) rfl rfl rfl rfl rfl ?_
                    intro w247 hs
                    replace hs := Sat.n17 (Γ := Φ) hs rfl
                    refine WL_nil ?_
                    refine At_blk_normal ?_
                    refine At_then ?_
                    refine WC_region ?_
                    refine WL_op (Run_move (Opd.t rfl)) rfl rfl rfl rfl <| WL_op (Run_add (Opd.t rfl) Opd.c) rfl rfl rfl rfl <| WL_op (Run_assign (Opd.t rfl)) rfl rfl rfl rfl <| ?_
                    refine WL_nil ?_
                    exact At_again (r240.1.1, r240.1.2.1, r240.1.2.2.1, r240.1.2.2.2.1, r240.1.2.2.2.2, (IntKind.i64.wrap (k169 + 1))) (v242, v243) hm (hs.re 17 [8, 9, 10, 11, 12, 13, 14, 0, 1] rfl) rfl
              ·
                refine WD_loud (pend' := [(10, fun w => true = true → CellsAt w (elA (sl v3) k169 1) [(sl v182)]), (5, fun w => true = true → CellsAt w (elA (sl v1) i158 1) [(sl v176)]), (0, fun w => CellsAt w ⟨b71, 0, none⟩ [(.int .i64 c162), (sl v164), (.int .i64 c165), (.int .i64 c166), (sl v168)])]) rfl (by kernel_rfl) ?_
                refine WS_alloc (zs := [(.int .i64 0), (sl (none, 0, 0)), (.int .i64 0), (.int .i64 0), (sl (none, 0, 0))]) hs ti29 rfl rfl ?_
                intro b248 w249 hs
                replace hs := Sat.n14 (Γ := Φ) hs rfl
                refine WL_nil ?_
                refine At_QK (allJ_cons (fun hg => ((hs.elem (i := 1) rfl) hg).sub 0 rfl) (allJ_cons (fun hg => ((hs.elem (i := 3) rfl) hg).sub 0 rfl) (allJ_cons ((hs.box (i := 11) rfl).part 0 rfl) allJ_nil))) ?_
                refine WD_loud (pend' := [(10, fun w => true = true → CellsAt w (elA (sl v3) k169 1) [(sl v182)]), (5, fun w => true = true → CellsAt w (elA (sl v1) i158 1) [(sl v176)]), (0, fun w => CellsAt w ⟨b71, 0, none⟩ [(.int .i64 c162), (sl v164), (.int .i64 c165), (.int .i64 c166), (sl v168)])]) rfl (by kernel_rfl) ?_
                refine WS_lit0 (A := (RI .u8)) hs Try.underlying23 ti5 rfl ?_
                intro b250 w251 hs
                replace hs := Sat.n15 (Γ := Φ) hs rfl
                refine WL_nil ?_
                refine At_QK (allJ_cons (fun hg => ((hs.elem (i := 2) rfl) hg).sub 0 rfl) (allJ_cons (fun hg => ((hs.elem (i := 4) rfl) hg).sub 0 rfl) (allJ_cons ((hs.box (i := 12) rfl).part 0 rfl) allJ_nil))) ?_
                refine WD_loud (pend' := [(10, fun w => true = true → CellsAt w (elA (sl v3) k169 1) [(sl v182)]), (0, fun w => CellsAt w ⟨b71, 0, none⟩ [(.int .i64 c162), (sl v164), (.int .i64 c165), (.int .i64 c166), (sl v168)])]) rfl (by kernel_rfl) ?_
                obtain ⟨k252, hm⟩ := chk_some hm
                refine WS_append (A := (RI .u8)) hs 0 rfl Try.underlying23 ti5 rfl rfl (Opd.t rfl) (Opd.t rfl) (hs.sl (i := 5) rfl) k252 rfl ?_
                intro v253 R254 w255 hs
                replace hs := Sat.n15 (Γ := Φ) hs rfl
                refine WL_nil ?_
                refine At_QK (allJ_cons (fun hg => ((hs.elem (i := 2) rfl) hg).sub 0 rfl) (allJ_cons ((hs.box (i := 12) rfl).part 0 rfl) allJ_nil)) ?_
                refine WD_loud (pend' := [(0, fun w => CellsAt w ⟨b71, 0, none⟩ [(.int .i64 c162), (sl v164), (.int .i64 c165), (.int .i64 c166), (sl v168)])]) rfl (by kernel_rfl) ?_
                obtain ⟨k256, hm⟩ := chk_some hm
                refine WS_append (A := (RI .u8)) hs 0 rfl Try.underlying23 ti5 rfl rfl (Opd.t rfl) (Opd.t rfl) (hs.sl (i := 3) rfl) k256 rfl ?_
                intro v257 R258 w259 hs
                replace hs := Sat.n15 (Γ := Φ) hs rfl
                refine WL_nil ?_
                refine At_QK (allJ_cons ((hs.box (i := 12) rfl).part 0 rfl) allJ_nil) ?_
                refine WD_loud (pend' := []) rfl (by kernel_rfl) ?_
                replace hs := hs.freeze (i := 0) rfl
                obtain ⟨r260, hr261, hm⟩ := bind_some' hm
                refine WL_call (f := 13) (first := []) (cap := []) (xs := [(.tmp 150), (.tmp 161)]) (vs := [(.agg #[(.int .i64 c162), (sl v164), (.int .i64 c165), (.int .i64 c166), (sl v168)]), (sl v257)]) (args := [(.agg #[(.int .i64 c162), (sl v164), (.int .i64 c165), (.int .i64 c166), (sl v168)]), (sl v257)]) Try.call13 Opd.f (.cons (Opd.t rfl) (.cons (Opd.t rfl) .nil)) rfl rfl (dfa_Insert_ok (d := (c162, c163, c165, c166, c167)) (hs.re 15 [13, 14, 0, 0, 1, 2, 3, 4, 5, 6, 7, 8, 9, 10, 11, 12, 13, 14] rfl) hr261) ?_
                rintro _ w264 ⟨v262, v263, rfl, hs⟩
                replace hs := Sat.n17 (Γ := Φ) hs rfl
                refine WL_nil ?_
                refine At_QK allJ_nil ?_
                refine WD_pure (fun _ => (Run_move (Opd.t rfl))) rfl rfl rfl rfl <| WD_pure (fun _ => (Run_extract (vs := [(.agg #[(.int .i64 r260.1.1), (sl v262), (.int .i64 r260.1.2.2.1), (.int .i64 r260.1.2.2.2.1), (sl v263)]), (.bool r260.2.1), (.int .i64 r260.2.2)]) (Opd.t rfl) rfl)) rfl rfl rfl rfl <| WD_pure (fun _ => (Run_extract (vs := [(.agg #[(.int .i64 r260.1.1), (sl v262), (.int .i64 r260.1.2.2.1), (.int .i64 r260.1.2.2.2.1), (sl v263)]), (.bool r260.2.1), (.int .i64 r260.2.2)]) (Opd.t rfl) rfl)) rfl rfl rfl rfl <| WD_pure (fun _ => (Run_extract (vs := [(.agg #[(.int .i64 r260.1.1), (sl v262), (.int .i64 r260.1.2.2.1), (.int .i64 r260.1.2.2.2.1), (sl v263)]), (.bool r260.2.1), (.int .i64 r260.2.2)]) (Opd.t rfl) rfl)) rfl rfl rfl rfl <| ?_
                refine WD_loud (pend' := []) rfl (by kernel_rfl) ?_
                refine WS_store (us := [(.int .i64 r260.1.1), (sl v262), (.int .i64 r260.1.2.2.1), (.int .i64 r260.1.2.2.2.1), (sl v263)]) (vs' := [(.int .i64 r260.1.1), (sl v262), (.int .i64 r260.1.2.2.1), (.int .i64 r260.1.2.2.2.1), (sl v263)]) hs 3 rfl ti29 (Opd.t rfl) (Opd.t rfl) rfl rfl rfl rfl rfl ?_
                intro w265 hs
                replace hs := Sat.n17 (Γ := Φ) hs rfl
                refine WL_nil ?_
                refine At_QK allJ_nil ?_
                refine WD_pure (fun _ => (Run_assign (Opd.t rfl))) rfl rfl rfl rfl <| WD_pure (fun _ => (Run_assign (Opd.t rfl))) rfl rfl rfl rfl <| ?_
                refine WD_nil ?_
                refine At_then ?_
                refine WC_seq ?_
                refine WC_seq ?_
                refine WC_region ?_
                refine WL_op (Run_move (Opd.t rfl)) rfl rfl rfl rfl <| WL_op (Run_neI (Opd.t rfl) Opd.c) rfl rfl rfl rfl <| ?_
                refine WL_nil ?_
                refine At_then ?_
                refine WC_cond (Opd.t rfl) (fun hc266 => ?_) (fun hc266 => ?_)
                ·
                  replace hm := bif_t hc266 hm
                  refine WC_seq ?_
                  refine WC_region ?_
                  refine WL_op (Run_assign Opd.c) rfl rfl rfl rfl <| ?_
                  refine WL_nil ?_
                  refine At_then ?_
                  refine WC_ret ?_
                  refine At_then_ret <| At_blk_ret <| At_then_ret <| At_then_ret <| At_blk_ret <| At_blk_ret <| At_then_ret <| At_then_ret <| At_blk_ret <| At_then_ret <| ?_
                  refine At_r1 rfl (ResIs.t rfl) ?_
                  cases hm
                  exact ⟨rfl, (hs.re 17 [] rfl)⟩
                ·
                  replace hm := bif_f hc266 hm
                  refine WC_skip ?_
                  refine At_then ?_
                  refine WC_region ?_
                  refine WL_op (Run_loadA (vs := [(.int .i64 r260.1.1), (sl v262), (.int .i64 r260.1.2.2.1), (.int .i64 r260.1.2.2.2.1), (sl v263)]) Try.underlying29 rfl ti29 (Opd.t rfl) (fun _ => (hs.box (i := 3) rfl).part 0 rfl) rfl) rfl rfl rfl rfl <| ?_
                  refine WS_store (us := [(.int .i64 r260.1.1), (sl v262), (.int .i64 r260.1.2.2.1), (.int .i64 r260.1.2.2.2.1), (sl v263)]) (vs' := [(.int .i64 r260.1.1), (sl v262), (.int .i64 r260.1.2.2.1), (.int .i64 r260.1.2.2.2.1), (sl v263)]) hs 14 rfl ti29 (Opd.t rfl) (Opd.t rfl) rfl rfl rfl rfl rfl ?_
                  intro w267 hs
                  replace hs := Sat.n17 (Γ := Φ) hs rfl
                  refine WL_nil ?_
                  refine At_blk_normal ?_
                  refine At_then ?_
                  refine WC_region ?_
                  refine WL_op (Run_move (Opd.t rfl)) rfl rfl rfl rfl <| WL_op (Run_add (Opd.t rfl) Opd.c) rfl rfl rfl rfl <| WL_op (Run_assign (Opd.t rfl)) rfl rfl rfl rfl <| ?_
                  refine WL_nil ?_
                  exact At_again (r260.1.1, r260.1.2.1, r260.1.2.2.1, r260.1.2.2.2.1, r260.1.2.2.2.2, (IntKind.i64.wrap (k169 + 1))) (v262, v263) hm (hs.re 17 [8, 9, 10, 11, 12, 13, 14, 0, 1] rfl) rfl
            ·
              replace hm := bif_f hc171 hm
              refine WC_exit ?_
              refine At_then_exit <| At_then_exit <| At_blk_here <| ?_
              refine At_blk_normal ?_
              refine At_then ?_
              refine WC_region ?_
              refine WL_op (Run_move (Opd.t rfl)) rfl rfl rfl rfl <| WL_op (Run_add (Opd.t rfl) Opd.c) rfl rfl rfl rfl <| WL_op (Run_assign (Opd.t rfl)) rfl rfl rfl rfl <| ?_
              refine WL_nil ?_
              exact At_again (c162, c163, c165, c166, c167, (IntKind.i64.wrap (i158 + 1))) (v164, v168) hm (hs.re 9 [0, 1, 2, 3, 4, 5, 6, 7, 8] rfl) rfl
          ·
            replace hm := bif_f hc160 hm
            refine WC_exit ?_
            refine At_then_exit <| At_then_exit <| At_blk_here <| ?_
            refine At_then ?_
            refine WC_seq ?_
            refine WC_region_mixed [0, 1, 2, 6, 10, 18, 32, 96, 32, 288, 544, 32, 2080, 4128, 9248, 16544, 32800, 65664, 131072, 393216, 131072, 1703936, 131072, 6422528, 10616832, 16908288, 34209792, 67239936, 268435455] (.q 0 0 (.q 1 1 (.q 2 3 (.q 3 7 (.q 4 15 (.q 5 31 (.q 6 63 (.q 8 127 (.q 9 383 (.q 10 895 (.q 11 1919 (.q 12 3967 (.q 13 8063 (.q 14 16255 (.l 7 32639 (.q 15 32767 (.q 16 65535 (.q 17 131071 (.q 18 262143 (.q 20 524287 (.q 22 1572863 (.l 19 5767167 (.l 21 6291455 (.l 23 8388607 (.q 24 16777215 (.q 25 33554431 (.q 26 67108863 (.q 27 134217727 (.q 28 268435455 .nil))))))))))))))))))))))))))))) (by kernel_rfl) (by kernel_rfl) ?_
            intro w268 hx269
            replace hs := hs.ext hx269
            refine WD_pure (fun _ => (Run_move (Opd.t rfl))) rfl rfl rfl rfl <| WD_pure (fun _ => (Run_move (Opd.t rfl))) rfl rfl rfl rfl <| WD_pureG rfl rfl rfl rfl guard_pos (fun _ => (Run_move (Opd.t rfl))) rfl rfl rfl <| ?_
            obtain ⟨b270, e271, hm⟩ := letv_some hm
            refine WD_pureG rfl rfl rfl rfl guard_pos (fun _ => (Run.eqB (Run_eqI (Opd.g rfl id) Opd.c) e271)) rfl rfl rfl <| ?_
            obtain ⟨b272, e273, hm⟩ := letv_some hm
            refine WD_pure (fun _ => (Run.eqB (Run_and (Opd.t rfl) (Opd.g rfl id)) e273)) rfl rfl rfl rfl <| WD_pure (fun _ => (Run_move (Opd.t rfl))) rfl rfl rfl rfl <| WD_opG (fun w => CellsAt w ⟨b71, 0, none⟩ [(.int .i64 c151), (sl v153), (.int .i64 c154), (.int .i64 c155), (sl v157)]) ((hs.box (i := 6) rfl).part 0 rfl) rfl rfl rfl rfl guard_pos (fun _ hJ => (Run_loadA (vs := [(.int .i64 c151), (sl v153), (.int .i64 c154), (.int .i64 c155), (sl v157)]) Try.underlying29 rfl ti29 (Opd.t rfl) (fun _ => hJ) rfl)) rfl rfl rfl <| WD_pureG rfl rfl rfl rfl guard_pos (fun _ => (Run_fieldAddr fo34_1 (Opd.t rfl))) rfl rfl rfl <| WD_opG (fun w => CellsAt w ⟨b53, 1, none⟩ [(sl v77)]) ((hs.box (i := 2) rfl).part 1 rfl) rfl rfl rfl rfl guard_pos (fun _ hJ => (Run_load1 (v := (sl v77)) Try.underlying22 rfl (Opd.g rfl id) (fun _ => hJ))) rfl rfl rfl <| WD_pureG rfl rfl rfl rfl guard_pos (fun _ => (Run_lenSlG Try.underlying22 (Opd.g rfl id) (fun hg => (hs.sl (i := 3) rfl).len))) rfl rfl rfl <| WD_pureG rfl rfl rfl rfl guard_pos (fun _ => (Run_fieldAddr fo34_1 (Opd.t rfl))) rfl rfl rfl <| WD_opG (fun w => CellsAt w ⟨b61, 1, none⟩ [(sl v115)]) ((hs.box (i := 4) rfl).part 1 rfl) rfl rfl rfl rfl guard_pos (fun _ hJ => (Run_load1 (v := (sl v115)) Try.underlying22 rfl (Opd.g rfl id) (fun _ => hJ))) rfl rfl rfl <| ?_
            refine WD_pureG rfl rfl rfl rfl guard_pos (fun _ => (Run_lenSlG Try.underlying22 (Opd.g rfl id) (fun hg => (hs.sl (i := 5) rfl).len))) rfl rfl rfl <| WD_pureG rfl rfl rfl rfl guard_pos (fun _ => (Run_mul (Opd.g rfl id) (Opd.g rfl id))) rfl rfl rfl <| ?_
            refine WD_loud (pend' := [(12, fun w => CellsAt w ⟨b61, 1, none⟩ [(sl v115)]), (9, fun w => CellsAt w ⟨b53, 1, none⟩ [(sl v77)])]) rfl (by kernel_rfl) ?_
            obtain ⟨r274, hr275, -, hm⟩ := callG_some hm
            refine WL_callG rfl rfl rfl guard_pos (f := 15) (first := []) (cap := []) (xs := [(.tmp 175)]) (vs := [(.agg #[(.int .i64 c151), (sl v153), (.int .i64 c154), (.int .i64 c155), (sl v157)])]) (args := [(.agg #[(.int .i64 c151), (sl v153), (.int .i64 c154), (.int .i64 c155), (sl v157)])]) Try.call15 Opd.f (.cons (Opd.g rfl id) .nil) rfl rfl (fun hg => dfa_Many_ok (d := (c151, c152, c154, c155, c156)) (hs.re 9 [7, 8, 0, 1, 2, 3, 4, 5, 6, 7, 8] rfl) (hr275 hg)) ?_
            intro v277 w276 hv278 hz279
            replace hs := Sat.ofG (fun hg => (hv278 hg).2.re 9 [0, 1, 2, 3, 4, 5, 6, 7, 8] rfl) hz279 hs
            refine WL_sub1 (v := (.int .i64 r274)) (fun hg => (hv278 hg).1) ?_
            replace hs := Sat.n9 (Γ := Φ) hs rfl
            refine WL_nil ?_
            refine At_QK (allJ_cons ((hs.box (i := 4) rfl).part 1 rfl) (allJ_cons ((hs.box (i := 2) rfl).part 1 rfl) allJ_nil)) ?_
            obtain ⟨b280, e281, hm⟩ := letv_some hm
            refine WD_pureG rfl rfl rfl rfl guard_pos (fun _ => (Run.eqB (Run_eqI (Opd.g rfl id) (Opd.g rfl id)) e281)) rfl rfl rfl <| ?_
            obtain ⟨b282, e283, hm⟩ := letv_some hm
            refine WD_pure (fun _ => (Run.eqB (Run_and (Opd.t rfl) (Opd.g rfl id)) e283)) rfl rfl rfl rfl <| WD_pure (fun _ => (Run_move (Opd.t rfl))) rfl rfl rfl rfl <| WD_opG (fun w => CellsAt w ⟨b71, 0, none⟩ [(.int .i64 c151), (sl v153), (.int .i64 c154), (.int .i64 c155), (sl v157)]) ((hs.box (i := 6) rfl).part 0 rfl) rfl rfl rfl rfl guard_pos (fun _ hJ => (Run_loadA (vs := [(.int .i64 c151), (sl v153), (.int .i64 c154), (.int .i64 c155), (sl v157)]) Try.underlying29 rfl ti29 (Opd.t rfl) (fun _ => hJ) rfl)) rfl rfl rfl <| WD_opG (fun w => CellsAt w ⟨b53, 0, none⟩ [(.int .i64 c75), (sl v77)]) ((hs.box (i := 2) rfl).part 0 rfl) rfl rfl rfl rfl guard_pos (fun _ hJ => (Run_loadA (vs := [(.int .i64 c75), (sl v77)]) Try.underlying34 rfl ti34 (Opd.t rfl) (fun _ => hJ) rfl)) rfl rfl rfl <| WD_opG (fun w => CellsAt w ⟨b61, 0, none⟩ [(.int .i64 c113), (sl v115)]) ((hs.box (i := 4) rfl).part 0 rfl) rfl rfl rfl rfl guard_pos (fun _ hJ => (Run_loadA (vs := [(.int .i64 c113), (sl v115)]) Try.underlying34 rfl ti34 (Opd.t rfl) (fun _ => hJ) rfl)) rfl rfl rfl <| ?_
            refine WD_loud (pend' := [(22, fun w => CellsAt w ⟨b61, 0, none⟩ [(.int .i64 c113), (sl v115)]), (20, fun w => CellsAt w ⟨b53, 0, none⟩ [(.int .i64 c75), (sl v77)]), (12, fun w => CellsAt w ⟨b61, 1, none⟩ [(sl v115)]), (9, fun w => CellsAt w ⟨b53, 1, none⟩ [(sl v77)])]) rfl (by kernel_rfl) ?_
            obtain ⟨r284, hr285, -, hm⟩ := callG_some hm
            refine WL_callG rfl rfl rfl guard_pos (f := 16) (first := []) (cap := []) (xs := [(.tmp 187)]) (vs := [(.agg #[(.int .i64 c151), (sl v153), (.int .i64 c154), (.int .i64 c155), (sl v157)])]) (args := [(.agg #[(.int .i64 c151), (sl v153), (.int .i64 c154), (.int .i64 c155), (sl v157)])]) Try.call16 Opd.f (.cons (Opd.g rfl id) .nil) rfl rfl (fun hg => dfa_Size_ok (d := (c151, c152, c154, c155, c156)) (hs.re 9 [7, 8, 0, 1, 2, 3, 4, 5, 6, 7, 8] rfl) (hr285 hg)) ?_
            intro v287 w286 hv288 hz289
            replace hs := Sat.ofG (fun hg => (hv288 hg).2.re 9 [0, 1, 2, 3, 4, 5, 6, 7, 8] rfl) hz289 hs
            refine WL_sub1 (v := (.int .i64 r284)) (fun hg => (hv288 hg).1) ?_
            replace hs := Sat.n9 (Γ := Φ) hs rfl
            refine WL_nil ?_
            refine At_QK (allJ_cons ((hs.box (i := 4) rfl).part 0 rfl) (allJ_cons ((hs.box (i := 2) rfl).part 0 rfl) (allJ_cons ((hs.box (i := 4) rfl).part 1 rfl) (allJ_cons ((hs.box (i := 2) rfl).part 1 rfl) allJ_nil)))) ?_
            refine WD_loud (pend' := [(22, fun w => CellsAt w ⟨b61, 0, none⟩ [(.int .i64 c113), (sl v115)]), (12, fun w => CellsAt w ⟨b61, 1, none⟩ [(sl v115)]), (9, fun w => CellsAt w ⟨b53, 1, none⟩ [(sl v77)])]) rfl (by kernel_rfl) ?_
            obtain ⟨r290, hr291, -, hm⟩ := callG_some hm
            refine WL_callG rfl rfl rfl guard_pos (f := 17) (first := []) (cap := []) (xs := [(.tmp 189)]) (vs := [(.agg #[(.int .i64 c75), (sl v77)])]) (args := [(.agg #[(.int .i64 c75), (sl v77)])]) Try.call17 Opd.f (.cons (Opd.g rfl id) .nil) rfl rfl (fun hg => scrutinyref09_Size_ok (s := (c75, c76)) (hs.re 9 [3, 0, 1, 2, 3, 4, 5, 6, 7, 8] rfl) (hr291 hg)) ?_
            intro v293 w292 hv294 hz295
            replace hs := Sat.ofG (fun hg => (hv294 hg).2.re 9 [0, 1, 2, 3, 4, 5, 6, 7, 8] rfl) hz295 hs
            refine WL_sub1 (v := (.int .i64 r290)) (fun hg => (hv294 hg).1) ?_
            replace hs := Sat.n9 (Γ := Φ) hs rfl
            refine WL_nil ?_
            refine At_QK (allJ_cons ((hs.box (i := 4) rfl).part 0 rfl) (allJ_cons ((hs.box (i := 4) rfl).part 1 rfl) (allJ_cons ((hs.box (i := 2) rfl).part 1 rfl) allJ_nil))) ?_
            refine WD_loud (pend' := [(12, fun w => CellsAt w ⟨b61, 1, none⟩ [(sl v115)]), (9, fun w => CellsAt w ⟨b53, 1, none⟩ [(sl v77)])]) rfl (by kernel_rfl) ?_
            obtain ⟨r296, hr297, -, hm⟩ := callG_some hm
            refine WL_callG rfl rfl rfl guard_pos (f := 17) (first := []) (cap := []) (xs := [(.tmp 191)]) (vs := [(.agg #[(.int .i64 c113), (sl v115)])]) (args := [(.agg #[(.int .i64 c113), (sl v115)])]) Try.call17 Opd.f (.cons (Opd.g rfl id) .nil) rfl rfl (fun hg => scrutinyref09_Size_ok (s := (c113, c114)) (hs.re 9 [5, 0, 1, 2, 3, 4, 5, 6, 7, 8] rfl) (hr297 hg)) ?_
            intro v299 w298 hv300 hz301
            replace hs := Sat.ofG (fun hg => (hv300 hg).2.re 9 [0, 1, 2, 3, 4, 5, 6, 7, 8] rfl) hz301 hs
            refine WL_sub1 (v := (.int .i64 r296)) (fun hg => (hv300 hg).1) ?_
            replace hs := Sat.n9 (Γ := Φ) hs rfl
            refine WL_nil ?_
            refine At_QK (allJ_cons ((hs.box (i := 4) rfl).part 1 rfl) (allJ_cons ((hs.box (i := 2) rfl).part 1 rfl) allJ_nil)) ?_
            refine WD_pureG rfl rfl rfl rfl guard_pos (fun _ => (Run_add (Opd.g rfl id) (Opd.g rfl id))) rfl rfl rfl <| WD_pureG rfl rfl rfl rfl guard_pos (fun _ => (Run_sub (Opd.g rfl id) Opd.c)) rfl rfl rfl <| ?_
            obtain ⟨b302, e303, hm⟩ := letv_some hm
            refine WD_pureG rfl rfl rfl rfl guard_pos (fun _ => (Run.eqB (Run_eqI (Opd.g rfl id) (Opd.g rfl id)) e303)) rfl rfl rfl <| ?_
            obtain ⟨b304, e305, hm⟩ := letv_some hm
            refine WD_pure (fun _ => (Run.eqB (Run_and (Opd.t rfl) (Opd.g rfl id)) e305)) rfl rfl rfl rfl <| WD_pure (fun _ => (Run_assign (Opd.t rfl))) rfl rfl rfl rfl <| ?_
            refine WD_nil ?_
            refine At_then ?_
            refine WC_ret ?_
            refine At_r1 rfl (ResIs.t rfl) ?_
            cases hm
            exact ⟨rfl, (hs.re 9 [] rfl)⟩

end Go.Proofs.Ytjappdgehmjomaa
