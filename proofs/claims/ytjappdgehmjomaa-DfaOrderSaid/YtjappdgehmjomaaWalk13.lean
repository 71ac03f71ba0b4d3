/- Printed by a program: the walks. -/
import Derived.Test.YtjappdgehmjomaaTypes
import Derived.Test.YtjappdgehmjomaaWalk1
import Derived.Test.YtjappdgehmjomaaWalk8
import Derived.Test.YtjappdgehmjomaaWalk9
import Derived.Test.YtjappdgehmjomaaWalk10
namespace Go.Proofs.Ytjappdgehmjomaa
open Go.Proofs

set_option maxRecDepth 100000 in
set_option maxHeartbeats 4000000 in
theorem scrutinylaw09_DfaOrder_ok {Φ : Ctx} {w : World} {l : (List (List Int))} {swaps : (List Int)} {v1 : SLV} {v3 : SLV} {r : Bool} (hs : Sat (imm (RSl (RSl (RI .u8))) [sl v1] l :: imm (RSl (RI .u8)) [sl v3] swaps :: Φ) w) (hm : scrutinylaw09_DfaOrder l swaps = some r) :
    CallsR Try.prog 4 [(sl v1), (sl v3)] w (fun v w' => v = (.bool r) ∧ Sat (Φ) w') := by
  refine CallsX_enter Try.func4 rfl Try.ntmps4 rfl ?_
  unfold scrutinylaw09_DfaOrder at hm
  refine WC_seq ?_
  refine WC_region ?_
  refine WL_op (Run_assign Opd.c) rfl rfl rfl rfl <| ?_
  refine WL_nil ?_
  refine At_then ?_
  refine WC_seq ?_
  refine WC_region ?_
  obtain ⟨r3, hr4, hm⟩ := bind_some' hm
  refine WL_call (f := 9) (first := []) (cap := []) (xs := []) (vs := []) (args := []) Try.call9 Opd.f .nil rfl rfl (scrutinylaw09_shown_ok (hs.re 2 [0, 1] rfl) hr4) ?_
  rintro _ w5 ⟨rfl, hs⟩
  replace hs := Sat.n2 (Γ := Φ) hs rfl
  refine WL_op (Run_assign (Opd.t rfl)) rfl rfl rfl rfl <| ?_
  refine WL_nil ?_
  refine At_then ?_
  refine WC_seq ?_
  refine WC_seq ?_
  refine WC_region ?_
  refine WL_op (Run_move (Opd.t rfl)) rfl rfl rfl rfl <| WL_op (Run_lenSlG Try.underlying22 (Opd.t rfl) (fun hg => (hs.sl (i := 0) rfl).len)) rfl rfl rfl rfl <| ?_
  obtain ⟨b6, e7, hm⟩ := letv_some hm
  refine WL_op (Run.eqB (Run_ltI (Opd.t rfl) Opd.c) e7) rfl rfl rfl rfl <| WL_op (Run_move (Opd.t rfl)) rfl rfl rfl rfl <| WL_opG rfl rfl rfl rfl guard_neg (Run_move (Opd.t rfl)) rfl rfl rfl <| WL_opG rfl rfl rfl rfl guard_neg (Run_lenSlG Try.underlying22 (Opd.g rfl id) (fun hg => (hs.sl (i := 0) rfl).len)) rfl rfl rfl <| ?_
  obtain ⟨b8, e9, hm⟩ := letv_some hm
  refine WL_opG rfl rfl rfl rfl guard_neg (Run.eqB (Run_gtI (Opd.g rfl id) Opd.c) e9) rfl rfl rfl <| ?_
  obtain ⟨b10, e11, hm⟩ := letv_some hm
  refine WL_op (Run.eqB (Run_or (Opd.t rfl) (Opd.g rfl id)) e11) rfl rfl rfl rfl <| WL_op (Run_move (Opd.t rfl)) rfl rfl rfl rfl <| WL_opG rfl rfl rfl rfl guard_neg (Run_move (Opd.t rfl)) rfl rfl rfl <| WL_opG rfl rfl rfl rfl guard_neg (Run_lenSlG Try.underlying23 (Opd.g rfl id) (fun hg => (hs.sl (i := 1) rfl).len)) rfl rfl rfl <| ?_
  obtain ⟨b12, e13, hm⟩ := letv_some hm
  refine WL_opG rfl rfl rfl rfl guard_neg (Run.eqB (Run_gtI (Opd.g rfl id) Opd.c) e13) rfl rfl rfl <| ?_
  obtain ⟨b14, e15, hm⟩ := letv_some hm
  refine WL_op (Run.eqB (Run_or (Opd.t rfl) (Opd.g rfl id)) e15) rfl rfl rfl rfl <| ?_
  refine WL_nil ?_
  refine At_then ?_
  refine WC_cond (Opd.t rfl) (fun hc16 => ?_) (fun hc16 => ?_)
  ·
    replace hm := bif_t hc16 hm
    refine WC_seq ?_
    refine WC_region ?_
    refine WL_op (Run_move (Opd.t rfl)) rfl rfl rfl rfl <| WL_op (Run_assign (Opd.t rfl)) rfl rfl rfl rfl <| ?_
    refine WL_nil ?_
    refine At_then ?_
    refine WC_ret ?_
    refine At_then_ret <| ?_
    refine At_r1 rfl (ResIs.t rfl) ?_
    cases hm
    exact ⟨rfl, (hs.re 2 [] rfl)⟩
  ·
    replace hm := bif_f hc16 hm
    refine WC_skip ?_
    refine At_then ?_
    refine WC_seq ?_
    refine WC_region ?_
    refine WL_op (Run_move (Opd.t rfl)) rfl rfl rfl rfl <| ?_
    obtain ⟨e17, he18, hm⟩ := bind_some' hm
    obtain ⟨v19, hC20, hN21, hR22⟩ := cellsM23 (g := true) (fun hg => (hs.sl (i := 0) rfl)) (fun hg => he18)
    replace hs := hs.addL [elem true (elA (sl v1) 0 1) [(sl v19)], imm (RSl (RI .u8)) [sl v19] e17] rfl ⟨fun hg => ⟨hN21 hg, hC20 hg⟩, ⟨_, rfl, hR22 rfl⟩, trivial⟩
    replace hs := Sat.n4 (Γ := Φ) hs rfl
    refine WL_op (Run_idxAddr (p := (elA (sl v1) 0 1)) Try.underlying22 ti23 (Opd.t rfl) Opd.c (fun hg => (SRd.atA (A := (RSl (RI .u8))) (v := (sl v1)) (hs.sl (i := 2) rfl) he18).1)) rfl rfl rfl rfl <| WL_op (Run_load1 (v := (sl v19)) Try.underlying23 rfl (Opd.t rfl) (fun hg => ((hs.elem (i := 0) rfl) hg).sub 0 rfl)) rfl rfl rfl rfl <| WL_op (Run_lenSlG Try.underlying23 (Opd.t rfl) (fun hg => (hs.sl (i := 1) rfl).len)) rfl rfl rfl rfl <| WL_op (Run_assign (Opd.t rfl)) rfl rfl rfl rfl <| ?_
    refine WL_nil ?_
    refine At_then ?_
    refine WC_seq ?_
    refine WC_seq ?_
    refine WC_region ?_
    refine WL_op (Run_assign Opd.c) rfl rfl rfl rfl <| ?_
    refine WL_nil ?_
    refine At_then ?_
    refine WC_block ?_
    refine WC_loop (σ := Int) (γ := Unit) (F := (scrutinylaw09_DfaOrder_L1 l swaps r3 e17)) (N := FUEL) (s0 := 0) (r := r) (fun i24 (_ : Unit) w23 => Sat (imm (RSl (RSl (RI .u8))) [sl v1] l :: imm (RSl (RI .u8)) [sl v3] swaps :: Φ) w23) (fun i24 (_ : Unit) => [(0, true, (sl v1)), (1, true, (sl v3)), (5, true, (.bool r3)), (6, true, (.int .i64 (List.length e17 : Int))), (7, true, (.int .i64 i24))]) hm () (hs.re 4 [2, 3] rfl) rfl ?_
    rintro again25 i24 _ w23 hm hs
    unfold scrutinylaw09_DfaOrder_L1 at hm
    refine WC_seq ?_
    refine WC_seq ?_
    refine WC_region ?_
    refine WL_op (Run_move (Opd.t rfl)) rfl rfl rfl rfl <| WL_op (Run_move (Opd.t rfl)) rfl rfl rfl rfl <| WL_op (Run_lenSlG Try.underlying22 (Opd.t rfl) (fun hg => (hs.sl (i := 0) rfl).len)) rfl rfl rfl rfl <| WL_op (Run_ltI (Opd.t rfl) (Opd.t rfl)) rfl rfl rfl rfl <| ?_
    refine WL_nil ?_
    refine At_then ?_
    refine WC_cond (Opd.t rfl) (fun hc26 => ?_) (fun hc26 => ?_)
    ·
      replace hm := bif_t hc26 hm
      refine WC_skip ?_
      refine At_then ?_
      refine WC_seq ?_
      refine WC_block ?_
      refine WC_seq ?_
      refine WC_region ?_
      refine WL_op (Run_move (Opd.t rfl)) rfl rfl rfl rfl <| WL_op (Run_move (Opd.t rfl)) rfl rfl rfl rfl <| ?_
      obtain ⟨e27, he28, hm⟩ := bind_some' hm
      obtain ⟨v29, hC30, hN31, hR32⟩ := cellsM23 (g := true) (fun hg => (hs.sl (i := 0) rfl)) (fun hg => he28)
      replace hs := hs.addL [elem true (elA (sl v1) i24 1) [(sl v29)], imm (RSl (RI .u8)) [sl v29] e27] rfl ⟨fun hg => ⟨hN31 hg, hC30 hg⟩, ⟨_, rfl, hR32 rfl⟩, trivial⟩
      replace hs := Sat.n4 (Γ := Φ) hs rfl
      refine WL_op (Run_idxAddr (p := (elA (sl v1) i24 1)) Try.underlying22 ti23 (Opd.t rfl) (Opd.t rfl) (fun hg => (SRd.atA (A := (RSl (RI .u8))) (v := (sl v1)) (hs.sl (i := 2) rfl) he28).1)) rfl rfl rfl rfl <| WL_op (Run_load1 (v := (sl v29)) Try.underlying23 rfl (Opd.t rfl) (fun hg => ((hs.elem (i := 0) rfl) hg).sub 0 rfl)) rfl rfl rfl rfl <| WL_op (Run_lenSlG Try.underlying23 (Opd.t rfl) (fun hg => (hs.sl (i := 1) rfl).len)) rfl rfl rfl rfl <| WL_op (Run_move (Opd.t rfl)) rfl rfl rfl rfl <| WL_op (Run_neI (Opd.t rfl) (Opd.t rfl)) rfl rfl rfl rfl <| ?_
      refine WL_nil ?_
      refine At_then ?_
      refine WC_cond (Opd.t rfl) (fun hc33 => ?_) (fun hc33 => ?_)
      ·
        replace hm := bif_t hc33 hm
        refine WC_seq ?_
        refine WC_region ?_
        refine WL_op (Run_move (Opd.t rfl)) rfl rfl rfl rfl <| WL_op (Run_assign (Opd.t rfl)) rfl rfl rfl rfl <| ?_
        refine WL_nil ?_
        refine At_then ?_
        refine WC_ret ?_
        refine At_blk_ret <| At_then_ret <| At_then_ret <| At_blk_ret <| At_then_ret <| ?_
        refine At_r1 rfl (ResIs.t rfl) ?_
        cases hm
        exact ⟨rfl, (hs.re 4 [] rfl)⟩
      ·
        replace hm := bif_f hc33 hm
        refine WC_skip ?_
        refine At_blk_normal ?_
        refine At_then ?_
        refine WC_region ?_
        refine WL_op (Run_move (Opd.t rfl)) rfl rfl rfl rfl <| WL_op (Run_add (Opd.t rfl) Opd.c) rfl rfl rfl rfl <| WL_op (Run_assign (Opd.t rfl)) rfl rfl rfl rfl <| ?_
        refine WL_nil ?_
        exact At_again (IntKind.i64.wrap (i24 + 1)) () hm (hs.re 4 [2, 3] rfl) rfl
    ·
      replace hm := bif_f hc26 hm
      refine WC_exit ?_
      refine At_then_exit <| At_then_exit <| At_blk_here <| ?_
      refine At_then ?_
      refine WC_seq ?_
      refine WC_seq ?_
      refine WC_region ?_
      refine WL_op (Run_move (Opd.t rfl)) rfl rfl rfl rfl <| ?_
      obtain ⟨b34, e35, hm⟩ := letv_some hm
      refine WL_op (Run.eqB (Run_ltI (Opd.t rfl) Opd.c) e35) rfl rfl rfl rfl <| WL_op (Run_move (Opd.t rfl)) rfl rfl rfl rfl <| WL_opG rfl rfl rfl rfl guard_neg (Run_move (Opd.t rfl)) rfl rfl rfl <| ?_
      obtain ⟨b36, e37, hm⟩ := letv_some hm
      refine WL_opG rfl rfl rfl rfl guard_neg (Run.eqB (Run_gtI (Opd.g rfl id) Opd.c) e37) rfl rfl rfl <| ?_
      obtain ⟨b38, e39, hm⟩ := letv_some hm
      refine WL_op (Run.eqB (Run_or (Opd.t rfl) (Opd.g rfl id)) e39) rfl rfl rfl rfl <| ?_
      refine WL_nil ?_
      refine At_then ?_
      refine WC_cond (Opd.t rfl) (fun hc40 => ?_) (fun hc40 => ?_)
      ·
        replace hm := bif_t hc40 hm
        refine WC_seq ?_
        refine WC_region ?_
        refine WL_op (Run_move (Opd.t rfl)) rfl rfl rfl rfl <| WL_op (Run_assign (Opd.t rfl)) rfl rfl rfl rfl <| ?_
        refine WL_nil ?_
        refine At_then ?_
        refine WC_ret ?_
        refine At_then_ret <| ?_
        refine At_r1 rfl (ResIs.t rfl) ?_
        cases hm
        exact ⟨rfl, (hs.re 2 [] rfl)⟩
      ·
        replace hm := bif_f hc40 hm
        refine WC_skip ?_
        refine At_then ?_
        refine WC_seq ?_
        refine WC_region ?_
        refine WL_op (Run_move (Opd.t rfl)) rfl rfl rfl rfl <| ?_
        obtain ⟨r41, hr42, hm⟩ := bind_some' hm
        refine WL_call (f := 11) (first := []) (cap := []) (xs := [(.tmp 64)]) (vs := [(.int .i64 (List.length e17 : Int))]) (args := [(.int .i64 (List.length e17 : Int))]) Try.call11 Opd.f (.cons (Opd.t rfl) .nil) rfl rfl (dfa_New_ok (hs.re 2 [0, 1] rfl) hr42) ?_
        rintro _ w47 ⟨v43, R44, v45, R46, rfl, hs⟩
        replace hs := Sat.n4 (Γ := Φ) hs rfl
        refine WL_op (Run_move (Opd.t rfl)) rfl rfl rfl rfl <| WL_op (Run_extract (vs := [(.agg #[(.int .i64 r41.1.1), (sl v43), (.int .i64 r41.1.2.2.1), (.int .i64 r41.1.2.2.2.1), (sl v45)]), (.int .i64 r41.2)]) (Opd.t rfl) rfl) rfl rfl rfl rfl <| WL_op (Run_extract (vs := [(.agg #[(.int .i64 r41.1.1), (sl v43), (.int .i64 r41.1.2.2.1), (.int .i64 r41.1.2.2.2.1), (sl v45)]), (.int .i64 r41.2)]) (Opd.t rfl) rfl) rfl rfl rfl rfl <| ?_
        refine WS_alloc (zs := [(.int .i64 0), (sl (none, 0, 0)), (.int .i64 0), (.int .i64 0), (sl (none, 0, 0))]) hs ti29 rfl rfl ?_
        intro b48 w49 hs
        replace hs := Sat.n5 (Γ := Φ) hs rfl
        refine WS_store (us := [(.int .i64 r41.1.1), (sl v43), (.int .i64 r41.1.2.2.1), (.int .i64 r41.1.2.2.2.1), (sl v45)]) (vs' := [(.int .i64 r41.1.1), (sl v43), (.int .i64 r41.1.2.2.1), (.int .i64 r41.1.2.2.2.1), (sl v45)]) hs 0 rfl ti29 (Opd.t rfl) (Opd.t rfl) rfl rfl rfl rfl rfl ?_
        intro w50 hs
        replace hs := Sat.n5 (Γ := Φ) hs rfl
        refine WL_op (Run_assign (Opd.t rfl)) rfl rfl rfl rfl <| ?_
        refine WL_nil ?_
        refine At_then ?_
        refine WC_seq ?_
        refine WC_region ?_
        refine WL_op (Run_move (Opd.t rfl)) rfl rfl rfl rfl <| ?_
        obtain ⟨r51, hr52, hm⟩ := bind_some' hm
        refine WL_call (f := 11) (first := []) (cap := []) (xs := [(.tmp 69)]) (vs := [(.int .i64 (List.length e17 : Int))]) (args := [(.int .i64 (List.length e17 : Int))]) Try.call11 Opd.f (.cons (Opd.t rfl) .nil) rfl rfl (dfa_New_ok (hs.re 5 [0, 1, 2, 3, 4] rfl) hr52) ?_
        rintro _ w57 ⟨v53, R54, v55, R56, rfl, hs⟩
        replace hs := Sat.n7 (Γ := Φ) hs rfl
        refine WL_op (Run_move (Opd.t rfl)) rfl rfl rfl rfl <| WL_op (Run_extract (vs := [(.agg #[(.int .i64 r51.1.1), (sl v53), (.int .i64 r51.1.2.2.1), (.int .i64 r51.1.2.2.2.1), (sl v55)]), (.int .i64 r51.2)]) (Opd.t rfl) rfl) rfl rfl rfl rfl <| WL_op (Run_extract (vs := [(.agg #[(.int .i64 r51.1.1), (sl v53), (.int .i64 r51.1.2.2.1), (.int .i64 r51.1.2.2.2.1), (sl v55)]), (.int .i64 r51.2)]) (Opd.t rfl) rfl) rfl rfl rfl rfl <| ?_
        refine WS_alloc (zs := [(.int .i64 0), (sl (none, 0, 0)), (.int .i64 0), (.int .i64 0), (sl (none, 0, 0))]) hs ti29 rfl rfl ?_
        intro b58 w59 hs
        replace hs := Sat.n8 (Γ := Φ) hs rfl
        refine WS_store (us := [(.int .i64 r51.1.1), (sl v53), (.int .i64 r51.1.2.2.1), (.int .i64 r51.1.2.2.2.1), (sl v55)]) (vs' := [(.int .i64 r51.1.1), (sl v53), (.int .i64 r51.1.2.2.1), (.int .i64 r51.1.2.2.2.1), (sl v55)]) hs 0 rfl ti29 (Opd.t rfl) (Opd.t rfl) rfl rfl rfl rfl rfl ?_
        intro w60 hs
        replace hs := Sat.n8 (Γ := Φ) hs rfl
        refine WL_op (Run_assign (Opd.t rfl)) rfl rfl rfl rfl <| ?_
        refine WL_nil ?_
        refine At_then ?_
        refine WC_seq ?_
        refine WC_region ?_
        refine WS_lit0 (A := (RSl (RI .u8))) hs Try.underlying22 ti23 rfl ?_
        intro b61 w62 hs
        replace hs := Sat.n9 (Γ := Φ) hs rfl
        refine WL_op (Run_move (Opd.t rfl)) rfl rfl rfl rfl <| ?_
        obtain ⟨k63, hm⟩ := chk_some hm
        refine WS_append (A := (RSl (RI .u8))) hs 0 rfl Try.underlying22 ti23 rfl rfl (Opd.t rfl) (Opd.t rfl) (hs.sl (i := 7) rfl) k63 rfl ?_
        intro v64 R65 w66 hs
        replace hs := Sat.n9 (Γ := Φ) hs rfl
        refine WL_op (Run_assign (Opd.t rfl)) rfl rfl rfl rfl <| ?_
        refine WL_nil ?_
        refine At_then ?_
        refine WC_seq ?_
        refine WC_seq ?_
        refine WC_region ?_
        refine WL_op (Run_assign Opd.c) rfl rfl rfl rfl <| ?_
        refine WL_nil ?_
        refine At_then ?_
        refine WC_block ?_
        refine WC_loop (σ := (List (List Int)) × Int) (γ := Unit) (F := (scrutinylaw09_DfaOrder_L2 l swaps r3 r41 r51)) (N := FUEL) (s0 := ((([] : List (List Int)) ++ l), 0)) (r := r) (fun ⟨l68, i69⟩ (_ : Unit) w67 => Sat (imm (RSl (RSl (RI .u8))) [sl v1] l :: imm (RSl (RI .u8)) [sl v3] swaps :: box b48 29 [(.int .i64 r41.1.1), (sl v43), (.int .i64 r41.1.2.2.1), (.int .i64 r41.1.2.2.2.1), (sl v45)] :: osl (RP (RSl (RP (RI .u8) (RI .i64))) (RI .i64)) 60 (sl v43) r41.1.2.1 R44 :: osl (RI .i64) 3 (sl v45) r41.1.2.2.2.2 R46 :: box b58 29 [(.int .i64 r51.1.1), (sl v53), (.int .i64 r51.1.2.2.1), (.int .i64 r51.1.2.2.2.1), (sl v55)] :: osl (RP (RSl (RP (RI .u8) (RI .i64))) (RI .i64)) 60 (sl v53) r51.1.2.1 R54 :: osl (RI .i64) 3 (sl v55) r51.1.2.2.2.2 R56 :: osl (RSl (RI .u8)) 23 (sl v64) l68 R65 :: Φ) w67) (fun ⟨l68, i69⟩ (_ : Unit) => [(0, true, (sl v1)), (1, true, (sl v3)), (5, true, (.bool r3)), (8, true, (.pointer (some ⟨b48, 0, none⟩))), (9, true, (.int .i64 r41.2)), (10, true, (.pointer (some ⟨b58, 0, none⟩))), (12, true, (sl v64)), (13, true, (.int .i64 i69))]) hm () (hs.re 9 [7, 8, 4, 5, 6, 1, 2, 3, 0] rfl) rfl ?_
        rintro again70 ⟨l68, i69⟩ _ w67 hm hs
        unfold scrutinylaw09_DfaOrder_L2 at hm
        dsimp only at hm
        refine WC_seq ?_
        refine WC_seq ?_
        refine WC_region ?_
        refine WL_op (Run_move (Opd.t rfl)) rfl rfl rfl rfl <| WL_op (Run_move (Opd.t rfl)) rfl rfl rfl rfl <| WL_op (Run_lenSlG Try.underlying23 (Opd.t rfl) (fun hg => (hs.sl (i := 1) rfl).len)) rfl rfl rfl rfl <| WL_op (Run_ltI (Opd.t rfl) (Opd.t rfl)) rfl rfl rfl rfl <| ?_
        refine WL_nil ?_
        refine At_then ?_
        refine WC_cond (Opd.t rfl) (fun hc71 => ?_) (fun hc71 => ?_)
        ·
          replace hm := bif_t hc71 hm
          refine WC_skip ?_
          refine At_then ?_
          refine WC_seq ?_
          refine WC_block ?_
          refine WC_seq ?_
          refine WC_region ?_
          refine WL_op (Run_move (Opd.t rfl)) rfl rfl rfl rfl <| WL_op (Run_move (Opd.t rfl)) rfl rfl rfl rfl <| ?_
          obtain ⟨e72, he73, hm⟩ := bind_some' hm
          refine WL_op (Run_idxAddr (p := (elA (sl v3) i69 1)) Try.underlying23 ti5 (Opd.t rfl) (Opd.t rfl) (fun hg => (SRd.atA (A := (RI .u8)) (v := (sl v3)) (hs.sl (i := 1) rfl) he73).1)) rfl rfl rfl rfl <| WL_op (Run_load1 (v := (.int .u8 e72)) Try.underlying5 rfl (Opd.t rfl) (fun hg => (SRd.cellsF (A := (RI .u8)) (v := (sl v3)) (hs.sl (i := 1) rfl) he73 (fun _ h => openT5 h)).sub 0 rfl)) rfl rfl rfl rfl <| WL_op (Run_conv Try.underlying5 Try.underlying3 (Opd.t rfl)) rfl rfl rfl rfl <| WL_op (Run_move (Opd.t rfl)) rfl rfl rfl rfl <| WL_op (Run_lenSlG Try.underlying22 (Opd.t rfl) (fun _ => (hs.own (i := 8) rfl).len)) rfl rfl rfl rfl <| ?_
          obtain ⟨k74, hm⟩ := chk_some hm
          refine WL_op (Run_rem (Opd.t rfl) (Opd.t rfl) (by simpa using k74)) rfl rfl rfl rfl <| WL_op (Run_assign (Opd.t rfl)) rfl rfl rfl rfl <| ?_
          refine WL_nil ?_
          refine At_then ?_
          refine WC_seq ?_
          refine WC_region ?_
          refine WL_op (Run_move (Opd.t rfl)) rfl rfl rfl rfl <| WL_op (Run_move (Opd.t rfl)) rfl rfl rfl rfl <| WL_op (Run_lenSlG Try.underlying22 (Opd.t rfl) (fun _ => (hs.own (i := 8) rfl).len)) rfl rfl rfl rfl <| ?_
          obtain ⟨k75, hm⟩ := chk_some hm
          refine WL_op (Run_rem (Opd.t rfl) (Opd.t rfl) (by simpa using k75)) rfl rfl rfl rfl <| WL_op (Run_assign (Opd.t rfl)) rfl rfl rfl rfl <| ?_
          refine WL_nil ?_
          refine At_then ?_
          refine WC_region_mixed [0, 0, 0, 0, 0, 0, 48, 64, 0, 0, 768, 1024, 2291, 6387, 16383, 32767] (.q 0 0 (.q 1 1 (.q 2 3 (.q 3 7 (.q 4 15 (.q 5 31 (.q 6 63 (.q 7 127 (.q 8 255 (.q 9 511 (.q 10 1023 (.q 11 2047 (.q 12 4095 (.l 13 8191 (.q 14 16383 (.l 15 32767 .nil)))))))))))))))) (by kernel_rfl) (by kernel_rfl) ?_
          intro w76 hx77
          replace hs := hs.ext hx77
          refine WD_pure (fun _ => (Run_move (Opd.t rfl))) rfl rfl rfl rfl <| WD_pure (fun _ => (Run_move (Opd.t rfl))) rfl rfl rfl rfl <| WD_pure (fun _ => (Run_move (Opd.t rfl))) rfl rfl rfl rfl <| WD_pure (fun _ => (Run_move (Opd.t rfl))) rfl rfl rfl rfl <| WD_pure (fun _ => (Run_move (Opd.t rfl))) rfl rfl rfl rfl <| WD_pure (fun _ => (Run_move (Opd.t rfl))) rfl rfl rfl rfl <| ?_
          obtain ⟨e78, he79, hm⟩ := bind_some' hm
          obtain ⟨v80, hC81, hN82, hR83⟩ := cellsMO23 (g := true) (fun hg => (hs.own (i := 8) rfl)) (fun hg => he79)
          replace hs := hs.addL [imm (RSl (RI .u8)) [sl v80] e78] rfl ⟨⟨_, rfl, hR83 rfl⟩, trivial⟩
          replace hs := Sat.n10 (Γ := Φ) hs rfl
          refine WD_pure (fun _ => (Run_idxAddr (p := (elA (sl v64) (Int.tmod i69 (List.length l68 : Int)) 1)) Try.underlying22 ti23 (Opd.t rfl) (Opd.t rfl) (fun hg => (Own.atA (A := (RSl (RI .u8))) (v := (sl v64)) (hs.own (i := 9) rfl) he79).1))) rfl rfl rfl rfl <| WD_op (fun w => true = true → CellsAt w (elA (sl v64) (Int.tmod i69 (List.length l68 : Int)) 1) [(sl v80)]) (fun hg => (hC81 hg).sub 0 rfl) (fun _ hJ => (Run_load1 (v := (sl v80)) Try.underlying23 rfl (Opd.t rfl) hJ)) rfl rfl rfl rfl <| WD_pure (fun _ => (Run_move (Opd.t rfl))) rfl rfl rfl rfl <| WD_pure (fun _ => (Run_move (Opd.t rfl))) rfl rfl rfl rfl <| ?_
          obtain ⟨e84, he85, hm⟩ := bind_some' hm
          obtain ⟨v86, hC87, hN88, hR89⟩ := cellsMO23 (g := true) (fun hg => (hs.own (i := 9) rfl)) (fun hg => he85)
          replace hs := hs.addL [imm (RSl (RI .u8)) [sl v86] e84] rfl ⟨⟨_, rfl, hR89 rfl⟩, trivial⟩
          replace hs := Sat.n11 (Γ := Φ) hs rfl
          refine WD_pure (fun _ => (Run_idxAddr (p := (elA (sl v64) (Int.tmod (IntKind.i64.wrap e72) (List.length l68 : Int)) 1)) Try.underlying22 ti23 (Opd.t rfl) (Opd.t rfl) (fun hg => (Own.atA (A := (RSl (RI .u8))) (v := (sl v64)) (hs.own (i := 10) rfl) he85).1))) rfl rfl rfl rfl <| WD_op (fun w => true = true → CellsAt w (elA (sl v64) (Int.tmod (IntKind.i64.wrap e72) (List.length l68 : Int)) 1) [(sl v86)]) (fun hg => (hC87 hg).sub 0 rfl) (fun _ hJ => (Run_load1 (v := (sl v86)) Try.underlying23 rfl (Opd.t rfl) hJ)) rfl rfl rfl rfl <| ?_
          obtain ⟨e90, he91, hm⟩ := bind_some' hm
          obtain ⟨v92, hC93, hN94, hR95⟩ := cellsMO23 (g := true) (fun hg => (hs.own (i := 10) rfl)) (fun hg => he91)
          replace hs := hs.addL [imm (RSl (RI .u8)) [sl v92] e90] rfl ⟨⟨_, rfl, hR95 rfl⟩, trivial⟩
          replace hs := Sat.n12 (Γ := Φ) hs rfl
          refine WD_pure (fun _ => (Run_idxAddr (p := (elA (sl v64) (Int.tmod (IntKind.i64.wrap e72) (List.length l68 : Int)) 1)) Try.underlying22 ti23 (Opd.t rfl) (Opd.t rfl) (fun hg => (Own.atA (A := (RSl (RI .u8))) (v := (sl v64)) (hs.own (i := 11) rfl) he91).1))) rfl rfl rfl rfl <| ?_
          refine WD_loud (pend' := []) rfl (by kernel_rfl) ?_
          refine WS_storeElA (A := (RSl (RI .u8))) (us := [(sl v80)]) (u := e78) hs 11 rfl ti23 (idx_inB he91 (by simp)) (Opd.t rfl) (Opd.t rfl) rfl rfl rfl rfl ⟨_, rfl, (hs.sl (i := 2) rfl)⟩ ?_
          intro w96 hs
          replace hs := Sat.n12 (Γ := Φ) hs rfl
          refine WL_nil ?_
          refine At_QK allJ_nil ?_
          obtain ⟨e97, he98, hm⟩ := bind_some' hm
          obtain ⟨v99, hC100, hN101, hR102⟩ := cellsMO23 (g := true) (fun hg => (hs.own (i := 11) rfl)) (fun hg => he98)
          replace hs := hs.addL [imm (RSl (RI .u8)) [sl v99] e97] rfl ⟨⟨_, rfl, hR102 rfl⟩, trivial⟩
          replace hs := Sat.n13 (Γ := Φ) hs rfl
          refine WD_pure (fun _ => (Run_idxAddr (p := (elA (sl v64) (Int.tmod i69 (List.length l68 : Int)) 1)) Try.underlying22 ti23 (Opd.t rfl) (Opd.t rfl) (fun hg => (Own.atA (A := (RSl (RI .u8))) (v := (sl v64)) (hs.own (i := 12) rfl) he98).1))) rfl rfl rfl rfl <| ?_
          refine WD_loud (pend' := []) rfl (by kernel_rfl) ?_
          refine WS_storeElA (A := (RSl (RI .u8))) (us := [(sl v86)]) (u := e84) hs 12 rfl ti23 (idx_inB he98 (by simp)) (Opd.t rfl) (Opd.t rfl) rfl rfl rfl rfl ⟨_, rfl, (hs.sl (i := 2) rfl)⟩ ?_
          intro w103 hs
          replace hs := Sat.n13 (Γ := Φ) hs rfl
          refine WL_nil ?_
          refine At_QK allJ_nil ?_
          refine WD_nil ?_
          refine At_blk_normal ?_
          refine At_then ?_
          refine WC_region ?_
          refine WL_op (Run_move (Opd.t rfl)) rfl rfl rfl rfl <| WL_op (Run_add (Opd.t rfl) Opd.c) rfl rfl rfl rfl <| WL_op (Run_assign (Opd.t rfl)) rfl rfl rfl rfl <| ?_
          refine WL_nil ?_
          exact At_again ((List.set (List.set l68 (Int.toNat (Int.tmod (IntKind.i64.wrap e72) (List.length l68 : Int))) e78) (Int.toNat (Int.tmod i69 (List.length l68 : Int))) e84), (IntKind.i64.wrap (i69 + 1))) () hm (hs.re 13 [4, 5, 6, 7, 8, 9, 10, 11, 12] rfl) rfl
        ·
          replace hm := bif_f hc71 hm
          refine WC_exit ?_
          refine At_then_exit <| At_then_exit <| At_blk_here <| ?_
          refine At_then ?_
          refine WC_seq ?_
          refine WC_seq ?_
          refine WC_region ?_
          refine WL_op (Run_assign Opd.c) rfl rfl rfl rfl <| ?_
          refine WL_nil ?_
          refine At_then ?_
          refine WC_block ?_
          replace hs := hs.freeze (i := 8) rfl
          replace hs := hs.freeze (i := 3) rfl
          replace hs := hs.freeze (i := 4) rfl
          replace hs := hs.freeze (i := 6) rfl
          replace hs := hs.freeze (i := 7) rfl
          refine WC_loop (σ := Int × (List ((List (Int × Int)) × Int)) × Int × Int × (List Int) × Int × (List ((List (Int × Int)) × Int)) × Int × Int × (List Int) × Int) (γ := SLV × SLV × SLV × SLV) (F := (scrutinylaw09_DfaOrder_L3 l r3 r41 l68)) (N := FUEL) (s0 := (r41.1.1, r41.1.2.1, r41.1.2.2.1, r41.1.2.2.2.1, r41.1.2.2.2.2, r51.1.1, r51.1.2.1, r51.1.2.2.1, r51.1.2.2.2.1, r51.1.2.2.2.2, 0)) (r := r) (fun ⟨c105, c106, c108, c109, c110, c112, c113, c115, c116, c117, i119⟩ ⟨v107, v111, v114, v118⟩ w104 => Sat (imm (RSl (RSl (RI .u8))) [sl v1] l :: box b48 29 [(.int .i64 c105), (sl v107), (.int .i64 c108), (.int .i64 c109), (sl v111)] :: imm (RSl (RP (RSl (RP (RI .u8) (RI .i64))) (RI .i64))) [sl v107] c106 :: imm (RSl (RI .i64)) [sl v111] c110 :: box b58 29 [(.int .i64 c112), (sl v114), (.int .i64 c115), (.int .i64 c116), (sl v118)] :: imm (RSl (RP (RSl (RP (RI .u8) (RI .i64))) (RI .i64))) [sl v114] c113 :: imm (RSl (RI .i64)) [sl v118] c117 :: imm (RSl (RSl (RI .u8))) [sl v64] l68 :: Φ) w104) (fun ⟨c105, c106, c108, c109, c110, c112, c113, c115, c116, c117, i119⟩ ⟨v107, v111, v114, v118⟩ => [(0, true, (sl v1)), (5, true, (.bool r3)), (8, true, (.pointer (some ⟨b48, 0, none⟩))), (9, true, (.int .i64 r41.2)), (10, true, (.pointer (some ⟨b58, 0, none⟩))), (12, true, (sl v64)), (16, true, (.int .i64 i119))]) hm (v43, v45, v53, v55) (hs.re 9 [0, 2, 3, 4, 5, 6, 7, 8] rfl) rfl ?_
          rintro again120 ⟨c105, c106, c108, c109, c110, c112, c113, c115, c116, c117, i119⟩ ⟨v107, v111, v114, v118⟩ w104 hm hs
          unfold scrutinylaw09_DfaOrder_L3 at hm
          dsimp only at hm
          refine WC_seq ?_
          refine WC_seq ?_
          refine WC_region ?_
          refine WL_op (Run_move (Opd.t rfl)) rfl rfl rfl rfl <| WL_op (Run_move (Opd.t rfl)) rfl rfl rfl rfl <| WL_op (Run_lenSlG Try.underlying22 (Opd.t rfl) (fun hg => (hs.sl (i := 0) rfl).len)) rfl rfl rfl rfl <| WL_op (Run_ltI (Opd.t rfl) (Opd.t rfl)) rfl rfl rfl rfl <| ?_
          refine WL_nil ?_
          refine At_then ?_
          refine WC_cond (Opd.t rfl) (fun hc121 => ?_) (fun hc121 => ?_)
          ·
            replace hm := bif_t hc121 hm
            refine WC_skip ?_
            refine At_then ?_
            refine WC_seq ?_
            refine WC_block ?_
            refine WC_seq ?_
            refine WC_region_mixed [0, 0, 0, 6, 8, 17, 32, 64, 64, 64, 0, 1279, 3583, 8191] (.q 0 0 (.q 1 1 (.q 2 3 (.q 3 7 (.q 4 15 (.l2 31 5 (.q 6 63 (.q 7 127 (.q 8 255 (.q 9 511 (.l 10 1023 (.l 11 2047 (.q 12 4095 (.q 13 8191 .nil)))))))) 10 (.l 5 1055 (.q 6 1087 (.q 7 1151 (.q 8 1279 (.q 9 1535 (.l 11 2047 (.q 12 4095 (.q 13 8191 .nil)))))))))))))) (by kernel_rfl) (by kernel_rfl) ?_
            intro w122 hx123
            replace hs := hs.ext hx123
            refine WD_op (fun w => CellsAt w ⟨b48, 0, none⟩ [(.int .i64 c105), (sl v107), (.int .i64 c108), (.int .i64 c109), (sl v111)]) ((hs.box (i := 1) rfl).part 0 rfl) (fun _ hJ => (Run_loadA (vs := [(.int .i64 c105), (sl v107), (.int .i64 c108), (.int .i64 c109), (sl v111)]) Try.underlying29 rfl ti29 (Opd.t rfl) (fun _ => hJ) rfl)) rfl rfl rfl rfl <| WD_pure (fun _ => (Run_move (Opd.t rfl))) rfl rfl rfl rfl <| WD_pure (fun _ => (Run_move (Opd.t rfl))) rfl rfl rfl rfl <| ?_
            obtain ⟨e124, he125, hm⟩ := bind_some' hm
            obtain ⟨v126, hC127, hN128, hR129⟩ := cellsM23 (g := true) (fun hg => (hs.sl (i := 0) rfl)) (fun hg => he125)
            replace hs := hs.addL [elem true (elA (sl v1) i119 1) [(sl v126)], imm (RSl (RI .u8)) [sl v126] e124] rfl ⟨fun hg => ⟨hN128 hg, hC127 hg⟩, ⟨_, rfl, hR129 rfl⟩, trivial⟩
            replace hs := Sat.n10 (Γ := Φ) hs rfl
            refine WD_pure (fun _ => (Run_idxAddr (p := (elA (sl v1) i119 1)) Try.underlying22 ti23 (Opd.t rfl) (Opd.t rfl) (fun hg => (SRd.atA (A := (RSl (RI .u8))) (v := (sl v1)) (hs.sl (i := 2) rfl) he125).1))) rfl rfl rfl rfl <| WD_op (fun w => true = true → CellsAt w (elA (sl v1) i119 1) [(sl v126)]) (fun hg => ((hs.elem (i := 0) rfl) hg).sub 0 rfl) (fun _ hJ => (Run_load1 (v := (sl v126)) Try.underlying23 rfl (Opd.t rfl) hJ)) rfl rfl rfl rfl <| ?_
            refine WD_loud2 ?_ ?_
            ·
              refine WD_loud (pend' := []) rfl (by kernel_rfl) ?_
              obtain ⟨r130, hr131, hm⟩ := bind_some' hm
              refine WL_call (f := 13) (first := []) (cap := []) (xs := [(.tmp 115), (.tmp 119)]) (vs := [(.agg #[(.int .i64 c105), (sl v107), (.int .i64 c108), (.int .i64 c109), (sl v111)]), (sl v126)]) (args := [(.agg #[(.int .i64 c105), (sl v107), (.int .i64 c108), (.int .i64 c109), (sl v111)]), (sl v126)]) Try.call13 Opd.f (.cons (Opd.t rfl) (.cons (Opd.t rfl) .nil)) rfl rfl (dfa_Insert_ok (d := (c105, c106, c108, c109, c110)) (hs.re 10 [4, 5, 1, 0, 1, 2, 3, 4, 5, 6, 7, 8, 9] rfl) hr131) ?_
              rintro _ w134 ⟨v132, v133, rfl, hs⟩
              replace hs := Sat.n12 (Γ := Φ) hs rfl
              refine WL_nil ?_
              refine At_QK allJ_nil ?_
              refine WD_pure (fun _ => (Run_move (Opd.t rfl))) rfl rfl rfl rfl <| WD_pure (fun _ => (Run_extract (vs := [(.agg #[(.int .i64 r130.1.1), (sl v132), (.int .i64 r130.1.2.2.1), (.int .i64 r130.1.2.2.2.1), (sl v133)]), (.bool r130.2.1), (.int .i64 r130.2.2)]) (Opd.t rfl) rfl)) rfl rfl rfl rfl <| WD_pure (fun _ => (Run_extract (vs := [(.agg #[(.int .i64 r130.1.1), (sl v132), (.int .i64 r130.1.2.2.1), (.int .i64 r130.1.2.2.2.1), (sl v133)]), (.bool r130.2.1), (.int .i64 r130.2.2)]) (Opd.t rfl) rfl)) rfl rfl rfl rfl <| WD_pure (fun _ => (Run_extract (vs := [(.agg #[(.int .i64 r130.1.1), (sl v132), (.int .i64 r130.1.2.2.1), (.int .i64 r130.1.2.2.2.1), (sl v133)]), (.bool r130.2.1), (.int .i64 r130.2.2)]) (Opd.t rfl) rfl)) rfl rfl rfl rfl <| ?_
              refine WD_loud (pend' := []) rfl (by kernel_rfl) ?_
              refine WS_alloc (zs := [(.int .i64 0), (sl (none, 0, 0)), (.int .i64 0), (.int .i64 0), (sl (none, 0, 0))]) hs ti29 rfl rfl ?_
              intro b135 w136 hs
              replace hs := Sat.n13 (Γ := Φ) hs rfl
              refine WL_nil ?_
              refine At_QK allJ_nil ?_
              refine WD_loud (pend' := []) rfl (by kernel_rfl) ?_
              refine WS_store (us := [(.int .i64 r130.1.1), (sl v132), (.int .i64 r130.1.2.2.1), (.int .i64 r130.1.2.2.2.1), (sl v133)]) (vs' := [(.int .i64 r130.1.1), (sl v132), (.int .i64 r130.1.2.2.1), (.int .i64 r130.1.2.2.2.1), (sl v133)]) hs 0 rfl ti29 (Opd.t rfl) (Opd.t rfl) rfl rfl rfl rfl rfl ?_
              intro w137 hs
              replace hs := Sat.n13 (Γ := Φ) hs rfl
              refine WL_nil ?_
              refine At_QK allJ_nil ?_
              refine WD_pure (fun _ => (Run_assign (Opd.t rfl))) rfl rfl rfl rfl <| WD_pure (fun _ => (Run_assign (Opd.t rfl))) rfl rfl rfl rfl <| ?_
              refine WD_nil ?_
              refine At_then ?_
              refine WC_seq ?_
              refine WC_region_mixed [0, 0, 0, 6, 8, 17, 32, 64, 64, 64, 0, 1279, 3583, 8191] (.q 0 0 (.q 1 1 (.q 2 3 (.q 3 7 (.q 4 15 (.l2 31 5 (.q 6 63 (.q 7 127 (.q 8 255 (.q 9 511 (.l 10 1023 (.l 11 2047 (.q 12 4095 (.q 13 8191 .nil)))))))) 10 (.l 5 1055 (.q 6 1087 (.q 7 1151 (.q 8 1279 (.q 9 1535 (.l 11 2047 (.q 12 4095 (.q 13 8191 .nil)))))))))))))) (by kernel_rfl) (by kernel_rfl) ?_
              intro w138 hx139
              replace hs := hs.ext hx139
              refine WD_op (fun w => CellsAt w ⟨b58, 0, none⟩ [(.int .i64 c112), (sl v114), (.int .i64 c115), (.int .i64 c116), (sl v118)]) ((hs.box (i := 9) rfl).part 0 rfl) (fun _ hJ => (Run_loadA (vs := [(.int .i64 c112), (sl v114), (.int .i64 c115), (.int .i64 c116), (sl v118)]) Try.underlying29 rfl ti29 (Opd.t rfl) (fun _ => hJ) rfl)) rfl rfl rfl rfl <| WD_pure (fun _ => (Run_move (Opd.t rfl))) rfl rfl rfl rfl <| WD_pure (fun _ => (Run_move (Opd.t rfl))) rfl rfl rfl rfl <| ?_
              obtain ⟨e140, he141, hm⟩ := bind_some' hm
              obtain ⟨v142, hC143, hN144, hR145⟩ := cellsM23 (g := true) (fun hg => (hs.sl (i := 12) rfl)) (fun hg => he141)
              replace hs := hs.addL [elem true (elA (sl v64) i119 1) [(sl v142)], imm (RSl (RI .u8)) [sl v142] e140] rfl ⟨fun hg => ⟨hN144 hg, hC143 hg⟩, ⟨_, rfl, hR145 rfl⟩, trivial⟩
              replace hs := Sat.n15 (Γ := Φ) hs rfl
              refine WD_pure (fun _ => (Run_idxAddr (p := (elA (sl v64) i119 1)) Try.underlying22 ti23 (Opd.t rfl) (Opd.t rfl) (fun hg => (SRd.atA (A := (RSl (RI .u8))) (v := (sl v64)) (hs.sl (i := 14) rfl) he141).1))) rfl rfl rfl rfl <| WD_op (fun w => true = true → CellsAt w (elA (sl v64) i119 1) [(sl v142)]) (fun hg => ((hs.elem (i := 0) rfl) hg).sub 0 rfl) (fun _ hJ => (Run_load1 (v := (sl v142)) Try.underlying23 rfl (Opd.t rfl) hJ)) rfl rfl rfl rfl <| ?_
              refine WD_loud2 ?_ ?_
              ·
                refine WD_loud (pend' := []) rfl (by kernel_rfl) ?_
                obtain ⟨r146, hr147, hm⟩ := bind_some' hm
                refine WL_call (f := 13) (first := []) (cap := []) (xs := [(.tmp 125), (.tmp 129)]) (vs := [(.agg #[(.int .i64 c112), (sl v114), (.int .i64 c115), (.int .i64 c116), (sl v118)]), (sl v142)]) (args := [(.agg #[(.int .i64 c112), (sl v114), (.int .i64 c115), (.int .i64 c116), (sl v118)]), (sl v142)]) Try.call13 Opd.f (.cons (Opd.t rfl) (.cons (Opd.t rfl) .nil)) rfl rfl (dfa_Insert_ok (d := (c112, c113, c115, c116, c117)) (hs.re 15 [12, 13, 1, 0, 1, 2, 3, 4, 5, 6, 7, 8, 9, 10, 11, 12, 13, 14] rfl) hr147) ?_
                rintro _ w150 ⟨v148, v149, rfl, hs⟩
                replace hs := Sat.n17 (Γ := Φ) hs rfl
                refine WL_nil ?_
                refine At_QK allJ_nil ?_
                refine WD_pure (fun _ => (Run_move (Opd.t rfl))) rfl rfl rfl rfl <| WD_pure (fun _ => (Run_extract (vs := [(.agg #[(.int .i64 r146.1.1), (sl v148), (.int .i64 r146.1.2.2.1), (.int .i64 r146.1.2.2.2.1), (sl v149)]), (.bool r146.2.1), (.int .i64 r146.2.2)]) (Opd.t rfl) rfl)) rfl rfl rfl rfl <| WD_pure (fun _ => (Run_extract (vs := [(.agg #[(.int .i64 r146.1.1), (sl v148), (.int .i64 r146.1.2.2.1), (.int .i64 r146.1.2.2.2.1), (sl v149)]), (.bool r146.2.1), (.int .i64 r146.2.2)]) (Opd.t rfl) rfl)) rfl rfl rfl rfl <| WD_pure (fun _ => (Run_extract (vs := [(.agg #[(.int .i64 r146.1.1), (sl v148), (.int .i64 r146.1.2.2.1), (.int .i64 r146.1.2.2.2.1), (sl v149)]), (.bool r146.2.1), (.int .i64 r146.2.2)]) (Opd.t rfl) rfl)) rfl rfl rfl rfl <| ?_
                refine WD_loud (pend' := []) rfl (by kernel_rfl) ?_
                refine WS_alloc (zs := [(.int .i64 0), (sl (none, 0, 0)), (.int .i64 0), (.int .i64 0), (sl (none, 0, 0))]) hs ti29 rfl rfl ?_
                intro b151 w152 hs
                replace hs := Sat.n18 (Γ := Φ) hs rfl
                refine WL_nil ?_
                refine At_QK allJ_nil ?_
                refine WD_loud (pend' := []) rfl (by kernel_rfl) ?_
                refine WS_store (us := [(.int .i64 r146.1.1), (sl v148), (.int .i64 r146.1.2.2.1), (.int .i64 r146.1.2.2.2.1), (sl v149)]) (vs' := [(.int .i64 r146.1.1), (sl v148), (.int .i64 r146.1.2.2.1), (.int .i64 r146.1.2.2.2.1), (sl v149)]) hs 0 rfl ti29 (Opd.t rfl) (Opd.t rfl) rfl rfl rfl rfl rfl ?_
                intro w153 hs
                replace hs := Sat.n18 (Γ := Φ) hs rfl
                refine WL_nil ?_
                refine At_QK allJ_nil ?_
                refine WD_pure (fun _ => (Run_assign (Opd.t rfl))) rfl rfl rfl rfl <| WD_pure (fun _ => (Run_assign (Opd.t rfl))) rfl rfl rfl rfl <| ?_
                refine WD_nil ?_
                refine At_then ?_
                refine WC_seq ?_
                refine WC_seq ?_
                refine WC_region ?_
                refine WL_op (Run_move (Opd.t rfl)) rfl rfl rfl rfl <| ?_
                obtain ⟨b154, e155, hm⟩ := letv_some hm
                refine WL_op (Run.eqB (Run_neI (Opd.t rfl) Opd.c) e155) rfl rfl rfl rfl <| WL_op (Run_move (Opd.t rfl)) rfl rfl rfl rfl <| WL_opG rfl rfl rfl rfl guard_neg (Run_move (Opd.t rfl)) rfl rfl rfl <| ?_
                obtain ⟨b156, e157, hm⟩ := letv_some hm
                refine WL_opG rfl rfl rfl rfl guard_neg (Run.eqB (Run_neI (Opd.g rfl id) Opd.c) e157) rfl rfl rfl <| ?_
                obtain ⟨b158, e159, hm⟩ := letv_some hm
                refine WL_op (Run.eqB (Run_or (Opd.t rfl) (Opd.g rfl id)) e159) rfl rfl rfl rfl <| ?_
                refine WL_nil ?_
                refine At_then ?_
                refine WC_cond (Opd.t rfl) (fun hc160 => ?_) (fun hc160 => ?_)
                ·
                  replace hm := bif_t hc160 hm
                  refine WC_seq ?_
                  refine WC_region ?_
                  refine WL_op (Run_assign Opd.c) rfl rfl rfl rfl <| ?_
                  refine WL_nil ?_
                  refine At_then ?_
                  refine WC_ret ?_
                  refine At_then_ret <| At_blk_ret <| At_then_ret <| At_then_ret <| At_blk_ret <| At_then_ret <| ?_
                  refine At_r1 rfl (ResIs.t rfl) ?_
                  cases hm
                  exact ⟨rfl, (hs.re 18 [] rfl)⟩
                ·
                  replace hm := bif_f hc160 hm
                  refine WC_skip ?_
                  refine At_then ?_
                  refine WC_seq ?_
                  refine WC_region ?_
                  refine WL_op (Run_loadA (vs := [(.int .i64 r130.1.1), (sl v132), (.int .i64 r130.1.2.2.1), (.int .i64 r130.1.2.2.2.1), (sl v133)]) Try.underlying29 rfl ti29 (Opd.t rfl) (fun _ => (hs.box (i := 5) rfl).part 0 rfl) rfl) rfl rfl rfl rfl <| ?_
                  refine WS_store (us := [(.int .i64 r130.1.1), (sl v132), (.int .i64 r130.1.2.2.1), (.int .i64 r130.1.2.2.2.1), (sl v133)]) (vs' := [(.int .i64 r130.1.1), (sl v132), (.int .i64 r130.1.2.2.1), (.int .i64 r130.1.2.2.2.1), (sl v133)]) hs 11 rfl ti29 (Opd.t rfl) (Opd.t rfl) rfl rfl rfl rfl rfl ?_
                  intro w161 hs
                  replace hs := Sat.n18 (Γ := Φ) hs rfl
                  refine WL_nil ?_
                  refine At_then ?_
                  refine WC_region ?_
                  refine WL_op (Run_loadA (vs := [(.int .i64 r146.1.1), (sl v148), (.int .i64 r146.1.2.2.1), (.int .i64 r146.1.2.2.2.1), (sl v149)]) Try.underlying29 rfl ti29 (Opd.t rfl) (fun _ => (hs.box (i := 0) rfl).part 0 rfl) rfl) rfl rfl rfl rfl <| ?_
                  refine WS_store (us := [(.int .i64 r146.1.1), (sl v148), (.int .i64 r146.1.2.2.1), (.int .i64 r146.1.2.2.2.1), (sl v149)]) (vs' := [(.int .i64 r146.1.1), (sl v148), (.int .i64 r146.1.2.2.1), (.int .i64 r146.1.2.2.2.1), (sl v149)]) hs 14 rfl ti29 (Opd.t rfl) (Opd.t rfl) rfl rfl rfl rfl rfl ?_
                  intro w162 hs
                  replace hs := Sat.n18 (Γ := Φ) hs rfl
                  refine WL_nil ?_
                  refine At_blk_normal ?_
                  refine At_then ?_
                  refine WC_region ?_
                  refine WL_op (Run_move (Opd.t rfl)) rfl rfl rfl rfl <| WL_op (Run_add (Opd.t rfl) Opd.c) rfl rfl rfl rfl <| WL_op (Run_assign (Opd.t rfl)) rfl rfl rfl rfl <| ?_
                  refine WL_nil ?_
                  exact At_again (r130.1.1, r130.1.2.1, r130.1.2.2.1, r130.1.2.2.2.1, r130.1.2.2.2.2, r146.1.1, r146.1.2.1, r146.1.2.2.1, r146.1.2.2.2.1, r146.1.2.2.2.2, (IntKind.i64.wrap (i119 + 1))) (v132, v133, v148, v149) hm (hs.re 18 [10, 11, 6, 7, 14, 1, 2, 17] rfl) rfl
              ·
                refine WD_loud (pend' := [(4, fun w => true = true → CellsAt w (elA (sl v64) i119 1) [(sl v142)]), (0, fun w => CellsAt w ⟨b58, 0, none⟩ [(.int .i64 c112), (sl v114), (.int .i64 c115), (.int .i64 c116), (sl v118)])]) rfl (by kernel_rfl) ?_
                refine WS_alloc (zs := [(.int .i64 0), (sl (none, 0, 0)), (.int .i64 0), (.int .i64 0), (sl (none, 0, 0))]) hs ti29 rfl rfl ?_
                intro b163 w164 hs
                replace hs := Sat.n16 (Γ := Φ) hs rfl
                refine WL_nil ?_
                refine At_QK (allJ_cons (fun hg => ((hs.elem (i := 1) rfl) hg).sub 0 rfl) (allJ_cons ((hs.box (i := 12) rfl).part 0 rfl) allJ_nil)) ?_
                refine WD_loud (pend' := []) rfl (by kernel_rfl) ?_
                obtain ⟨r165, hr166, hm⟩ := bind_some' hm
                refine WL_call (f := 13) (first := []) (cap := []) (xs := [(.tmp 125), (.tmp 129)]) (vs := [(.agg #[(.int .i64 c112), (sl v114), (.int .i64 c115), (.int .i64 c116), (sl v118)]), (sl v142)]) (args := [(.agg #[(.int .i64 c112), (sl v114), (.int .i64 c115), (.int .i64 c116), (sl v118)]), (sl v142)]) Try.call13 Opd.f (.cons (Opd.t rfl) (.cons (Opd.t rfl) .nil)) rfl rfl (dfa_Insert_ok (d := (c112, c113, c115, c116, c117)) (hs.re 16 [13, 14, 2, 0, 1, 2, 3, 4, 5, 6, 7, 8, 9, 10, 11, 12, 13, 14, 15] rfl) hr166) ?_
                rintro _ w169 ⟨v167, v168, rfl, hs⟩
                replace hs := Sat.n18 (Γ := Φ) hs rfl
                refine WL_nil ?_
                refine At_QK allJ_nil ?_
                refine WD_pure (fun _ => (Run_move (Opd.t rfl))) rfl rfl rfl rfl <| WD_pure (fun _ => (Run_extract (vs := [(.agg #[(.int .i64 r165.1.1), (sl v167), (.int .i64 r165.1.2.2.1), (.int .i64 r165.1.2.2.2.1), (sl v168)]), (.bool r165.2.1), (.int .i64 r165.2.2)]) (Opd.t rfl) rfl)) rfl rfl rfl rfl <| WD_pure (fun _ => (Run_extract (vs := [(.agg #[(.int .i64 r165.1.1), (sl v167), (.int .i64 r165.1.2.2.1), (.int .i64 r165.1.2.2.2.1), (sl v168)]), (.bool r165.2.1), (.int .i64 r165.2.2)]) (Opd.t rfl) rfl)) rfl rfl rfl rfl <| WD_pure (fun _ => (Run_extract (vs := [(.agg #[(.int .i64 r165.1.1), (sl v167), (.int .i64 r165.1.2.2.1), (.int .i64 r165.1.2.2.2.1), (sl v168)]), (.bool r165.2.1), (.int .i64 r165.2.2)]) (Opd.t rfl) rfl)) rfl rfl rfl rfl <| ?_
                refine WD_loud (pend' := []) rfl (by kernel_rfl) ?_
                refine WS_store (us := [(.int .i64 r165.1.1), (sl v167), (.int .i64 r165.1.2.2.1), (.int .i64 r165.1.2.2.2.1), (sl v168)]) (vs' := [(.int .i64 r165.1.1), (sl v167), (.int .i64 r165.1.2.2.1), (.int .i64 r165.1.2.2.2.1), (sl v168)]) hs 2 rfl ti29 (Opd.t rfl) (Opd.t rfl) rfl rfl rfl rfl rfl ?_
                intro w170 hs
                replace hs := Sat.n18 (Γ := Φ) hs rfl
                refine WL_nil ?_
                refine At_QK allJ_nil ?_
                refine WD_pure (fun _ => (Run_assign (Opd.t rfl))) rfl rfl rfl rfl <| WD_pure (fun _ => (Run_assign (Opd.t rfl))) rfl rfl rfl rfl <| ?_
                refine WD_nil ?_
                refine At_then ?_
                refine WC_seq ?_
                refine WC_seq ?_
                refine WC_region ?_
                refine WL_op (Run_move (Opd.t rfl)) rfl rfl rfl rfl <| ?_
                obtain ⟨b171, e172, hm⟩ := letv_some hm
                refine WL_op (Run.eqB (Run_neI (Opd.t rfl) Opd.c) e172) rfl rfl rfl rfl <| WL_op (Run_move (Opd.t rfl)) rfl rfl rfl rfl <| WL_opG rfl rfl rfl rfl guard_neg (Run_move (Opd.t rfl)) rfl rfl rfl <| ?_
                obtain ⟨b173, e174, hm⟩ := letv_some hm
                refine WL_opG rfl rfl rfl rfl guard_neg (Run.eqB (Run_neI (Opd.g rfl id) Opd.c) e174) rfl rfl rfl <| ?_
                obtain ⟨b175, e176, hm⟩ := letv_some hm
                refine WL_op (Run.eqB (Run_or (Opd.t rfl) (Opd.g rfl id)) e176) rfl rfl rfl rfl <| ?_
                refine WL_nil ?_
                refine At_then ?_
                refine WC_cond (Opd.t rfl) (fun hc177 => ?_) (fun hc177 => ?_)
                ·
                  replace hm := bif_t hc177 hm
                  refine WC_seq ?_
                  refine WC_region ?_
                  refine WL_op (Run_assign Opd.c) rfl rfl rfl rfl <| ?_
                  refine WL_nil ?_
                  refine At_then ?_
                  refine WC_ret ?_
                  refine At_then_ret <| At_blk_ret <| At_then_ret <| At_then_ret <| At_blk_ret <| At_then_ret <| ?_
                  refine At_r1 rfl (ResIs.t rfl) ?_
                  cases hm
                  exact ⟨rfl, (hs.re 18 [] rfl)⟩
                ·
                  replace hm := bif_f hc177 hm
                  refine WC_skip ?_
                  refine At_then ?_
                  refine WC_seq ?_
                  refine WC_region ?_
                  refine WL_op (Run_loadA (vs := [(.int .i64 r130.1.1), (sl v132), (.int .i64 r130.1.2.2.1), (.int .i64 r130.1.2.2.2.1), (sl v133)]) Try.underlying29 rfl ti29 (Opd.t rfl) (fun _ => (hs.box (i := 5) rfl).part 0 rfl) rfl) rfl rfl rfl rfl <| ?_
                  refine WS_store (us := [(.int .i64 r130.1.1), (sl v132), (.int .i64 r130.1.2.2.1), (.int .i64 r130.1.2.2.2.1), (sl v133)]) (vs' := [(.int .i64 r130.1.1), (sl v132), (.int .i64 r130.1.2.2.1), (.int .i64 r130.1.2.2.2.1), (sl v133)]) hs 11 rfl ti29 (Opd.t rfl) (Opd.t rfl) rfl rfl rfl rfl rfl ?_
                  intro w178 hs
                  replace hs := Sat.n18 (Γ := Φ) hs rfl
                  refine WL_nil ?_
                  refine At_then ?_
                  refine WC_region ?_
                  refine WL_op (Run_loadA (vs := [(.int .i64 r165.1.1), (sl v167), (.int .i64 r165.1.2.2.1), (.int .i64 r165.1.2.2.2.1), (sl v168)]) Try.underlying29 rfl ti29 (Opd.t rfl) (fun _ => (hs.box (i := 2) rfl).part 0 rfl) rfl) rfl rfl rfl rfl <| ?_
                  refine WS_store (us := [(.int .i64 r165.1.1), (sl v167), (.int .i64 r165.1.2.2.1), (.int .i64 r165.1.2.2.2.1), (sl v168)]) (vs' := [(.int .i64 r165.1.1), (sl v167), (.int .i64 r165.1.2.2.1), (.int .i64 r165.1.2.2.2.1), (sl v168)]) hs 14 rfl ti29 (Opd.t rfl) (Opd.t rfl) rfl rfl rfl rfl rfl ?_
                  intro w179 hs
                  replace hs := Sat.n18 (Γ := Φ) hs rfl
                  refine WL_nil ?_
                  refine At_blk_normal ?_
                  refine At_then ?_
                  refine WC_region ?_
                  refine WL_op (Run_move (Opd.t rfl)) rfl rfl rfl rfl <| WL_op (Run_add (Opd.t rfl) Opd.c) rfl rfl rfl rfl <| WL_op (Run_assign (Opd.t rfl)) rfl rfl rfl rfl <| ?_
                  refine WL_nil ?_
                  exact At_again (r130.1.1, r130.1.2.1, r130.1.2.2.1, r130.1.2.2.2.1, r130.1.2.2.2.2, r165.1.1, r165.1.2.1, r165.1.2.2.1, r165.1.2.2.2.1, r165.1.2.2.2.2, (IntKind.i64.wrap (i119 + 1))) (v132, v133, v167, v168) hm (hs.re 18 [10, 11, 6, 7, 14, 0, 1, 17] rfl) rfl
            ·
              refine WD_loud (pend' := [(4, fun w => true = true → CellsAt w (elA (sl v1) i119 1) [(sl v126)]), (0, fun w => CellsAt w ⟨b48, 0, none⟩ [(.int .i64 c105), (sl v107), (.int .i64 c108), (.int .i64 c109), (sl v111)])]) rfl (by kernel_rfl) ?_
              refine WS_alloc (zs := [(.int .i64 0), (sl (none, 0, 0)), (.int .i64 0), (.int .i64 0), (sl (none, 0, 0))]) hs ti29 rfl rfl ?_
              intro b180 w181 hs
              replace hs := Sat.n11 (Γ := Φ) hs rfl
              refine WL_nil ?_
              refine At_QK (allJ_cons (fun hg => ((hs.elem (i := 1) rfl) hg).sub 0 rfl) (allJ_cons ((hs.box (i := 4) rfl).part 0 rfl) allJ_nil)) ?_
              refine WD_loud (pend' := []) rfl (by kernel_rfl) ?_
              obtain ⟨r182, hr183, hm⟩ := bind_some' hm
              refine WL_call (f := 13) (first := []) (cap := []) (xs := [(.tmp 115), (.tmp 119)]) (vs := [(.agg #[(.int .i64 c105), (sl v107), (.int .i64 c108), (.int .i64 c109), (sl v111)]), (sl v126)]) (args := [(.agg #[(.int .i64 c105), (sl v107), (.int .i64 c108), (.int .i64 c109), (sl v111)]), (sl v126)]) Try.call13 Opd.f (.cons (Opd.t rfl) (.cons (Opd.t rfl) .nil)) rfl rfl (dfa_Insert_ok (d := (c105, c106, c108, c109, c110)) (hs.re 11 [5, 6, 2, 0, 1, 2, 3, 4, 5, 6, 7, 8, 9, 10] rfl) hr183) ?_
              rintro _ w186 ⟨v184, v185, rfl, hs⟩
              replace hs := Sat.n13 (Γ := Φ) hs rfl
              refine WL_nil ?_
              refine At_QK allJ_nil ?_
              refine WD_pure (fun _ => (Run_move (Opd.t rfl))) rfl rfl rfl rfl <| WD_pure (fun _ => (Run_extract (vs := [(.agg #[(.int .i64 r182.1.1), (sl v184), (.int .i64 r182.1.2.2.1), (.int .i64 r182.1.2.2.2.1), (sl v185)]), (.bool r182.2.1), (.int .i64 r182.2.2)]) (Opd.t rfl) rfl)) rfl rfl rfl rfl <| WD_pure (fun _ => (Run_extract (vs := [(.agg #[(.int .i64 r182.1.1), (sl v184), (.int .i64 r182.1.2.2.1), (.int .i64 r182.1.2.2.2.1), (sl v185)]), (.bool r182.2.1), (.int .i64 r182.2.2)]) (Opd.t rfl) rfl)) rfl rfl rfl rfl <| WD_pure (fun _ => (Run_extract (vs := [(.agg #[(.int .i64 r182.1.1), (sl v184), (.int .i64 r182.1.2.2.1), (.int .i64 r182.1.2.2.2.1), (sl v185)]), (.bool r182.2.1), (.int .i64 r182.2.2)]) (Opd.t rfl) rfl)) rfl rfl rfl rfl <| ?_
              refine WD_loud (pend' := []) rfl (by kernel_rfl) ?_
              refine WS_store (us := [(.int .i64 r182.1.1), (sl v184), (.int .i64 r182.1.2.2.1), (.int .i64 r182.1.2.2.2.1), (sl v185)]) (vs' := [(.int .i64 r182.1.1), (sl v184), (.int .i64 r182.1.2.2.1), (.int .i64 r182.1.2.2.2.1), (sl v185)]) hs 2 rfl ti29 (Opd.t rfl) (Opd.t rfl) rfl rfl rfl rfl rfl ?_
              intro w187 hs
              replace hs := Sat.n13 (Γ := Φ) hs rfl
              refine WL_nil ?_
              refine At_QK allJ_nil ?_
              refine WD_pure (fun _ => (Run_assign (Opd.t rfl))) rfl rfl rfl rfl <| WD_pure (fun _ => (Run_assign (Opd.t rfl))) rfl rfl rfl rfl <| ?_
              refine WD_nil ?_
              refine At_then ?_
              refine WC_seq ?_
              refine WC_region_mixed [0, 0, 0, 6, 8, 17, 32, 64, 64, 64, 0, 1279, 3583, 8191] (.q 0 0 (.q 1 1 (.q 2 3 (.q 3 7 (.q 4 15 (.l2 31 5 (.q 6 63 (.q 7 127 (.q 8 255 (.q 9 511 (.l 10 1023 (.l 11 2047 (.q 12 4095 (.q 13 8191 .nil)))))))) 10 (.l 5 1055 (.q 6 1087 (.q 7 1151 (.q 8 1279 (.q 9 1535 (.l 11 2047 (.q 12 4095 (.q 13 8191 .nil)))))))))))))) (by kernel_rfl) (by kernel_rfl) ?_
              intro w188 hx189
              replace hs := hs.ext hx189
              refine WD_op (fun w => CellsAt w ⟨b58, 0, none⟩ [(.int .i64 c112), (sl v114), (.int .i64 c115), (.int .i64 c116), (sl v118)]) ((hs.box (i := 9) rfl).part 0 rfl) (fun _ hJ => (Run_loadA (vs := [(.int .i64 c112), (sl v114), (.int .i64 c115), (.int .i64 c116), (sl v118)]) Try.underlying29 rfl ti29 (Opd.t rfl) (fun _ => hJ) rfl)) rfl rfl rfl rfl <| WD_pure (fun _ => (Run_move (Opd.t rfl))) rfl rfl rfl rfl <| WD_pure (fun _ => (Run_move (Opd.t rfl))) rfl rfl rfl rfl <| ?_
              obtain ⟨e190, he191, hm⟩ := bind_some' hm
              obtain ⟨v192, hC193, hN194, hR195⟩ := cellsM23 (g := true) (fun hg => (hs.sl (i := 12) rfl)) (fun hg => he191)
              replace hs := hs.addL [elem true (elA (sl v64) i119 1) [(sl v192)], imm (RSl (RI .u8)) [sl v192] e190] rfl ⟨fun hg => ⟨hN194 hg, hC193 hg⟩, ⟨_, rfl, hR195 rfl⟩, trivial⟩
              replace hs := Sat.n15 (Γ := Φ) hs rfl
              refine WD_pure (fun _ => (Run_idxAddr (p := (elA (sl v64) i119 1)) Try.underlying22 ti23 (Opd.t rfl) (Opd.t rfl) (fun hg => (SRd.atA (A := (RSl (RI .u8))) (v := (sl v64)) (hs.sl (i := 14) rfl) he191).1))) rfl rfl rfl rfl <| WD_op (fun w => true = true → CellsAt w (elA (sl v64) i119 1) [(sl v192)]) (fun hg => ((hs.elem (i := 0) rfl) hg).sub 0 rfl) (fun _ hJ => (Run_load1 (v := (sl v192)) Try.underlying23 rfl (Opd.t rfl) hJ)) rfl rfl rfl rfl <| ?_
              refine WD_loud2 ?_ ?_
              ·
                refine WD_loud (pend' := []) rfl (by kernel_rfl) ?_
                obtain ⟨r196, hr197, hm⟩ := bind_some' hm
                refine WL_call (f := 13) (first := []) (cap := []) (xs := [(.tmp 125), (.tmp 129)]) (vs := [(.agg #[(.int .i64 c112), (sl v114), (.int .i64 c115), (.int .i64 c116), (sl v118)]), (sl v192)]) (args := [(.agg #[(.int .i64 c112), (sl v114), (.int .i64 c115), (.int .i64 c116), (sl v118)]), (sl v192)]) Try.call13 Opd.f (.cons (Opd.t rfl) (.cons (Opd.t rfl) .nil)) rfl rfl (dfa_Insert_ok (d := (c112, c113, c115, c116, c117)) (hs.re 15 [12, 13, 1, 0, 1, 2, 3, 4, 5, 6, 7, 8, 9, 10, 11, 12, 13, 14] rfl) hr197) ?_
                rintro _ w200 ⟨v198, v199, rfl, hs⟩
                replace hs := Sat.n17 (Γ := Φ) hs rfl
                refine WL_nil ?_
                refine At_QK allJ_nil ?_
                refine WD_pure (fun _ => (Run_move (Opd.t rfl))) rfl rfl rfl rfl <| WD_pure (fun _ => (Run_extract (vs := [(.agg #[(.int .i64 r196.1.1), (sl v198), (.int .i64 r196.1.2.2.1), (.int .i64 r196.1.2.2.2.1), (sl v199)]), (.bool r196.2.1), (.int .i64 r196.2.2)]) (Opd.t rfl) rfl)) rfl rfl rfl rfl <| WD_pure (fun _ => (Run_extract (vs := [(.agg #[(.int .i64 r196.1.1), (sl v198), (.int .i64 r196.1.2.2.1), (.int .i64 r196.1.2.2.2.1), (sl v199)]), (.bool r196.2.1), (.int .i64 r196.2.2)]) (Opd.t rfl) rfl)) rfl rfl rfl rfl <| WD_pure (fun _ => (Run_extract (vs := [(.agg #[(.int .i64 r196.1.1), (sl v198), (.int .i64 r196.1.2.2.1), (.int .i64 r196.1.2.2.2.1), (sl v199)]), (.bool r196.2.1), (.int .i64 r196.2.2)]) (Opd.t rfl) rfl)) rfl rfl rfl rfl <| ?_
                refine WD_loud (pend' := []) rfl (by kernel_rfl) ?_
                refine WS_alloc (zs := [(.int .i64 0), (sl (none, 0, 0)), (.int .i64 0), (.int .i64 0), (sl (none, 0, 0))]) hs ti29 rfl rfl ?_
                intro b201 w202 hs
                replace hs := Sat.n18 (Γ := Φ) hs rfl
                refine WL_nil ?_
                refine At_QK allJ_nil ?_
                refine WD_loud (pend' := []) rfl (by kernel_rfl) ?_
                refine WS_store (us := [(.int .i64 r196.1.1), (sl v198), (.int .i64 r196.1.2.2.1), (.int .i64 r196.1.2.2.2.1), (sl v199)]) (vs' := [(.int .i64 r196.1.1), (sl v198), (.int .i64 r196.1.2.2.1), (.int .i64 r196.1.2.2.2.1), (sl v199)]) hs 0 rfl ti29 (Opd.t rfl) (Opd.t rfl) rfl rfl rfl rfl rfl ?_
                intro w203 hs
                replace hs := Sat.n18 (Γ := Φ) hs rfl
                refine WL_nil ?_
                refine At_QK allJ_nil ?_
                refine WD_pure (fun _ => (Run_assign (Opd.t rfl))) rfl rfl rfl rfl <| WD_pure (fun _ => (Run_assign (Opd.t rfl))) rfl rfl rfl rfl <| ?_
                refine WD_nil ?_
                refine At_then ?_
                refine WC_seq ?_
                refine WC_seq ?_
                refine WC_region ?_
                refine WL_op (Run_move (Opd.t rfl)) rfl rfl rfl rfl <| ?_
                obtain ⟨b204, e205, hm⟩ := letv_some hm
                refine WL_op (Run.eqB (Run_neI (Opd.t rfl) Opd.c) e205) rfl rfl rfl rfl <| WL_op (Run_move (Opd.t rfl)) rfl rfl rfl rfl <| WL_opG rfl rfl rfl rfl guard_neg (Run_move (Opd.t rfl)) rfl rfl rfl <| ?_
                obtain ⟨b206, e207, hm⟩ := letv_some hm
                refine WL_opG rfl rfl rfl rfl guard_neg (Run.eqB (Run_neI (Opd.g rfl id) Opd.c) e207) rfl rfl rfl <| ?_
                obtain ⟨b208, e209, hm⟩ := letv_some hm
                refine WL_op (Run.eqB (Run_or (Opd.t rfl) (Opd.g rfl id)) e209) rfl rfl rfl rfl <| ?_
                refine WL_nil ?_
                refine At_then ?_
                refine WC_cond (Opd.t rfl) (fun hc210 => ?_) (fun hc210 => ?_)
                ·
                  replace hm := bif_t hc210 hm
                  refine WC_seq ?_
                  refine WC_region ?_
                  refine WL_op (Run_assign Opd.c) rfl rfl rfl rfl <| ?_
                  refine WL_nil ?_
                  refine At_then ?_
                  refine WC_ret ?_
                  refine At_then_ret <| At_blk_ret <| At_then_ret <| At_then_ret <| At_blk_ret <| At_then_ret <| ?_
                  refine At_r1 rfl (ResIs.t rfl) ?_
                  cases hm
                  exact ⟨rfl, (hs.re 18 [] rfl)⟩
                ·
                  replace hm := bif_f hc210 hm
                  refine WC_skip ?_
                  refine At_then ?_
                  refine WC_seq ?_
                  refine WC_region ?_
                  refine WL_op (Run_loadA (vs := [(.int .i64 r182.1.1), (sl v184), (.int .i64 r182.1.2.2.1), (.int .i64 r182.1.2.2.2.1), (sl v185)]) Try.underlying29 rfl ti29 (Opd.t rfl) (fun _ => (hs.box (i := 7) rfl).part 0 rfl) rfl) rfl rfl rfl rfl <| ?_
                  refine WS_store (us := [(.int .i64 r182.1.1), (sl v184), (.int .i64 r182.1.2.2.1), (.int .i64 r182.1.2.2.2.1), (sl v185)]) (vs' := [(.int .i64 r182.1.1), (sl v184), (.int .i64 r182.1.2.2.1), (.int .i64 r182.1.2.2.2.1), (sl v185)]) hs 11 rfl ti29 (Opd.t rfl) (Opd.t rfl) rfl rfl rfl rfl rfl ?_
                  intro w211 hs
                  replace hs := Sat.n18 (Γ := Φ) hs rfl
                  refine WL_nil ?_
                  refine At_then ?_
                  refine WC_region ?_
                  refine WL_op (Run_loadA (vs := [(.int .i64 r196.1.1), (sl v198), (.int .i64 r196.1.2.2.1), (.int .i64 r196.1.2.2.2.1), (sl v199)]) Try.underlying29 rfl ti29 (Opd.t rfl) (fun _ => (hs.box (i := 0) rfl).part 0 rfl) rfl) rfl rfl rfl rfl <| ?_
                  refine WS_store (us := [(.int .i64 r196.1.1), (sl v198), (.int .i64 r196.1.2.2.1), (.int .i64 r196.1.2.2.2.1), (sl v199)]) (vs' := [(.int .i64 r196.1.1), (sl v198), (.int .i64 r196.1.2.2.1), (.int .i64 r196.1.2.2.2.1), (sl v199)]) hs 14 rfl ti29 (Opd.t rfl) (Opd.t rfl) rfl rfl rfl rfl rfl ?_
                  intro w212 hs
                  replace hs := Sat.n18 (Γ := Φ) hs rfl
                  refine WL_nil ?_
                  refine At_blk_normal ?_
                  refine At_then ?_
                  refine WC_region ?_
                  refine WL_op (Run_move (Opd.t rfl)) rfl rfl rfl rfl <| WL_op (Run_add (Opd.t rfl) Opd.c) rfl rfl rfl rfl <| WL_op (Run_assign (Opd.t rfl)) rfl rfl rfl rfl <| ?_
                  refine WL_nil ?_
                  exact At_again (r182.1.1, r182.1.2.1, r182.1.2.2.1, r182.1.2.2.2.1, r182.1.2.2.2.2, r196.1.1, r196.1.2.1, r196.1.2.2.1, r196.1.2.2.2.1, r196.1.2.2.2.2, (IntKind.i64.wrap (i119 + 1))) (v184, v185, v198, v199) hm (hs.re 18 [10, 11, 5, 6, 14, 1, 2, 17] rfl) rfl
              ·
                refine WD_loud (pend' := [(4, fun w => true = true → CellsAt w (elA (sl v64) i119 1) [(sl v192)]), (0, fun w => CellsAt w ⟨b58, 0, none⟩ [(.int .i64 c112), (sl v114), (.int .i64 c115), (.int .i64 c116), (sl v118)])]) rfl (by kernel_rfl) ?_
                refine WS_alloc (zs := [(.int .i64 0), (sl (none, 0, 0)), (.int .i64 0), (.int .i64 0), (sl (none, 0, 0))]) hs ti29 rfl rfl ?_
                intro b213 w214 hs
                replace hs := Sat.n16 (Γ := Φ) hs rfl
                refine WL_nil ?_
                refine At_QK (allJ_cons (fun hg => ((hs.elem (i := 1) rfl) hg).sub 0 rfl) (allJ_cons ((hs.box (i := 12) rfl).part 0 rfl) allJ_nil)) ?_
                refine WD_loud (pend' := []) rfl (by kernel_rfl) ?_
                obtain ⟨r215, hr216, hm⟩ := bind_some' hm
                refine WL_call (f := 13) (first := []) (cap := []) (xs := [(.tmp 125), (.tmp 129)]) (vs := [(.agg #[(.int .i64 c112), (sl v114), (.int .i64 c115), (.int .i64 c116), (sl v118)]), (sl v192)]) (args := [(.agg #[(.int .i64 c112), (sl v114), (.int .i64 c115), (.int .i64 c116), (sl v118)]), (sl v192)]) Try.call13 Opd.f (.cons (Opd.t rfl) (.cons (Opd.t rfl) .nil)) rfl rfl (dfa_Insert_ok (d := (c112, c113, c115, c116, c117)) (hs.re 16 [13, 14, 2, 0, 1, 2, 3, 4, 5, 6, 7, 8, 9, 10, 11, 12, 13, 14, 15] rfl) hr216) ?_
                rintro _ w219 ⟨v217, v218, rfl, hs⟩
                replace hs := Sat.n18 (Γ := Φ) hs rfl
                refine WL_nil ?_
                refine At_QK allJ_nil ?_
                refine WD_pure (fun _ => (Run_move (Opd.t rfl))) rfl rfl rfl rfl <| WD_pure (fun _ => (Run_extract (vs := [(.agg #[(.int .i64 r215.1.1), (sl v217), (.int .i64 r215.1.2.2.1), (.int .i64 r215.1.2.2.2.1), (sl v218)]), (.bool r215.2.1), (.int .i64 r215.2.2)]) (Opd.t rfl) rfl)) rfl rfl rfl rfl <| WD_pure (fun _ => (Run_extract (vs := [(.agg #[(.int .i64 r215.1.1), (sl v217), (.int .i64 r215.1.2.2.1), (.int .i64 r215.1.2.2.2.1), (sl v218)]), (.bool r215.2.1), (.int .i64 r215.2.2)]) (Opd.t rfl) rfl)) rfl rfl rfl rfl <| WD_pure (fun _ => (Run_extract (vs := [(.agg #[(.int .i64 r215.1.1), (sl v217), (.int .i64 r215.1.2.2.1), (.int .i64 r215.1.2.2.2.1), (sl v218)]), (.bool r215.2.1), (.int .i64 r215.2.2)]) (Opd.t rfl) rfl)) rfl rfl rfl rfl <| ?_
                refine WD_loud (pend' := []) rfl (by kernel_rfl) ?_
                refine WS_store (us := [(.int .i64 r215.1.1), (sl v217), (.int .i64 r215.1.2.2.1), (.int .i64 r215.1.2.2.2.1), (sl v218)]) (vs' := [(.int .i64 r215.1.1), (sl v217), (.int .i64 r215.1.2.2.1), (.int .i64 r215.1.2.2.2.1), (sl v218)]) hs 2 rfl ti29 (Opd.t rfl) (Opd.t rfl) rfl rfl rfl rfl rfl ?_
                intro w220 hs
                replace hs := Sat.n18 (Γ := Φ) hs rfl
                refine WL_nil ?_
                refine At_QK allJ_nil ?_
                refine WD_pure (fun _ => (Run_assign (Opd.t rfl))) rfl rfl rfl rfl <| WD_pure (fun _ => (Run_assign (Opd.t rfl))) rfl rfl rfl rfl <| ?_
                refine WD_nil ?_
                refine At_then ?_
                refine WC_seq ?_
                refine WC_seq ?_
                refine WC_region ?_
                refine WL_op (Run_move (Opd.t rfl)) rfl rfl rfl rfl <| ?_
                obtain ⟨b221, e222, hm⟩ := letv_some hm
                refine WL_op (Run.eqB (Run_neI (Opd.t rfl) Opd.c) e222) rfl rfl rfl rfl <| WL_op (Run_move (Opd.t rfl)) rfl rfl rfl rfl <| WL_opG rfl rfl rfl rfl guard_neg (Run_move (Opd.t rfl)) rfl rfl rfl <| ?_
                obtain ⟨b223, e224, hm⟩ := letv_some hm
                refine WL_opG rfl rfl rfl rfl guard_neg (Run.eqB (Run_neI (Opd.g rfl id) Opd.c) e224) rfl rfl rfl <| ?_
                obtain ⟨b225, e226, hm⟩ := letv_some hm
                refine WL_op (Run.eqB (Run_or (Opd.t rfl) (Opd.g rfl id)) e226) rfl rfl rfl rfl <| ?_
                refine WL_nil ?_
                refine At_then ?_
                refine WC_cond (Opd.t rfl) (fun hc227 => ?_) (fun hc227 => ?_)
                ·
                  replace hm := bif_t hc227 hm
                  refine WC_seq ?_
                  refine WC_region ?_
                  refine WL_op (Run_assign Opd.c) rfl rfl rfl rfl <| ?_
                  refine WL_nil ?_
                  refine At_then ?_
                  refine WC_ret ?_
                  refine At_then_ret <| At_blk_ret <| At_then_ret <| At_then_ret <| At_blk_ret <| At_then_ret <| ?_
                  refine At_r1 rfl (ResIs.t rfl) ?_
                  cases hm
                  exact ⟨rfl, (hs.re 18 [] rfl)⟩
                ·
                  replace hm := bif_f hc227 hm
                  refine WC_skip ?_
                  refine At_then ?_
                  refine WC_seq ?_
                  refine WC_region ?_
                  refine WL_op (Run_loadA (vs := [(.int .i64 r182.1.1), (sl v184), (.int .i64 r182.1.2.2.1), (.int .i64 r182.1.2.2.2.1), (sl v185)]) Try.underlying29 rfl ti29 (Opd.t rfl) (fun _ => (hs.box (i := 7) rfl).part 0 rfl) rfl) rfl rfl rfl rfl <| ?_
                  refine WS_store (us := [(.int .i64 r182.1.1), (sl v184), (.int .i64 r182.1.2.2.1), (.int .i64 r182.1.2.2.2.1), (sl v185)]) (vs' := [(.int .i64 r182.1.1), (sl v184), (.int .i64 r182.1.2.2.1), (.int .i64 r182.1.2.2.2.1), (sl v185)]) hs 11 rfl ti29 (Opd.t rfl) (Opd.t rfl) rfl rfl rfl rfl rfl ?_
                  intro w228 hs
                  replace hs := Sat.n18 (Γ := Φ) hs rfl
                  refine WL_nil ?_
                  refine At_then ?_
                  refine WC_region ?_
                  refine WL_op (Run_loadA (vs := [(.int .i64 r215.1.1), (sl v217), (.int .i64 r215.1.2.2.1), (.int .i64 r215.1.2.2.2.1), (sl v218)]) Try.underlying29 rfl ti29 (Opd.t rfl) (fun _ => (hs.box (i := 2) rfl).part 0 rfl) rfl) rfl rfl rfl rfl <| ?_
                  refine WS_store (us := [(.int .i64 r215.1.1), (sl v217), (.int .i64 r215.1.2.2.1), (.int .i64 r215.1.2.2.2.1), (sl v218)]) (vs' := [(.int .i64 r215.1.1), (sl v217), (.int .i64 r215.1.2.2.1), (.int .i64 r215.1.2.2.2.1), (sl v218)]) hs 14 rfl ti29 (Opd.t rfl) (Opd.t rfl) rfl rfl rfl rfl rfl ?_
                  intro w229 hs
                  replace hs := Sat.n18 (Γ := Φ) hs rfl
                  refine WL_nil ?_
                  refine At_blk_normal ?_
                  refine At_then ?_
                  refine WC_region ?_
                  refine WL_op (Run_move (Opd.t rfl)) rfl rfl rfl rfl <| WL_op (Run_add (Opd.t rfl) Opd.c) rfl rfl rfl rfl <| WL_op (Run_assign (Opd.t rfl)) rfl rfl rfl rfl <| ?_
                  refine WL_nil ?_
                  exact At_again (r182.1.1, r182.1.2.1, r182.1.2.2.1, r182.1.2.2.2.1, r182.1.2.2.2.2, r215.1.1, r215.1.2.1, r215.1.2.2.1, r215.1.2.2.2.1, r215.1.2.2.2.2, (IntKind.i64.wrap (i119 + 1))) (v184, v185, v217, v218) hm (hs.re 18 [10, 11, 5, 6, 14, 0, 1, 17] rfl) rfl
          ·
            replace hm := bif_f hc121 hm
            refine WC_exit ?_
            refine At_then_exit <| At_then_exit <| At_blk_here <| ?_
            refine At_then ?_
            refine WC_seq ?_
            refine WC_region_mixed [0, 1, 2, 6, 10, 18, 32, 96, 32, 416, 672, 1056, 3072, 4096, 12288, 4096, 53248, 86016, 135168, 327680, 524288, 1572864, 524288, 6815744, 11010048, 17301504, 41943040, 67108864, 201326592, 67108864, 872415232, 1140850688, 2483027968, 4362076160, 17179869183] (.q 0 0 (.q 1 1 (.q 2 3 (.q 3 7 (.q 4 15 (.q 5 31 (.q 6 63 (.q 8 127 (.l 7 383 (.l 9 511 (.l 10 1023 (.q 11 2047 (.q 12 4095 (.q 13 8191 (.q 15 16383 (.l 14 49151 (.l 16 65535 (.q 17 131071 (.q 18 262143 (.q 19 524287 (.q 20 1048575 (.q 22 2097151 (.l 21 6291455 (.l 23 8388607 (.q 24 16777215 (.q 25 33554431 (.q 26 67108863 (.q 27 134217727 (.q 29 268435455 (.l 28 805306367 (.l 30 1073741823 (.q 31 2147483647 (.q 32 4294967295 (.q 33 8589934591 (.q 34 17179869183 .nil))))))))))))))))))))))))))))))))))) (by kernel_rfl) (by kernel_rfl) ?_
            intro w230 hx231
            replace hs := hs.ext hx231
            refine WD_pure (fun _ => (Run_move (Opd.t rfl))) rfl rfl rfl rfl <| WD_pure (fun _ => (Run_move (Opd.t rfl))) rfl rfl rfl rfl <| WD_pureG rfl rfl rfl rfl guard_pos (fun _ => (Run_move (Opd.t rfl))) rfl rfl rfl <| ?_
            obtain ⟨b232, e233, hm⟩ := letv_some hm
            refine WD_pureG rfl rfl rfl rfl guard_pos (fun _ => (Run.eqB (Run_eqI (Opd.g rfl id) Opd.c) e233)) rfl rfl rfl <| ?_
            obtain ⟨b234, e235, hm⟩ := letv_some hm
            refine WD_pure (fun _ => (Run.eqB (Run_and (Opd.t rfl) (Opd.g rfl id)) e235)) rfl rfl rfl rfl <| WD_pure (fun _ => (Run_move (Opd.t rfl))) rfl rfl rfl rfl <| WD_opG (fun w => CellsAt w ⟨b48, 0, none⟩ [(.int .i64 c105), (sl v107), (.int .i64 c108), (.int .i64 c109), (sl v111)]) ((hs.box (i := 1) rfl).part 0 rfl) rfl rfl rfl rfl guard_pos (fun _ hJ => (Run_loadA (vs := [(.int .i64 c105), (sl v107), (.int .i64 c108), (.int .i64 c109), (sl v111)]) Try.underlying29 rfl ti29 (Opd.t rfl) (fun _ => hJ) rfl)) rfl rfl rfl <| WD_opG (fun w => CellsAt w ⟨b58, 0, none⟩ [(.int .i64 c112), (sl v114), (.int .i64 c115), (.int .i64 c116), (sl v118)]) ((hs.box (i := 4) rfl).part 0 rfl) rfl rfl rfl rfl guard_pos (fun _ hJ => (Run_loadA (vs := [(.int .i64 c112), (sl v114), (.int .i64 c115), (.int .i64 c116), (sl v118)]) Try.underlying29 rfl ti29 (Opd.t rfl) (fun _ => hJ) rfl)) rfl rfl rfl <| ?_
            refine WD_loud (pend' := [(8, fun w => CellsAt w ⟨b58, 0, none⟩ [(.int .i64 c112), (sl v114), (.int .i64 c115), (.int .i64 c116), (sl v118)])]) rfl (by kernel_rfl) ?_
            obtain ⟨r236, hr237, -, hm⟩ := callG_some hm
            refine WL_callG rfl rfl rfl guard_pos (f := 19) (first := []) (cap := []) (xs := [(.tmp 148)]) (vs := [(.agg #[(.int .i64 c105), (sl v107), (.int .i64 c108), (.int .i64 c109), (sl v111)])]) (args := [(.agg #[(.int .i64 c105), (sl v107), (.int .i64 c108), (.int .i64 c109), (sl v111)])]) Try.call19 Opd.f (.cons (Opd.g rfl id) .nil) rfl rfl (fun hg => dfa_Words_ok (d := (c105, c106, c108, c109, c110)) (hs.re 8 [2, 3, 0, 1, 2, 3, 4, 5, 6, 7] rfl) (hr237 hg)) ?_
            intro v241 w240 hv242 hz243
            obtain ⟨v238, hw244, hs⟩ : ∃ v238 : SLV, (b234 = true → v241 = (sl v238)) ∧ Sat (immG b234 (RSl (RSl (RI .u8))) [sl v238] r236 :: imm (RSl (RSl (RI .u8))) [sl v1] l :: box b48 29 [(.int .i64 c105), (sl v107), (.int .i64 c108), (.int .i64 c109), (sl v111)] :: imm (RSl (RP (RSl (RP (RI .u8) (RI .i64))) (RI .i64))) [sl v107] c106 :: imm (RSl (RI .i64)) [sl v111] c110 :: box b58 29 [(.int .i64 c112), (sl v114), (.int .i64 c115), (.int .i64 c116), (sl v118)] :: imm (RSl (RP (RSl (RP (RI .u8) (RI .i64))) (RI .i64))) [sl v114] c113 :: imm (RSl (RI .i64)) [sl v118] c117 :: imm (RSl (RSl (RI .u8))) [sl v64] l68 :: Φ) w240 := by
              cases hg : b234
              · rw [hz243 hg]; exact ⟨(none, 0, 0), (fun h => by cases h), (sat_addG0 hs rfl)⟩
              · obtain ⟨v238, R239, hq, hs⟩ := hv242 hg
                replace hs := hs.freeze (i := 0) rfl
                replace hs := hs.re 9 [0, 1, 2, 3, 4, 5, 6, 7, 8] rfl
                replace hs := sat_gate hs (i := 0) rfl true
                exact ⟨v238, (fun _ => hq), hs⟩
            refine WL_sub1 (v := (sl v238)) hw244 ?_
            refine WL_nil ?_
            refine At_QK (allJ_cons ((hs.box (i := 5) rfl).part 0 rfl) allJ_nil) ?_
            refine WD_loud (pend' := []) rfl (by kernel_rfl) ?_
            obtain ⟨r245, hr246, -, hm⟩ := callG_some hm
            refine WL_callG rfl rfl rfl guard_pos (f := 19) (first := []) (cap := []) (xs := [(.tmp 150)]) (vs := [(.agg #[(.int .i64 c112), (sl v114), (.int .i64 c115), (.int .i64 c116), (sl v118)])]) (args := [(.agg #[(.int .i64 c112), (sl v114), (.int .i64 c115), (.int .i64 c116), (sl v118)])]) Try.call19 Opd.f (.cons (Opd.g rfl id) .nil) rfl rfl (fun hg => dfa_Words_ok (d := (c112, c113, c115, c116, c117)) (hs.re 9 [6, 7, 0, 1, 2, 3, 4, 5, 6, 7, 8] rfl) (hr246 hg)) ?_
            intro v250 w249 hv251 hz252
            obtain ⟨v247, hw253, hs⟩ : ∃ v247 : SLV, (b234 = true → v250 = (sl v247)) ∧ Sat (immG b234 (RSl (RSl (RI .u8))) [sl v247] r245 :: immG b234 (RSl (RSl (RI .u8))) [sl v238] r236 :: imm (RSl (RSl (RI .u8))) [sl v1] l :: box b48 29 [(.int .i64 c105), (sl v107), (.int .i64 c108), (.int .i64 c109), (sl v111)] :: imm (RSl (RP (RSl (RP (RI .u8) (RI .i64))) (RI .i64))) [sl v107] c106 :: imm (RSl (RI .i64)) [sl v111] c110 :: box b58 29 [(.int .i64 c112), (sl v114), (.int .i64 c115), (.int .i64 c116), (sl v118)] :: imm (RSl (RP (RSl (RP (RI .u8) (RI .i64))) (RI .i64))) [sl v114] c113 :: imm (RSl (RI .i64)) [sl v118] c117 :: imm (RSl (RSl (RI .u8))) [sl v64] l68 :: Φ) w249 := by
              cases hg : b234
              · rw [hg] at hs; rw [hz252 hg]; exact ⟨(none, 0, 0), (fun h => by cases h), (sat_addG0 hs rfl)⟩
              · obtain ⟨v247, R248, hq, hs⟩ := hv251 hg
                replace hs := hs.freeze (i := 0) rfl
                replace hs := hs.re 10 [0, 1, 2, 3, 4, 5, 6, 7, 8, 9] rfl
                replace hs := sat_gate hs (i := 0) rfl true
                rw [hg] at hs
                exact ⟨v247, (fun _ => hq), hs⟩
            refine WL_sub1 (v := (sl v247)) hw253 ?_
            refine WL_nil ?_
            refine At_QK allJ_nil ?_
            refine WD_loud (pend' := []) rfl (by kernel_rfl) ?_
            obtain ⟨r254, hr255, -, hm⟩ := callG_some hm
            refine WL_callG rfl rfl rfl guard_pos (f := 18) (first := []) (cap := []) (xs := [(.tmp 149), (.tmp 151)]) (vs := [(sl v238), (sl v247)]) (args := [(sl v238), (sl v247)]) Try.call18 Opd.f (.cons (Opd.g rfl id) (.cons (Opd.g rfl id) .nil)) rfl rfl (fun hg => scrutinyref04_Rows_ok (((hs.dupS (i := 1) rfl hg).dupS (i := 1) rfl hg).re 12 [1, 0, 2, 3, 4, 5, 6, 7, 8, 9, 10, 11] rfl) (hr255 hg)) ?_
            intro v257 w256 hv258 hz259
            replace hs := Sat.ofG (fun hg => (hv258 hg).2.re 10 [0, 1, 2, 3, 4, 5, 6, 7, 8, 9] rfl) hz259 hs
            refine WL_sub1 (v := (.bool r254)) (fun hg => (hv258 hg).1) ?_
            replace hs := Sat.n10 (Γ := Φ) hs rfl
            refine WL_nil ?_
            refine At_QK allJ_nil ?_
            obtain ⟨b260, e261, hm⟩ := letv_some hm
            refine WD_pure (fun _ => (Run.eqB (Run_and (Opd.t rfl) (Opd.g rfl id)) e261)) rfl rfl rfl rfl <| WD_pure (fun _ => (Run_move (Opd.t rfl))) rfl rfl rfl rfl <| WD_opG (fun w => CellsAt w ⟨b48, 0, none⟩ [(.int .i64 c105), (sl v107), (.int .i64 c108), (.int .i64 c109), (sl v111)]) ((hs.box (i := 3) rfl).part 0 rfl) rfl rfl rfl rfl guard_pos (fun _ hJ => (Run_loadA (vs := [(.int .i64 c105), (sl v107), (.int .i64 c108), (.int .i64 c109), (sl v111)]) Try.underlying29 rfl ti29 (Opd.t rfl) (fun _ => hJ) rfl)) rfl rfl rfl <| WD_opG (fun w => CellsAt w ⟨b58, 0, none⟩ [(.int .i64 c112), (sl v114), (.int .i64 c115), (.int .i64 c116), (sl v118)]) ((hs.box (i := 6) rfl).part 0 rfl) rfl rfl rfl rfl guard_pos (fun _ hJ => (Run_loadA (vs := [(.int .i64 c112), (sl v114), (.int .i64 c115), (.int .i64 c116), (sl v118)]) Try.underlying29 rfl ti29 (Opd.t rfl) (fun _ => hJ) rfl)) rfl rfl rfl <| ?_
            refine WD_loud (pend' := [(15, fun w => CellsAt w ⟨b58, 0, none⟩ [(.int .i64 c112), (sl v114), (.int .i64 c115), (.int .i64 c116), (sl v118)])]) rfl (by kernel_rfl) ?_
            obtain ⟨r262, hr263, -, hm⟩ := callG_some hm
            refine WL_callG rfl rfl rfl guard_pos (f := 15) (first := []) (cap := []) (xs := [(.tmp 155)]) (vs := [(.agg #[(.int .i64 c105), (sl v107), (.int .i64 c108), (.int .i64 c109), (sl v111)])]) (args := [(.agg #[(.int .i64 c105), (sl v107), (.int .i64 c108), (.int .i64 c109), (sl v111)])]) Try.call15 Opd.f (.cons (Opd.g rfl id) .nil) rfl rfl (fun hg => dfa_Many_ok (d := (c105, c106, c108, c109, c110)) (hs.re 10 [4, 5, 0, 1, 2, 3, 4, 5, 6, 7, 8, 9] rfl) (hr263 hg)) ?_
            intro v265 w264 hv266 hz267
            replace hs := Sat.ofG (fun hg => (hv266 hg).2.re 10 [0, 1, 2, 3, 4, 5, 6, 7, 8, 9] rfl) hz267 hs
            refine WL_sub1 (v := (.int .i64 r262)) (fun hg => (hv266 hg).1) ?_
            replace hs := Sat.n10 (Γ := Φ) hs rfl
            refine WL_nil ?_
            refine At_QK (allJ_cons ((hs.box (i := 6) rfl).part 0 rfl) allJ_nil) ?_
            refine WD_loud (pend' := []) rfl (by kernel_rfl) ?_
            obtain ⟨r268, hr269, -, hm⟩ := callG_some hm
            refine WL_callG rfl rfl rfl guard_pos (f := 15) (first := []) (cap := []) (xs := [(.tmp 157)]) (vs := [(.agg #[(.int .i64 c112), (sl v114), (.int .i64 c115), (.int .i64 c116), (sl v118)])]) (args := [(.agg #[(.int .i64 c112), (sl v114), (.int .i64 c115), (.int .i64 c116), (sl v118)])]) Try.call15 Opd.f (.cons (Opd.g rfl id) .nil) rfl rfl (fun hg => dfa_Many_ok (d := (c112, c113, c115, c116, c117)) (hs.re 10 [7, 8, 0, 1, 2, 3, 4, 5, 6, 7, 8, 9] rfl) (hr269 hg)) ?_
            intro v271 w270 hv272 hz273
            replace hs := Sat.ofG (fun hg => (hv272 hg).2.re 10 [0, 1, 2, 3, 4, 5, 6, 7, 8, 9] rfl) hz273 hs
            refine WL_sub1 (v := (.int .i64 r268)) (fun hg => (hv272 hg).1) ?_
            replace hs := Sat.n10 (Γ := Φ) hs rfl
            refine WL_nil ?_
            refine At_QK allJ_nil ?_
            obtain ⟨b274, e275, hm⟩ := letv_some hm
            refine WD_pureG rfl rfl rfl rfl guard_pos (fun _ => (Run.eqB (Run_eqI (Opd.g rfl id) (Opd.g rfl id)) e275)) rfl rfl rfl <| ?_
            obtain ⟨b276, e277, hm⟩ := letv_some hm
            refine WD_pure (fun _ => (Run.eqB (Run_and (Opd.t rfl) (Opd.g rfl id)) e277)) rfl rfl rfl rfl <| WD_pure (fun _ => (Run_move (Opd.t rfl))) rfl rfl rfl rfl <| WD_opG (fun w => CellsAt w ⟨b48, 0, none⟩ [(.int .i64 c105), (sl v107), (.int .i64 c108), (.int .i64 c109), (sl v111)]) ((hs.box (i := 3) rfl).part 0 rfl) rfl rfl rfl rfl guard_pos (fun _ hJ => (Run_loadA (vs := [(.int .i64 c105), (sl v107), (.int .i64 c108), (.int .i64 c109), (sl v111)]) Try.underlying29 rfl ti29 (Opd.t rfl) (fun _ => hJ) rfl)) rfl rfl rfl <| WD_opG (fun w => CellsAt w ⟨b58, 0, none⟩ [(.int .i64 c112), (sl v114), (.int .i64 c115), (.int .i64 c116), (sl v118)]) ((hs.box (i := 6) rfl).part 0 rfl) rfl rfl rfl rfl guard_pos (fun _ hJ => (Run_loadA (vs := [(.int .i64 c112), (sl v114), (.int .i64 c115), (.int .i64 c116), (sl v118)]) Try.underlying29 rfl ti29 (Opd.t rfl) (fun _ => hJ) rfl)) rfl rfl rfl <| ?_
            refine WD_loud (pend' := [(22, fun w => CellsAt w ⟨b58, 0, none⟩ [(.int .i64 c112), (sl v114), (.int .i64 c115), (.int .i64 c116), (sl v118)])]) rfl (by kernel_rfl) ?_
            obtain ⟨r278, hr279, -, hm⟩ := callG_some hm
            refine WL_callG rfl rfl rfl guard_pos (f := 16) (first := []) (cap := []) (xs := [(.tmp 162)]) (vs := [(.agg #[(.int .i64 c105), (sl v107), (.int .i64 c108), (.int .i64 c109), (sl v111)])]) (args := [(.agg #[(.int .i64 c105), (sl v107), (.int .i64 c108), (.int .i64 c109), (sl v111)])]) Try.call16 Opd.f (.cons (Opd.g rfl id) .nil) rfl rfl (fun hg => dfa_Size_ok (d := (c105, c106, c108, c109, c110)) (hs.re 10 [4, 5, 0, 1, 2, 3, 4, 5, 6, 7, 8, 9] rfl) (hr279 hg)) ?_
            intro v281 w280 hv282 hz283
            replace hs := Sat.ofG (fun hg => (hv282 hg).2.re 10 [0, 1, 2, 3, 4, 5, 6, 7, 8, 9] rfl) hz283 hs
            refine WL_sub1 (v := (.int .i64 r278)) (fun hg => (hv282 hg).1) ?_
            replace hs := Sat.n10 (Γ := Φ) hs rfl
            refine WL_nil ?_
            refine At_QK (allJ_cons ((hs.box (i := 6) rfl).part 0 rfl) allJ_nil) ?_
            refine WD_loud (pend' := []) rfl (by kernel_rfl) ?_
            obtain ⟨r284, hr285, -, hm⟩ := callG_some hm
            refine WL_callG rfl rfl rfl guard_pos (f := 16) (first := []) (cap := []) (xs := [(.tmp 164)]) (vs := [(.agg #[(.int .i64 c112), (sl v114), (.int .i64 c115), (.int .i64 c116), (sl v118)])]) (args := [(.agg #[(.int .i64 c112), (sl v114), (.int .i64 c115), (.int .i64 c116), (sl v118)])]) Try.call16 Opd.f (.cons (Opd.g rfl id) .nil) rfl rfl (fun hg => dfa_Size_ok (d := (c112, c113, c115, c116, c117)) (hs.re 10 [7, 8, 0, 1, 2, 3, 4, 5, 6, 7, 8, 9] rfl) (hr285 hg)) ?_
            intro v287 w286 hv288 hz289
            replace hs := Sat.ofG (fun hg => (hv288 hg).2.re 10 [0, 1, 2, 3, 4, 5, 6, 7, 8, 9] rfl) hz289 hs
            refine WL_sub1 (v := (.int .i64 r284)) (fun hg => (hv288 hg).1) ?_
            replace hs := Sat.n10 (Γ := Φ) hs rfl
            refine WL_nil ?_
            refine At_QK allJ_nil ?_
            obtain ⟨b290, e291, hm⟩ := letv_some hm
            refine WD_pureG rfl rfl rfl rfl guard_pos (fun _ => (Run.eqB (Run_eqI (Opd.g rfl id) (Opd.g rfl id)) e291)) rfl rfl rfl <| ?_
            obtain ⟨b292, e293, hm⟩ := letv_some hm
            refine WD_pure (fun _ => (Run.eqB (Run_and (Opd.t rfl) (Opd.g rfl id)) e293)) rfl rfl rfl rfl <| WD_pure (fun _ => (Run_move (Opd.t rfl))) rfl rfl rfl rfl <| WD_opG (fun w => CellsAt w ⟨b48, 0, none⟩ [(.int .i64 c105), (sl v107), (.int .i64 c108), (.int .i64 c109), (sl v111)]) ((hs.box (i := 3) rfl).part 0 rfl) rfl rfl rfl rfl guard_pos (fun _ hJ => (Run_loadA (vs := [(.int .i64 c105), (sl v107), (.int .i64 c108), (.int .i64 c109), (sl v111)]) Try.underlying29 rfl ti29 (Opd.t rfl) (fun _ => hJ) rfl)) rfl rfl rfl <| WD_opG (fun w => CellsAt w ⟨b48, 0, none⟩ [(.int .i64 c105), (sl v107), (.int .i64 c108), (.int .i64 c109), (sl v111)]) ((hs.box (i := 3) rfl).part 0 rfl) rfl rfl rfl rfl guard_pos (fun _ hJ => (Run_loadA (vs := [(.int .i64 c105), (sl v107), (.int .i64 c108), (.int .i64 c109), (sl v111)]) Try.underlying29 rfl ti29 (Opd.t rfl) (fun _ => hJ) rfl)) rfl rfl rfl <| ?_
            refine WD_loud (pend' := [(29, fun w => CellsAt w ⟨b48, 0, none⟩ [(.int .i64 c105), (sl v107), (.int .i64 c108), (.int .i64 c109), (sl v111)])]) rfl (by kernel_rfl) ?_
            obtain ⟨r294, hr295, -, hm⟩ := callG_some hm
            refine WL_callG rfl rfl rfl guard_pos (f := 15) (first := []) (cap := []) (xs := [(.tmp 169)]) (vs := [(.agg #[(.int .i64 c105), (sl v107), (.int .i64 c108), (.int .i64 c109), (sl v111)])]) (args := [(.agg #[(.int .i64 c105), (sl v107), (.int .i64 c108), (.int .i64 c109), (sl v111)])]) Try.call15 Opd.f (.cons (Opd.g rfl id) .nil) rfl rfl (fun hg => dfa_Many_ok (d := (c105, c106, c108, c109, c110)) (hs.re 10 [4, 5, 0, 1, 2, 3, 4, 5, 6, 7, 8, 9] rfl) (hr295 hg)) ?_
            intro v297 w296 hv298 hz299
            replace hs := Sat.ofG (fun hg => (hv298 hg).2.re 10 [0, 1, 2, 3, 4, 5, 6, 7, 8, 9] rfl) hz299 hs
            refine WL_sub1 (v := (.int .i64 r294)) (fun hg => (hv298 hg).1) ?_
            replace hs := Sat.n10 (Γ := Φ) hs rfl
            refine WL_nil ?_
            refine At_QK (allJ_cons ((hs.box (i := 3) rfl).part 0 rfl) allJ_nil) ?_
            refine WD_loud (pend' := []) rfl (by kernel_rfl) ?_
            obtain ⟨r300, hr301, -, hm⟩ := callG_some hm
            refine WL_callG rfl rfl rfl guard_pos (f := 19) (first := []) (cap := []) (xs := [(.tmp 171)]) (vs := [(.agg #[(.int .i64 c105), (sl v107), (.int .i64 c108), (.int .i64 c109), (sl v111)])]) (args := [(.agg #[(.int .i64 c105), (sl v107), (.int .i64 c108), (.int .i64 c109), (sl v111)])]) Try.call19 Opd.f (.cons (Opd.g rfl id) .nil) rfl rfl (fun hg => dfa_Words_ok (d := (c105, c106, c108, c109, c110)) (hs.re 10 [4, 5, 0, 1, 2, 3, 4, 5, 6, 7, 8, 9] rfl) (hr301 hg)) ?_
            intro v305 w304 hv306 hz307
            obtain ⟨v302, hw308, hs⟩ : ∃ v302 : SLV, (b292 = true → v305 = (sl v302)) ∧ Sat (immG b292 (RSl (RSl (RI .u8))) [sl v302] r300 :: immG b234 (RSl (RSl (RI .u8))) [sl v247] r245 :: immG b234 (RSl (RSl (RI .u8))) [sl v238] r236 :: imm (RSl (RSl (RI .u8))) [sl v1] l :: box b48 29 [(.int .i64 c105), (sl v107), (.int .i64 c108), (.int .i64 c109), (sl v111)] :: imm (RSl (RP (RSl (RP (RI .u8) (RI .i64))) (RI .i64))) [sl v107] c106 :: imm (RSl (RI .i64)) [sl v111] c110 :: box b58 29 [(.int .i64 c112), (sl v114), (.int .i64 c115), (.int .i64 c116), (sl v118)] :: imm (RSl (RP (RSl (RP (RI .u8) (RI .i64))) (RI .i64))) [sl v114] c113 :: imm (RSl (RI .i64)) [sl v118] c117 :: imm (RSl (RSl (RI .u8))) [sl v64] l68 :: Φ) w304 := by
              cases hg : b292
              · rw [hz307 hg]; exact ⟨(none, 0, 0), (fun h => by cases h), (sat_addG0 hs rfl)⟩
              · obtain ⟨v302, R303, hq, hs⟩ := hv306 hg
                replace hs := hs.freeze (i := 0) rfl
                replace hs := hs.re 11 [0, 1, 2, 3, 4, 5, 6, 7, 8, 9, 10] rfl
                replace hs := sat_gate hs (i := 0) rfl true
                exact ⟨v302, (fun _ => hq), hs⟩
            refine WL_sub1 (v := (sl v302)) hw308 ?_
            refine WL_nil ?_
            refine At_QK allJ_nil ?_
            refine WD_pureG rfl rfl rfl rfl guard_pos (fun _ => (Run_lenSlG Try.underlying22 (Opd.g rfl id) (fun hg => ((hs.slG (i := 0) rfl) hg).len))) rfl rfl rfl <| ?_
            obtain ⟨b309, e310, hm⟩ := letv_some hm
            refine WD_pureG rfl rfl rfl rfl guard_pos (fun _ => (Run.eqB (Run_eqI (Opd.g rfl id) (Opd.g rfl id)) e310)) rfl rfl rfl <| ?_
            obtain ⟨b311, e312, hm⟩ := letv_some hm
            refine WD_pure (fun _ => (Run.eqB (Run_and (Opd.t rfl) (Opd.g rfl id)) e312)) rfl rfl rfl rfl <| WD_pure (fun _ => (Run_assign (Opd.t rfl))) rfl rfl rfl rfl <| ?_
            refine WD_nil ?_
            refine At_then ?_
            refine WC_ret ?_
            refine At_r1 rfl (ResIs.t rfl) ?_
            cases hm
            exact ⟨rfl, (hs.re 11 [] rfl)⟩

end Go.Proofs.Ytjappdgehmjomaa
