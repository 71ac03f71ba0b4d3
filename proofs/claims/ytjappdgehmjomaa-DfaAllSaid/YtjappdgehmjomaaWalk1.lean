/- Printed by a program: the walks. -/
import Derived.Test.YtjappdgehmjomaaTypes
namespace Go.Proofs.Ytjappdgehmjomaa
open Go.Proofs

set_option maxRecDepth 100000 in
set_option maxHeartbeats 4000000 in
theorem dfa_New_ok {Φ : Ctx} {w : World} {wide : Int} {r : ((Int × (List ((List (Int × Int)) × Int)) × Int × Int × (List Int)) × Int)} (hs : Sat (Φ) w) (hm : dfa_New wide = some r) :
    CallsR Try.prog 11 [(.int .i64 wide)] w (fun v w' => ∃ v3 : SLV, ∃ R4 : List Nat, ∃ v5 : SLV, ∃ R6 : List Nat, v = (.tuple #[(.agg #[(.int .i64 r.1.1), (sl v3), (.int .i64 r.1.2.2.1), (.int .i64 r.1.2.2.2.1), (sl v5)]), (.int .i64 r.2)]) ∧ Sat (osl (RP (RSl (RP (RI .u8) (RI .i64))) (RI .i64)) 60 (sl v3) r.1.2.1 R4 :: osl (RI .i64) 3 (sl v5) r.1.2.2.2.2 R6 :: Φ) w') := by
  refine CallsX_enter Try.func11 rfl Try.ntmps11 rfl ?_
  unfold dfa_New at hm
  refine WC_seq ?_
  refine WC_region ?_
  refine WS_alloc (zs := [(.int .i64 0), (sl (none, 0, 0)), (.int .i64 0), (.int .i64 0), (sl (none, 0, 0))]) hs ti29 rfl rfl ?_
  intro b8 w9 hs
  replace hs := Sat.n1 (Γ := Φ) hs rfl
  refine WL_op (Run_assign Opd.c) rfl rfl rfl rfl <| ?_
  refine WL_nil ?_
  refine At_then ?_
  refine WC_seq ?_
  refine WC_seq ?_
  refine WC_region ?_
  refine WL_op (Run_move (Opd.t rfl)) rfl rfl rfl rfl <| ?_
  obtain ⟨b10, e11, hm⟩ := letv_some hm
  refine WL_op (Run.eqB (Run_ltI (Opd.t rfl) Opd.c) e11) rfl rfl rfl rfl <| WL_op (Run_move (Opd.t rfl)) rfl rfl rfl rfl <| WL_opG rfl rfl rfl rfl guard_neg (Run_move (Opd.t rfl)) rfl rfl rfl <| ?_
  obtain ⟨b12, e13, hm⟩ := letv_some hm
  refine WL_opG rfl rfl rfl rfl guard_neg (Run.eqB (Run_gtI (Opd.g rfl id) Opd.c) e13) rfl rfl rfl <| ?_
  obtain ⟨b14, e15, hm⟩ := letv_some hm
  refine WL_op (Run.eqB (Run_or (Opd.t rfl) (Opd.g rfl id)) e15) rfl rfl rfl rfl <| ?_
  refine WL_nil ?_
  refine At_then ?_
  refine WC_cond (Opd.t rfl) (fun hc16 => ?_) (fun hc16 => ?_)
  ·
    replace hm := bif_t hc16 hm
    refine WC_seq ?_
    refine WC_region ?_
    refine WL_op (Run_build (parts := []) (v := (.agg #[(.int .i64 0), (sl (none, 0, 0)), (.int .i64 0), (.int .i64 0), (sl (none, 0, 0))])) .nil (fun _ => by kernel_rfl)) rfl rfl rfl rfl <| ?_
    refine WS_store (us := [(.int .i64 0), (sl (none, 0, 0)), (.int .i64 0), (.int .i64 0), (sl (none, 0, 0))]) (vs' := [(.int .i64 0), (sl (none, 0, 0)), (.int .i64 0), (.int .i64 0), (sl (none, 0, 0))]) hs 0 rfl ti29 (Opd.t rfl) (Opd.t rfl) rfl rfl rfl rfl rfl ?_
    intro w17 hs
    replace hs := Sat.n1 (Γ := Φ) hs rfl
    refine WL_op (Run_assign Opd.c) rfl rfl rfl rfl <| ?_
    refine WL_nil ?_
    refine At_then ?_
    refine WC_ret ?_
    refine At_then_ret <| ?_
    refine At_r2 rfl (ResIs.cA (vs := [(.int .i64 0), (sl (none, 0, 0)), (.int .i64 0), (.int .i64 0), (sl (none, 0, 0))]) rfl Try.underlying29 rfl ti29 ((hs.box (i := 0) rfl).part 0 rfl) rfl) (ResIs.t rfl) ?_
    replace hs := hs.addNil (RP (RSl (RP (RI .u8) (RI .i64))) (RI .i64)) 60
    replace hs := hs.addNil (RI .i64) 3
    cases hm
    exact ⟨(none, 0, 0), [], (none, 0, 0), [], rfl, (hs.re 3 [1, 0] rfl)⟩
  ·
    replace hm := bif_f hc16 hm
    refine WC_skip ?_
    refine At_then ?_
    refine WC_seq ?_
    refine WC_region ?_
    refine WL_op (Run_move (Opd.t rfl)) rfl rfl rfl rfl <| WL_op (Run_build (parts := [(0, (.tmp 11)), (2, (.const (.int .i64 (-1))))]) (v := (.agg #[(.int .i64 wide), (sl (none, 0, 0)), (.int .i64 (-1)), (.int .i64 0), (sl (none, 0, 0))])) (.cons (Opd.t rfl) (.cons Opd.c .nil)) (fun _ => by kernel_rfl)) rfl rfl rfl rfl <| ?_
    refine WS_store (us := [(.int .i64 wide), (sl (none, 0, 0)), (.int .i64 (-1)), (.int .i64 0), (sl (none, 0, 0))]) (vs' := [(.int .i64 wide), (sl (none, 0, 0)), (.int .i64 (-1)), (.int .i64 0), (sl (none, 0, 0))]) hs 0 rfl ti29 (Opd.t rfl) (Opd.t rfl) rfl rfl rfl rfl rfl ?_
    intro w18 hs
    replace hs := Sat.n1 (Γ := Φ) hs rfl
    refine WL_op (Run_assign Opd.c) rfl rfl rfl rfl <| ?_
    refine WL_nil ?_
    refine At_then ?_
    refine WC_ret ?_
    refine At_r2 rfl (ResIs.cA (vs := [(.int .i64 wide), (sl (none, 0, 0)), (.int .i64 (-1)), (.int .i64 0), (sl (none, 0, 0))]) rfl Try.underlying29 rfl ti29 ((hs.box (i := 0) rfl).part 0 rfl) rfl) (ResIs.t rfl) ?_
    replace hs := hs.addNil (RP (RSl (RP (RI .u8) (RI .i64))) (RI .i64)) 60
    replace hs := hs.addNil (RI .i64) 3
    cases hm
    exact ⟨(none, 0, 0), [], (none, 0, 0), [], rfl, (hs.re 3 [1, 0] rfl)⟩

set_option maxRecDepth 100000 in
set_option maxHeartbeats 4000000 in
theorem cmp_isNaN_byte_ok {Φ : Ctx} {w : World} {x : Int} {r : Bool} (hs : Sat (Φ) w) (hm : cmp_isNaN_byte x = some r) :
    CallsR Try.prog 42 [(.int .u8 x)] w (fun v w' => v = (.bool r) ∧ Sat (Φ) w') := by
  refine CallsX_enter Try.func42 rfl Try.ntmps42 rfl ?_
  unfold cmp_isNaN_byte at hm
  refine WC_seq ?_
  refine WC_region ?_
  refine WL_op (Run_assign Opd.c) rfl rfl rfl rfl <| ?_
  refine WL_nil ?_
  refine At_then ?_
  refine WC_seq ?_
  refine WC_region ?_
  refine WL_op (Run_move (Opd.t rfl)) rfl rfl rfl rfl <| WL_op (Run_move (Opd.t rfl)) rfl rfl rfl rfl <| WL_op (Run_neI (Opd.t rfl) (Opd.t rfl)) rfl rfl rfl rfl <| WL_op (Run_assign (Opd.t rfl)) rfl rfl rfl rfl <| ?_
  refine WL_nil ?_
  refine At_then ?_
  refine WC_ret ?_
  refine At_r1 rfl (ResIs.t rfl) ?_
  cases hm
  exact ⟨rfl, (hs.re 0 [] rfl)⟩

set_option maxRecDepth 100000 in
set_option maxHeartbeats 4000000 in
theorem cmp_Compare_byte_ok {Φ : Ctx} {w : World} {x : Int} {y : Int} {r : Int} (hs : Sat (Φ) w) (hm : cmp_Compare_byte x y = some r) :
    CallsR Try.prog 36 [(.int .u8 x), (.int .u8 y)] w (fun v w' => v = (.int .i64 r) ∧ Sat (Φ) w') := by
  refine CallsX_enter Try.func36 rfl Try.ntmps36 rfl ?_
  unfold cmp_Compare_byte at hm
  refine WC_seq ?_
  refine WC_region ?_
  refine WL_op (Run_assign Opd.c) rfl rfl rfl rfl <| ?_
  refine WL_nil ?_
  refine At_then ?_
  refine WC_seq ?_
  refine WC_region ?_
  refine WL_op (Run_move (Opd.t rfl)) rfl rfl rfl rfl <| ?_
  obtain ⟨r3, hr4, hm⟩ := bind_some' hm
  refine WL_call (f := 42) (first := []) (cap := []) (xs := [(.tmp 7)]) (vs := [(.int .u8 x)]) (args := [(.int .u8 x)]) Try.call42 Opd.f (.cons (Opd.t rfl) .nil) rfl rfl (cmp_isNaN_byte_ok (hs.re 0 [] rfl) hr4) ?_
  rintro _ w5 ⟨rfl, hs⟩
  refine WL_op (Run_assign (Opd.t rfl)) rfl rfl rfl rfl <| ?_
  refine WL_nil ?_
  refine At_then ?_
  refine WC_seq ?_
  refine WC_region ?_
  refine WL_op (Run_move (Opd.t rfl)) rfl rfl rfl rfl <| ?_
  obtain ⟨r6, hr7, hm⟩ := bind_some' hm
  refine WL_call (f := 42) (first := []) (cap := []) (xs := [(.tmp 9)]) (vs := [(.int .u8 y)]) (args := [(.int .u8 y)]) Try.call42 Opd.f (.cons (Opd.t rfl) .nil) rfl rfl (cmp_isNaN_byte_ok (hs.re 0 [] rfl) hr7) ?_
  rintro _ w8 ⟨rfl, hs⟩
  refine WL_op (Run_assign (Opd.t rfl)) rfl rfl rfl rfl <| ?_
  refine WL_nil ?_
  refine At_then ?_
  refine WC_seq ?_
  refine WC_seq ?_
  refine WC_region ?_
  refine WL_op (Run_move (Opd.t rfl)) rfl rfl rfl rfl <| ?_
  refine WL_nil ?_
  refine At_then ?_
  refine WC_cond (Opd.t rfl) (fun hc9 => ?_) (fun hc9 => ?_)
  ·
    replace hm := bif_t hc9 hm
    refine WC_seq ?_
    refine WC_seq ?_
    refine WC_region ?_
    refine WL_op (Run_move (Opd.t rfl)) rfl rfl rfl rfl <| ?_
    refine WL_nil ?_
    refine At_then ?_
    refine WC_cond (Opd.t rfl) (fun hc10 => ?_) (fun hc10 => ?_)
    ·
      replace hm := bif_t hc10 hm
      refine WC_seq ?_
      refine WC_region ?_
      refine WL_op (Run_assign Opd.c) rfl rfl rfl rfl <| ?_
      refine WL_nil ?_
      refine At_then ?_
      refine WC_ret ?_
      refine At_then_ret <| At_then_ret <| ?_
      refine At_r1 rfl (ResIs.t rfl) ?_
      cases hm
      exact ⟨rfl, (hs.re 0 [] rfl)⟩
    ·
      replace hm := bif_f hc10 hm
      refine WC_skip ?_
      refine At_then ?_
      refine WC_seq ?_
      refine WC_region ?_
      refine WL_op (Run_assign Opd.c) rfl rfl rfl rfl <| ?_
      refine WL_nil ?_
      refine At_then ?_
      refine WC_ret ?_
      refine At_then_ret <| ?_
      refine At_r1 rfl (ResIs.t rfl) ?_
      cases hm
      exact ⟨rfl, (hs.re 0 [] rfl)⟩
  ·
    replace hm := bif_f hc9 hm
    refine WC_skip ?_
    refine At_then ?_
    refine WC_seq ?_
    refine WC_seq ?_
    refine WC_region ?_
    refine WL_op (Run_move (Opd.t rfl)) rfl rfl rfl rfl <| ?_
    refine WL_nil ?_
    refine At_then ?_
    refine WC_cond (Opd.t rfl) (fun hc11 => ?_) (fun hc11 => ?_)
    ·
      replace hm := bif_t hc11 hm
      refine WC_seq ?_
      refine WC_region ?_
      refine WL_op (Run_assign Opd.c) rfl rfl rfl rfl <| ?_
      refine WL_nil ?_
      refine At_then ?_
      refine WC_ret ?_
      refine At_then_ret <| ?_
      refine At_r1 rfl (ResIs.t rfl) ?_
      cases hm
      exact ⟨rfl, (hs.re 0 [] rfl)⟩
    ·
      replace hm := bif_f hc11 hm
      refine WC_skip ?_
      refine At_then ?_
      refine WC_seq ?_
      refine WC_seq ?_
      refine WC_region ?_
      refine WL_op (Run_move (Opd.t rfl)) rfl rfl rfl rfl <| WL_op (Run_move (Opd.t rfl)) rfl rfl rfl rfl <| WL_op (Run_ltI (Opd.t rfl) (Opd.t rfl)) rfl rfl rfl rfl <| ?_
      refine WL_nil ?_
      refine At_then ?_
      refine WC_cond (Opd.t rfl) (fun hc12 => ?_) (fun hc12 => ?_)
      ·
        replace hm := bif_t hc12 hm
        refine WC_seq ?_
        refine WC_region ?_
        refine WL_op (Run_assign Opd.c) rfl rfl rfl rfl <| ?_
        refine WL_nil ?_
        refine At_then ?_
        refine WC_ret ?_
        refine At_then_ret <| ?_
        refine At_r1 rfl (ResIs.t rfl) ?_
        cases hm
        exact ⟨rfl, (hs.re 0 [] rfl)⟩
      ·
        replace hm := bif_f hc12 hm
        refine WC_skip ?_
        refine At_then ?_
        refine WC_seq ?_
        refine WC_seq ?_
        refine WC_region ?_
        refine WL_op (Run_move (Opd.t rfl)) rfl rfl rfl rfl <| WL_op (Run_move (Opd.t rfl)) rfl rfl rfl rfl <| WL_op (Run_gtI (Opd.t rfl) (Opd.t rfl)) rfl rfl rfl rfl <| ?_
        refine WL_nil ?_
        refine At_then ?_
        refine WC_cond (Opd.t rfl) (fun hc13 => ?_) (fun hc13 => ?_)
        ·
          replace hm := bif_t hc13 hm
          refine WC_seq ?_
          refine WC_region ?_
          refine WL_op (Run_assign Opd.c) rfl rfl rfl rfl <| ?_
          refine WL_nil ?_
          refine At_then ?_
          refine WC_ret ?_
          refine At_then_ret <| ?_
          refine At_r1 rfl (ResIs.t rfl) ?_
          cases hm
          exact ⟨rfl, (hs.re 0 [] rfl)⟩
        ·
          replace hm := bif_f hc13 hm
          refine WC_skip ?_
          refine At_then ?_
          refine WC_seq ?_
          refine WC_region ?_
          refine WL_op (Run_assign Opd.c) rfl rfl rfl rfl <| ?_
          refine WL_nil ?_
          refine At_then ?_
          refine WC_ret ?_
          refine At_r1 rfl (ResIs.t rfl) ?_
          cases hm
          exact ⟨rfl, (hs.re 0 [] rfl)⟩

set_option maxRecDepth 100000 in
set_option maxHeartbeats 4000000 in
theorem dfa_to_c1_ok {Φ : Ctx} {w : World} {e : (Int × Int)} {by_ : Int} {r : Int} (hs : Sat (Φ) w) (hm : dfa_to_c1 e by_ = some r) :
    CallsR Try.prog 39 [(.agg #[(.int .u8 e.1), (.int .i64 e.2)]), (.int .u8 by_)] w (fun v w' => v = (.int .i64 r) ∧ Sat (Φ) w') := by
  refine CallsX_enter Try.func39 rfl Try.ntmps39 rfl ?_
  unfold dfa_to_c1 at hm
  refine WC_seq ?_
  refine WC_region ?_
  refine WS_box (zs := [(.int .u8 e.1), (.int .i64 e.2)]) hs (Opd.t rfl) rfl rfl ?_
  intro b3 w4 hs
  replace hs := Sat.n1 (Γ := Φ) hs rfl
  refine WL_op (Run_assign Opd.c) rfl rfl rfl rfl <| ?_
  refine WL_nil ?_
  refine At_then ?_
  refine WC_seq ?_
  refine WC_region ?_
  refine WL_op (Run_fieldAddr fo69_0 (Opd.t rfl)) rfl rfl rfl rfl <| WL_op (Run_load1 (v := (.int .u8 e.1)) Try.underlying5 rfl (Opd.t rfl) (fun _ => (hs.box (i := 0) rfl).part 0 rfl)) rfl rfl rfl rfl <| WL_op (Run_move (Opd.t rfl)) rfl rfl rfl rfl <| ?_
  obtain ⟨r5, hr6, hm⟩ := bind_some' hm
  refine WL_call (f := 36) (first := []) (cap := []) (xs := [(.tmp 6), (.tmp 7)]) (vs := [(.int .u8 e.1), (.int .u8 by_)]) (args := [(.int .u8 e.1), (.int .u8 by_)]) Try.call36 Opd.f (.cons (Opd.t rfl) (.cons (Opd.t rfl) .nil)) rfl rfl (cmp_Compare_byte_ok (hs.re 1 [0] rfl) hr6) ?_
  rintro _ w7 ⟨rfl, hs⟩
  replace hs := Sat.n1 (Γ := Φ) hs rfl
  refine WL_op (Run_assign (Opd.t rfl)) rfl rfl rfl rfl <| ?_
  refine WL_nil ?_
  refine At_then ?_
  refine WC_ret ?_
  refine At_r1 rfl (ResIs.t rfl) ?_
  cases hm
  exact ⟨rfl, (hs.re 1 [] rfl)⟩

end Go.Proofs.Ytjappdgehmjomaa
