/-
  Own texts for the statement StepJoins, cut down to what it needs: Walk16, Walk17, Walk19, Walk27, TrA, TrPa, TrSys, TrPb, TrRKey, TrRRead, TrRLine, TrRType, TrRSys. (cut and joined by a program)
-/
import Derived.Test.YtjdabjpjafkogaaDoorStepJoinsA
import Derived.Test.YtjdabjpjafkogaaDoorStepJoinsB
import Derived.Test.YtjdabjpjafkogaaDoorStepJoinsC
import Derived.Test.YtjdabjpjafkogaaDoorStepJoinsD
import Derived.KernelRfl
namespace Go.Proofs.YtjdabjpjafkogaaDoor
open Go.Proofs
set_option maxRecDepth 100000 in
set_option maxHeartbeats 4000000 in
theorem step_fired_c1_ok {τ : Type} {J : Nat × τ → List Nat → Item} {l : Nat} {k_yield : Nat × τ → (List Int) → Int → Option (Nat × τ)} (ih_yield : ∀ {Φ : Ctx} {w : World} {y : Nat × τ} {R : List Nat} {a27 : (List Int)} {a29 : Int} {v28 : SLV} {r : Nat × τ}, Sat (J y R :: imm (RSl (RI .i64)) [sl v28] a27 :: Φ) w → k_yield y a27 a29 = some r → Yld Tryd.prog l [(sl v28), (.int .i64 a29)] w (fun u w' => u = .bool (Nat.beq r.1 0) ∧ ∃ R' : List Nat, Sat (J r R' :: Φ) w')) {Φ : Ctx} {w : World} {y : (Nat × τ)} {Names : (List Str)} {Schema : (List (Int × Int))} {Init : (List Int)} {Procs : (List Str)} {Cmd : (List (Int × Ex × (List (Int × Ex))))} {x : (List Int)} {R : List Nat} {b : Nat} {b3 : Nat} {v5 : SLV} {v7 : SLV} {v9 : SLV} {v11 : SLV} {v13 : SLV} {v15 : SLV} {r : (Nat × τ)} (hs : Sat (J y R :: box b 28 [(sl v5), (sl v7), (sl v9), (sl v11), (sl v13)] :: box b3 22 [(sl v15)] :: imm (RSl RS) [sl v5] Names :: imm (RSl (RP (RI .i64) (RI .i64))) [sl v7] Schema :: imm (RSl (RI .i64)) [sl v9] Init :: imm (RSl RS) [sl v11] Procs :: imm (RSl (RP (RI .i64) (RP RExpr (RSl (RP (RI .i64) RExpr))))) [sl v13] Cmd :: imm (RSl (RI .i64)) [sl v15] x :: Φ) w) (hm : step_fired_c1 k_yield y Names Schema Init Procs Cmd x = some r) :
  CallsR Tryd.prog 45 [(.func (.yield l) #[] #[]), (.pointer (some ⟨b, 0, none⟩)), (.pointer (some ⟨b3, 0, none⟩))] w (fun v w' => ∃ R3 : List Nat, v = (.tuple #[]) ∧ Sat (J r R3 :: box b 28 [(sl v5), (sl v7), (sl v9), (sl v11), (sl v13)] :: imm (RSl RS) [sl v5] Names :: imm (RSl (RP (RI .i64) (RI .i64))) [sl v7] Schema :: imm (RSl (RI .i64)) [sl v9] Init :: imm (RSl RS) [sl v11] Procs :: imm (RSl (RP (RI .i64) (RP RExpr (RSl (RP (RI .i64) RExpr))))) [sl v13] Cmd :: box b3 22 [(sl v15)] :: imm (RSl (RI .i64)) [sl v15] x :: Φ) w') := by
 refine CallsX_enter Tryd.func45 rfl Tryd.ntmps45 rfl ?_
 unfold step_fired_c1 at hm
 refine WC_seq <| WC_region ?_
 refine Wo (Run_loadA (vs := [(sl v5), (sl v7), (sl v9), (sl v11), (sl v13)]) Tryd.underlying28 rfl ti28 (O rfl) (fun _ => (hs.box (i := 1) rfl).part 0 rfl) rfl) rfl <| Wo (Run_load1 (v := (sl v15)) Tryd.underlying22 rfl (O rfl) (fun _ => (hs.box (i := 2) rfl).part 0 rfl)) rfl <| ?_
 obtain ⟨r4, hr5, hm⟩ := bind_some' hm
 refine WL_call (f := 17) (first := []) (cap := []) (xs := [(.tmp 6), (.tmp 7)]) (vs := [(.agg #[(sl v5), (sl v7), (sl v9), (sl v11), (sl v13)]), (sl v15)]) (args := [(.agg #[(sl v5), (sl v7), (sl v9), (sl v11), (sl v13)]), (sl v15)]) Tryd.call17 Opd.f (.cons (O rfl) (.cons (O rfl) .nil)) rfl rfl (step_Enabled_ok (m := (Names, Schema, Init, Procs, Cmd)) (hs.re 9 [3, 4, 5, 6, 7, 8, 0, 1, 2, 3, 4, 5, 6, 7, 8] rfl) hr5) ?_
 rintro _ w8 ⟨v6, R7, rfl, hs⟩
 replace hs := Sat.n10 (Γ := Φ) hs rfl
 refine Wo (Run_lenSlG Tryd.underlying22 (O rfl) (fun _ => (hs.own (i := 0) rfl).len)) rfl <| Wo (Run_move Opd.c) rfl <| ?_
 refine WL_nil <| At_then ?_
 refine WC_block ?_
 refine WC_loop (σ := (Nat × τ) × Int) (γ := List Nat) (F := (step_fired_c1_L1 k_yield Names Schema Init Procs Cmd x r4)) (N := FUEL) (s0 := (y, 0)) (r := r) (fun ⟨y10, t12⟩ R11 w9 => Sat (J y10 R11 :: box b 28 [(sl v5), (sl v7), (sl v9), (sl v11), (sl v13)] :: imm (RSl RS) [sl v5] Names :: imm (RSl (RP (RI .i64) (RI .i64))) [sl v7] Schema :: imm (RSl (RI .i64)) [sl v9] Init :: imm (RSl RS) [sl v11] Procs :: imm (RSl (RP (RI .i64) (RP RExpr (RSl (RP (RI .i64) RExpr))))) [sl v13] Cmd :: box b3 22 [(sl v15)] :: imm (RSl (RI .i64)) [sl v15] x :: osl (RI .i64) 3 (sl v6) r4 R7 :: Φ) w9) (fun ⟨y10, t12⟩ R11 => [(0, true, (.func (.yield l) #[] #[])), (1, true, (.pointer (some ⟨b, 0, none⟩))), (2, true, (.pointer (some ⟨b3, 0, none⟩))), (8, true, (sl v6)), (9, true, (.int .i64 (List.length r4 : Int))), (10, true, (.int .i64 t12))]) hm R (hs.re 10 [1, 2, 4, 5, 6, 7, 8, 3, 9, 0] rfl) rfl ?_
 rintro again13 ⟨y10, t12⟩ R11 w9 hm hs
 unfold step_fired_c1_L1 at hm
 dsimp only at hm
 refine WC_seq <| WC_region ?_
 refine Wo (Run_ltI (O rfl) (O rfl)) rfl <| ?_
 refine WL_nil <| At_then <| WC_seq ?_
 refine WC_cond (O rfl) (fun hc14 => ?_) (fun hc14 => ?_)
 ·
  replace hm := bif_t hc14 hm
  refine WC_skip ?_
  refine At_then <| WC_seq ?_
  refine WC_block ?_
  refine WC_seq <| WC_region ?_
  obtain ⟨e15, he16, hm⟩ := bind_some' hm
  refine Wo (Run_idxAddr (p := (elA (sl v6) t12 1)) Tryd.underlying22 ti3 (O rfl) (O rfl) (fun hg => (Own.atA (A := (RI .i64)) (v := (sl v6)) (hs.own (i := 9) rfl) he16).1)) rfl <| Wo (Run_load1 (v := (.int .i64 e15)) Tryd.underlying3 rfl (O rfl) (fun hg => (Own.cellsF (A := (RI .i64)) (v := (sl v6)) (hs.own (i := 9) rfl) he16 (fun _ h => openT3 h)).sub 0 rfl)) rfl <| Wo (Run_assign (O rfl)) rfl <| ?_
  refine WL_nil <| At_then <| WC_seq <| WC_region ?_
  refine Wo (Run_move (O rfl)) rfl <| Wo (Run_loadA (vs := [(sl v5), (sl v7), (sl v9), (sl v11), (sl v13)]) Tryd.underlying28 rfl ti28 (O rfl) (fun _ => (hs.box (i := 1) rfl).part 0 rfl) rfl) rfl <| Wo (Run_load1 (v := (sl v15)) Tryd.underlying22 rfl (O rfl) (fun _ => (hs.box (i := 7) rfl).part 0 rfl)) rfl <| Wo (Run_move (O rfl)) rfl <| ?_
  obtain ⟨r17, hr18, hm⟩ := bind_some' hm
  refine WL_call (f := 12) (first := []) (cap := []) (xs := [(.tmp 15), (.tmp 16), (.tmp 17)]) (vs := [(.agg #[(sl v5), (sl v7), (sl v9), (sl v11), (sl v13)]), (sl v15), (.int .i64 e15)]) (args := [(.agg #[(sl v5), (sl v7), (sl v9), (sl v11), (sl v13)]), (sl v15), (.int .i64 e15)]) Tryd.call12 Opd.f (.cons (O rfl) (.cons (O rfl) (.cons (O rfl) .nil))) rfl rfl (step_Fire_ok (m := (Names, Schema, Init, Procs, Cmd)) (hs.re 10 [2, 3, 4, 5, 6, 8, 0, 1, 2, 3, 4, 5, 6, 7, 8, 9] rfl) hr18) ?_
  rintro _ w21 ⟨v19, R20, rfl, hs⟩
  replace hs := Sat.n11 (Γ := Φ) hs rfl
  refine Wo (Run_extract (vs := [(sl v19), (.int .i64 r17.2)]) (O rfl) rfl) rfl <| Wo (Run_extract (vs := [(sl v19), (.int .i64 r17.2)]) (O rfl) rfl) rfl <| ?_
  replace hs := hs.freeze (i := 0) rfl
  obtain ⟨r22, hr23, hm⟩ := bind_some' hm
  refine WL_yield (l := l) (xs := [(.tmp 19), (.tmp 20)]) (vs := [(sl v19), (.int .i64 r17.2)]) (O rfl) (.cons (O rfl) (.cons (O rfl) .nil)) rfl (ih_yield (hs.re 11 [1, 0, 0, 2, 3, 4, 5, 6, 7, 8, 9, 10] rfl) hr23) ?_
  rintro _ w24 ⟨rfl, R25, hs⟩
  replace hs := Sat.n11 (Γ := Φ) hs rfl
  refine Wo (Run_notB (O rfl)) rfl <| ?_
  refine WL_nil <| At_then ?_
  refine WC_cond (O rfl) (fun hc26 => ?_) (fun hc26 => ?_)
  ·
   replace hm := bif_t hc26 hm
   refine WC_ret ?_
   refine At_blk_ret <| At_then_ret <| At_then_ret <| At_blk_ret <| ?_
   refine At_r0 rfl  ?_
   cases hm
   exact ⟨R25, rfl, (hs.re 11 [0, 2, 3, 4, 5, 6, 7, 8, 9] rfl)⟩
  ·
   replace hm := bif_f hc26 hm
   refine WC_skip ?_
   refine At_blk_normal ?_
   refine At_then <| WC_region ?_
   refine Wo (Run_add (O rfl) Opd.c) rfl <| Wo (Run_move (O rfl)) rfl <| ?_
   refine WL_nil ?_
   exact At_again (r22, (IntKind.i64.wrap (t12 + 1))) R25 hm (hs.re 11 [0, 2, 3, 4, 5, 6, 7, 8, 9, 10] rfl) rfl
 ·
  replace hm := bif_f hc14 hm
  refine WC_exit ?_
  refine At_then_exit <| At_then_exit <| At_blk_here <| ?_
  refine At_e0 rfl  ?_
  cases hm
  exact ⟨R11, rfl, (hs.re 10 [0, 1, 2, 3, 4, 5, 6, 7, 8] rfl)⟩
set_option maxRecDepth 100000 in
set_option maxHeartbeats 4000000 in
theorem step_Next_ok {Φ : Ctx} {w : World} {m : ((List Str) × (List (Int × Int)) × (List Int) × (List Str) × (List (Int × Ex × (List (Int × Ex)))))} {v11 : (List Int)} {v1 : SLV} {v3 : SLV} {v5 : SLV} {v7 : SLV} {v9 : SLV} {v12 : SLV} {r : ((List (List Int)) × Int)} (hs : Sat (imm (RSl RS) [sl v1] m.1 :: imm (RSl (RP (RI .i64) (RI .i64))) [sl v3] m.2.1 :: imm (RSl (RI .i64)) [sl v5] m.2.2.1 :: imm (RSl RS) [sl v7] m.2.2.2.1 :: imm (RSl (RP (RI .i64) (RP RExpr (RSl (RP (RI .i64) RExpr))))) [sl v9] m.2.2.2.2 :: imm (RSl (RI .i64)) [sl v12] v11 :: gl 0 (pow10L.map (Value.int .u64)) :: Φ) w) (hm : step_Next m v11 = some r) :
  CallsR Tryd.prog 14 [(.agg #[(sl v1), (sl v3), (sl v5), (sl v7), (sl v9)]), (sl v12)] w (fun v w' => ∃ v4 : SLV, ∃ R5 : List Nat, v = (.tuple #[(sl v4), (.int .i64 r.2)]) ∧ Sat (osl (RSl (RI .i64)) 22 (sl v4) r.1 R5 :: Φ) w') := by
 refine CallsX_enter Tryd.func14 rfl Tryd.ntmps14 rfl ?_
 unfold step_Next at hm
 refine WC_seq <| WC_region ?_
 refine WS_box (zs := [(sl v1), (sl v3), (sl v5), (sl v7), (sl v9)]) hs (O rfl) rfl rfl ?_
 intro b7 w8 hs
 replace hs := Sat.n8 (Γ := Φ) hs rfl
 refine WS_alloc (zs := [(sl (none, 0, 0))]) hs ti37 rfl rfl ?_
 intro b9 w10 hs
 replace hs := Sat.n9 (Γ := Φ) hs rfl
 refine WS_alloc (zs := [(.int .i64 0)]) hs ti32 rfl rfl ?_
 intro b11 w12 hs
 replace hs := Sat.n10 (Γ := Φ) hs rfl
 refine WL_nil <| At_then <| WC_seq <| WC_region ?_
 refine WS_alloc (zs := [(sl (none, 0, 0)), (.map none)]) hs ti75 rfl rfl ?_
 intro b13 w14 hs
 replace hs := Sat.n11 (Γ := Φ) hs rfl
 refine WL_nil <| At_then <| WC_seq <| WC_seq <| WC_region ?_
 refine Wo (Run_loadA (vs := [(sl v1), (sl v3), (sl v5), (sl v7), (sl v9)]) Tryd.underlying28 rfl ti28 (O rfl) (fun _ => (hs.box (i := 3) rfl).part 0 rfl) rfl) rfl <| Wo (Run_move (O rfl)) rfl <| ?_
 obtain ⟨r15, hr16, hm⟩ := bind_some' hm
 refine WL_call (f := 30) (first := []) (cap := []) (xs := [(.tmp 9), (.tmp 10)]) (vs := [(.agg #[(sl v1), (sl v3), (sl v5), (sl v7), (sl v9)]), (sl v12)]) (args := [(.agg #[(sl v1), (sl v3), (sl v5), (sl v7), (sl v9)]), (sl v12)]) Tryd.call30 Opd.f (.cons (O rfl) (.cons (O rfl) .nil)) rfl rfl (step_fired_ok (hs.re 11 [4, 5, 6, 7, 8, 9, 0, 1, 2, 3, 4, 5, 6, 7, 8, 9, 10] rfl) hr16) ?_
 rintro _ w19 ⟨v17, v18, rfl, hs⟩
 replace hs := Sat.n19 (Γ := Φ) hs rfl
 refine WL_nil <| At_then ?_
 refine WC_block ?_
 replace hs := hs.addDfrs
 replace hs := hs.re 20 [0, 1, 2, 3, 4, 5, 6, 7, 8, 9, 10, 11, 12, 13, 14, 15, 16, 17, 18, 19] rfl
 refine WC_rangeFunc (first := []) (cap := [(.pointer (some ⟨v17, 0, none⟩)), (.pointer (some ⟨v18, 0, none⟩))]) [] Tryd.call45 (O rfl) hs (fun l27 b28 rec29 w52 hr30 hs => ?_)
 replace hs := Sat.n21 (Γ := Φ) hs rfl
 replace hs := hs.addNil (RSl (RI .i64)) 22
 replace hs := hs.addNilM mk73 mv73
 replace hs : Sat (loopI l27 rec29 .ready none :: imm (RSl (RI .i64)) [sl v12] v11 :: box b9 37 [(sl (none, 0, 0))] :: box b11 32 [(.int .i64 0)] :: box b13 75 [(sl (none, 0, 0)), (.map none)] :: osl (RSl (RI .i64)) 22 (sl (none, 0, 0)) [] [] :: omap mk73 mv73 (.map none) none :: dfrs (b28 :: []) :: gl 0 (pow10L.map (Value.int .u64)) :: box v17 28 [(sl v1), (sl v3), (sl v5), (sl v7), (sl v9)] :: imm (RSl RS) [sl v1] m.1 :: imm (RSl (RP (RI .i64) (RI .i64))) [sl v3] m.2.1 :: imm (RSl (RI .i64)) [sl v5] m.2.2.1 :: imm (RSl RS) [sl v7] m.2.2.2.1 :: imm (RSl (RP (RI .i64) (RP RExpr (RSl (RP (RI .i64) RExpr))))) [sl v9] m.2.2.2.2 :: box v18 22 [(sl v12)] :: imm (RSl (RI .i64)) [sl v12] v11 :: box b7 28 [(sl v1), (sl v3), (sl v5), (sl v7), (sl v9)] :: imm (RSl RS) [sl v1] m.1 :: imm (RSl (RP (RI .i64) (RI .i64))) [sl v3] m.2.1 :: imm (RSl (RI .i64)) [sl v5] m.2.2.1 :: imm (RSl RS) [sl v7] m.2.2.2.1 :: imm (RSl (RP (RI .i64) (RP RExpr (RSl (RP (RI .i64) RExpr))))) [sl v9] m.2.2.2.2 :: imm (RSl (RI .i64)) [sl v12] v11 :: gl 0 (pow10L.map (Value.int .u64)) :: Φ) w52 := hs.re 23 [2, 21, 14, 13, 12, 1, 0, 3, 22, 4, 5, 6, 7, 8, 9, 10, 11, 15, 16, 17, 18, 19, 20, 21, 22] rfl
 obtain ⟨R53, hs⟩ := Sat.pack ((fun (y : Nat × (Int × (List (List Int)) × (Option (List (Str × Bool))))) (g : (SLV × List Nat × Option Nat)) => [loopI l27 rec29 (stOf y.1) (jmpOf [.ret] y.1), imm (RSl (RI .i64)) [sl v12] v11, box b9 37 [(sl (none, 0, 0))], box b11 32 [(.int .i64 y.2.1)], box b13 75 [(sl g.1), (.map g.2.2)], osl (RSl (RI .i64)) 22 (sl g.1) y.2.2.1 g.2.1, omap mk73 mv73 (.map g.2.2) y.2.2.2, dfrs (b28 :: []), gl 0 (pow10L.map (Value.int .u64))]) (0, (0, [], none))) ((none, 0, 0), [], none) (box v17 28 [(sl v1), (sl v3), (sl v5), (sl v7), (sl v9)] :: imm (RSl RS) [sl v1] m.1 :: imm (RSl (RP (RI .i64) (RI .i64))) [sl v3] m.2.1 :: imm (RSl (RI .i64)) [sl v5] m.2.2.1 :: imm (RSl RS) [sl v7] m.2.2.2.1 :: imm (RSl (RP (RI .i64) (RP RExpr (RSl (RP (RI .i64) RExpr))))) [sl v9] m.2.2.2.2 :: box v18 22 [(sl v12)] :: imm (RSl (RI .i64)) [sl v12] v11 :: box b7 28 [(sl v1), (sl v3), (sl v5), (sl v7), (sl v9)] :: imm (RSl RS) [sl v1] m.1 :: imm (RSl (RP (RI .i64) (RI .i64))) [sl v3] m.2.1 :: imm (RSl (RI .i64)) [sl v5] m.2.2.1 :: imm (RSl RS) [sl v7] m.2.2.2.1 :: imm (RSl (RP (RI .i64) (RP RExpr (RSl (RP (RI .i64) RExpr))))) [sl v9] m.2.2.2.2 :: imm (RSl (RI .i64)) [sl v12] v11 :: gl 0 (pow10L.map (Value.int .u64)) :: Φ) hs
 obtain ⟨r54, hr55, hm⟩ := bind_some' hm
 refine CallsR.mono (step_fired_c1_ok (τ := (Int × (List (List Int)) × (Option (List (Str × Bool))))) (J := (fun y R => pack ((fun (y : Nat × (Int × (List (List Int)) × (Option (List (Str × Bool))))) (g : (SLV × List Nat × Option Nat)) => [loopI l27 rec29 (stOf y.1) (jmpOf [.ret] y.1), imm (RSl (RI .i64)) [sl v12] v11, box b9 37 [(sl (none, 0, 0))], box b11 32 [(.int .i64 y.2.1)], box b13 75 [(sl g.1), (.map g.2.2)], osl (RSl (RI .i64)) 22 (sl g.1) y.2.2.1 g.2.1, omap mk73 mv73 (.map g.2.2) y.2.2.2, dfrs (b28 :: []), gl 0 (pow10L.map (Value.int .u64))]) y) R)) (l := l27) (k_yield := step_Next_Y1) ?_ (hs.re 17 [0, 1, 7, 2, 3, 4, 5, 6, 8, 2, 3, 4, 5, 6, 8, 9, 10, 11, 12, 13, 14, 15, 16] rfl) hr55) ?_
 ·
  intro Φ w33 y31 R32 a35 a37 v36 r hs hm
  unfold step_Next_Y1 at hm
  obtain ⟨hc34, hm⟩ := chk_some hm
  replace hc34 := Nat.eq_of_beq_eq_true hc34
  obtain ⟨⟨v23, R24, v26⟩, hs⟩ := hs.unpack
  replace hs : Sat (loopI l27 rec29 (stOf y31.1) (jmpOf [.ret] y31.1) :: imm (RSl (RI .i64)) [sl v12] v11 :: box b9 37 [(sl (none, 0, 0))] :: box b11 32 [(.int .i64 y31.2.1)] :: box b13 75 [(sl v23), (.map v26)] :: osl (RSl (RI .i64)) 22 (sl v23) y31.2.2.1 R24 :: omap mk73 mv73 (.map v26) y31.2.2.2 :: dfrs (b28 :: []) :: gl 0 (pow10L.map (Value.int .u64)) :: imm (RSl (RI .i64)) [sl v36] a35 :: Φ) w33 := hs
  rw [hc34] at hs
  replace hs : Sat (loopI l27 rec29 .ready none :: imm (RSl (RI .i64)) [sl v12] v11 :: box b9 37 [(sl (none, 0, 0))] :: box b11 32 [(.int .i64 y31.2.1)] :: box b13 75 [(sl v23), (.map v26)] :: osl (RSl (RI .i64)) 22 (sl v23) y31.2.2.1 R24 :: omap mk73 mv73 (.map v26) y31.2.2.2 :: dfrs (b28 :: []) :: gl 0 (pow10L.map (Value.int .u64)) :: imm (RSl (RI .i64)) [sl v36] a35 :: Φ) w33 := hs
  refine Yld_of (vs := [(sl v36), (.int .i64 a37)]) hr30 hs rfl rfl ?_
  refine WC.sub [(1, true, (sl v12)), (4, true, (.pointer (some ⟨b9, 0, none⟩))), (5, true, (.pointer (some ⟨b11, 0, none⟩))), (6, true, (.pointer (some ⟨b13, 0, none⟩))), (12, true, (sl v36)), (13, true, (.int .i64 a37))] rfl ?_
  refine WC_seq <| WC_region ?_
  refine Wo (Run_assign (O rfl)) rfl <| ?_
  refine WL_nil <| At_then <| WC_region ?_
  refine Wo (Run_assign (O rfl)) rfl <| ?_
  refine WL_nil ?_
  refine At_begin hr30 hs (i := 0) rfl (fun w38 hs => ?_)
  replace hs := Sat.n10 (Γ := Φ) hs rfl
  refine WC_block ?_
  refine WC_seq <| WC_seq <| WC_region ?_
  refine Wo (Run_move (O rfl)) rfl <| Wo (Run_neI (O rfl) Opd.c) rfl <| ?_
  refine WL_nil <| At_then ?_
  refine WC_cond (O rfl) (fun hc39 => ?_) (fun hc39 => ?_)
  ·
   replace hm := bif_t hc39 hm
   refine WC_seq <| WC_region ?_
   refine Wo (Run_move (O rfl)) rfl <| ?_
   refine WS_store (us := [(sl (none, 0, 0))]) (vs' := [(sl (none, 0, 0))]) hs 2 rfl ti37 (O rfl) Opd.c rfl rfl rfl rfl rfl ?_
   intro w40 hs
   replace hs := Sat.n10 (Γ := Φ) hs rfl
   refine WS_store (us := [(.int .i64 a37)]) (vs' := [(.int .i64 a37)]) hs 3 rfl ti32 (O rfl) (O rfl) rfl rfl rfl rfl rfl ?_
   intro w41 hs
   replace hs := Sat.n10 (Γ := Φ) hs rfl
   refine WL_nil <| At_then ?_
   refine WC_ret ?_
   refine At_then_ret <| At_blk_ret <| ?_
   refine At_round_ret hr30 hs (i := 0) rfl (fun w42 hs => ?_)
   cases hm
   replace hs : Sat (loopI l27 rec29 .done (some (.ret)) :: imm (RSl (RI .i64)) [sl v12] v11 :: box b9 37 [(sl (none, 0, 0))] :: box b11 32 [(.int .i64 a37)] :: box b13 75 [(sl v23), (.map v26)] :: osl (RSl (RI .i64)) 22 (sl v23) y31.2.2.1 R24 :: omap mk73 mv73 (.map v26) y31.2.2.2 :: dfrs (b28 :: []) :: gl 0 (pow10L.map (Value.int .u64)) :: Φ) w42 := hs.re 10 [0, 1, 2, 3, 4, 5, 6, 7, 8] rfl
   obtain ⟨R43, hs⟩ := Sat.pack ((fun (y : Nat × (Int × (List (List Int)) × (Option (List (Str × Bool))))) (g : (SLV × List Nat × Option Nat)) => [loopI l27 rec29 (stOf y.1) (jmpOf [.ret] y.1), imm (RSl (RI .i64)) [sl v12] v11, box b9 37 [(sl (none, 0, 0))], box b11 32 [(.int .i64 y.2.1)], box b13 75 [(sl g.1), (.map g.2.2)], osl (RSl (RI .i64)) 22 (sl g.1) y.2.2.1 g.2.1, omap mk73 mv73 (.map g.2.2) y.2.2.2, dfrs (b28 :: []), gl 0 (pow10L.map (Value.int .u64))]) (1, (a37, y31.2.2.1, y31.2.2.2))) (v23, R24, v26) Φ hs
   exact ⟨rfl, R43, hs⟩
  ·
   replace hm := bif_f hc39 hm
   refine WC_skip ?_
   refine At_then <| WC_region ?_
   refine Wo (Run_move (O rfl)) rfl <| ?_
   obtain ⟨r44, hr45, hm⟩ := bind_some' hm
   refine WL_call (f := 31) (first := []) (cap := []) (xs := [(.tmp 6), (.tmp 17)]) (vs := [(.pointer (some ⟨b13, 0, none⟩)), (sl v36)]) (args := [(.pointer (some ⟨b13, 0, none⟩)), (sl v36)]) Tryd.call31 Opd.f (.cons (O rfl) (.cons (O rfl) .nil)) rfl rfl (step_seen_add_ok (hs.re 10 [4, 9, 5, 6, 8, 0, 1, 2, 3, 7, 8, 9] rfl) hr45) ?_
   rintro _ w49 ⟨v46, R47, v48, rfl, hs⟩
   replace hs := Sat.n10 (Γ := Φ) hs rfl
   refine WL_nil ?_
   refine At_blk_normal ?_
   refine At_round hr30 hs (i := 3) rfl (fun w50 hs => ?_)
   cases hm
   replace hs : Sat (loopI l27 rec29 .ready none :: imm (RSl (RI .i64)) [sl v12] v11 :: box b9 37 [(sl (none, 0, 0))] :: box b11 32 [(.int .i64 y31.2.1)] :: box b13 75 [(sl v46), (.map v48)] :: osl (RSl (RI .i64)) 22 (sl v46) r44.1 R47 :: omap mk73 mv73 (.map v48) r44.2 :: dfrs (b28 :: []) :: gl 0 (pow10L.map (Value.int .u64)) :: Φ) w50 := hs.re 10 [3, 4, 5, 6, 0, 1, 2, 7, 8] rfl
   obtain ⟨R51, hs⟩ := Sat.pack ((fun (y : Nat × (Int × (List (List Int)) × (Option (List (Str × Bool))))) (g : (SLV × List Nat × Option Nat)) => [loopI l27 rec29 (stOf y.1) (jmpOf [.ret] y.1), imm (RSl (RI .i64)) [sl v12] v11, box b9 37 [(sl (none, 0, 0))], box b11 32 [(.int .i64 y.2.1)], box b13 75 [(sl g.1), (.map g.2.2)], osl (RSl (RI .i64)) 22 (sl g.1) y.2.2.1 g.2.1, omap mk73 mv73 (.map g.2.2) y.2.2.2, dfrs (b28 :: []), gl 0 (pow10L.map (Value.int .u64))]) (0, (y31.2.1, r44.1, r44.2))) (v46, R47, v48) Φ hs
   exact ⟨rfl, R51, hs⟩
 ·
  rintro _ w57 ⟨R56, rfl, hs⟩
  replace hs := hs.re 23 [0, 1, 2, 3, 4, 5, 6, 7, 8, 9, 10, 11, 12, 13, 14, 15, 16, 17, 18, 19, 20, 21, 22] rfl
  rcases bif_some hm with ⟨hq, hm⟩ | ⟨hq, hm⟩
  ·
   replace hq := Nat.eq_of_beq_eq_true hq
   obtain ⟨⟨v59, R60, v61⟩, hs⟩ := hs.unpack
   replace hs : Sat (loopI l27 rec29 (stOf r54.1) (jmpOf [.ret] r54.1) :: imm (RSl (RI .i64)) [sl v12] v11 :: box b9 37 [(sl (none, 0, 0))] :: box b11 32 [(.int .i64 r54.2.1)] :: box b13 75 [(sl v59), (.map v61)] :: osl (RSl (RI .i64)) 22 (sl v59) r54.2.2.1 R60 :: omap mk73 mv73 (.map v61) r54.2.2.2 :: dfrs (b28 :: []) :: gl 0 (pow10L.map (Value.int .u64)) :: box v17 28 [(sl v1), (sl v3), (sl v5), (sl v7), (sl v9)] :: imm (RSl RS) [sl v1] m.1 :: imm (RSl (RP (RI .i64) (RI .i64))) [sl v3] m.2.1 :: imm (RSl (RI .i64)) [sl v5] m.2.2.1 :: imm (RSl RS) [sl v7] m.2.2.2.1 :: imm (RSl (RP (RI .i64) (RP RExpr (RSl (RP (RI .i64) RExpr))))) [sl v9] m.2.2.2.2 :: box v18 22 [(sl v12)] :: imm (RSl (RI .i64)) [sl v12] v11 :: imm (RSl RS) [sl v1] m.1 :: imm (RSl (RP (RI .i64) (RI .i64))) [sl v3] m.2.1 :: imm (RSl (RI .i64)) [sl v5] m.2.2.1 :: imm (RSl RS) [sl v7] m.2.2.2.1 :: imm (RSl (RP (RI .i64) (RP RExpr (RSl (RP (RI .i64) RExpr))))) [sl v9] m.2.2.2.2 :: imm (RSl (RI .i64)) [sl v12] v11 :: box b7 28 [(sl v1), (sl v3), (sl v5), (sl v7), (sl v9)] :: imm (RSl RS) [sl v1] m.1 :: imm (RSl (RP (RI .i64) (RI .i64))) [sl v3] m.2.1 :: imm (RSl (RI .i64)) [sl v5] m.2.2.1 :: imm (RSl RS) [sl v7] m.2.2.2.1 :: imm (RSl (RP (RI .i64) (RP RExpr (RSl (RP (RI .i64) RExpr))))) [sl v9] m.2.2.2.2 :: imm (RSl (RI .i64)) [sl v12] v11 :: gl 0 (pow10L.map (Value.int .u64)) :: Φ) w57 := hs
   rw [hq] at hs
   refine LoopEnd.go hr30 (Γ := imm (RSl (RI .i64)) [sl v12] v11 :: box b9 37 [(sl (none, 0, 0))] :: box b11 32 [(.int .i64 r54.2.1)] :: box b13 75 [(sl v59), (.map v61)] :: osl (RSl (RI .i64)) 22 (sl v59) r54.2.2.1 R60 :: omap mk73 mv73 (.map v61) r54.2.2.2 :: dfrs (b28 :: []) :: gl 0 (pow10L.map (Value.int .u64)) :: box v17 28 [(sl v1), (sl v3), (sl v5), (sl v7), (sl v9)] :: imm (RSl RS) [sl v1] m.1 :: imm (RSl (RP (RI .i64) (RI .i64))) [sl v3] m.2.1 :: imm (RSl (RI .i64)) [sl v5] m.2.2.1 :: imm (RSl RS) [sl v7] m.2.2.2.1 :: imm (RSl (RP (RI .i64) (RP RExpr (RSl (RP (RI .i64) RExpr))))) [sl v9] m.2.2.2.2 :: box v18 22 [(sl v12)] :: imm (RSl (RI .i64)) [sl v12] v11 :: imm (RSl RS) [sl v1] m.1 :: imm (RSl (RP (RI .i64) (RI .i64))) [sl v3] m.2.1 :: imm (RSl (RI .i64)) [sl v5] m.2.2.1 :: imm (RSl RS) [sl v7] m.2.2.2.1 :: imm (RSl (RP (RI .i64) (RP RExpr (RSl (RP (RI .i64) RExpr))))) [sl v9] m.2.2.2.2 :: imm (RSl (RI .i64)) [sl v12] v11 :: box b7 28 [(sl v1), (sl v3), (sl v5), (sl v7), (sl v9)] :: imm (RSl RS) [sl v1] m.1 :: imm (RSl (RP (RI .i64) (RI .i64))) [sl v3] m.2.1 :: imm (RSl (RI .i64)) [sl v5] m.2.2.1 :: imm (RSl RS) [sl v7] m.2.2.2.1 :: imm (RSl (RP (RI .i64) (RP RExpr (RSl (RP (RI .i64) RExpr))))) [sl v9] m.2.2.2.2 :: imm (RSl (RI .i64)) [sl v12] v11 :: gl 0 (pow10L.map (Value.int .u64)) :: Φ) hs (fun w62 hs => ?_)
   refine At_blk_normal ?_
   refine At_then <| WC_seq <| WC_seq <| WC_region ?_
   refine Wo (Run_fieldAddr fo75_0 (O rfl)) rfl <| Wo (Run_load1 (v := (sl v59)) Tryd.underlying37 rfl (O rfl) (fun _ => (hs.box (i := 3) rfl).part 0 rfl)) rfl <| Wo (Run_lenSlG Tryd.underlying37 (O rfl) (fun _ => (hs.own (i := 4) rfl).len)) rfl <| Wo (Run_eqI (O rfl) Opd.c) rfl <| ?_
   refine WL_nil <| At_then ?_
   refine WC_cond (O rfl) (fun hc63 => ?_) (fun hc63 => ?_)
   ·
    replace hm := bif_t hc63 hm
    refine WC_region ?_
    refine Wo (Run_move (O rfl)) rfl <| ?_
    obtain ⟨r64, hr65, hm⟩ := bind_some' hm
    refine WL_call (f := 27) (first := []) (cap := []) (xs := [(.tmp 23)]) (vs := [(sl v12)]) (args := [(sl v12)]) Tryd.call27 Opd.f (.cons (O rfl) .nil) rfl rfl (slices_Clone_int_int_ok (hs.re 30 [0, 0, 1, 2, 3, 4, 5, 6, 7, 8, 9, 10, 11, 12, 13, 14, 15, 16, 17, 18, 19, 20, 21, 22, 23, 24, 25, 26, 27, 28, 29] rfl) hr65) ?_
    rintro _ w68 ⟨v66, R67, rfl, hs⟩
    replace hs := hs.re 31 [0, 2, 3, 4, 5, 6, 7, 8, 30] rfl
    replace hs := Sat.n9 (Γ := Φ) hs rfl
    replace hs := hs.freeze (i := 0) rfl
    obtain ⟨r69, hr70, hm⟩ := bind_some' hm
    refine WL_call (f := 31) (first := []) (cap := []) (xs := [(.tmp 6), (.tmp 24)]) (vs := [(.pointer (some ⟨b13, 0, none⟩)), (sl v66)]) (args := [(.pointer (some ⟨b13, 0, none⟩)), (sl v66)]) Tryd.call31 Opd.f (.cons (O rfl) (.cons (O rfl) .nil)) rfl rfl (step_seen_add_ok (hs.re 9 [3, 0, 4, 5, 7, 0, 1, 2, 6, 7, 8] rfl) hr70) ?_
    rintro _ w74 ⟨v71, R72, v73, rfl, hs⟩
    replace hs := Sat.n9 (Γ := Φ) hs rfl
    refine WL_nil <| At_then <| WC_seq <| WC_region ?_
    refine Wo (Run_fieldAddr fo75_0 (O rfl)) rfl <| Wo (Run_load1 (v := (sl v71)) Tryd.underlying37 rfl (O rfl) (fun _ => (hs.box (i := 0) rfl).part 0 rfl)) rfl <| ?_
    refine WS_store (us := [(sl v71)]) (vs' := [(sl v71)]) hs 4 rfl ti37 (O rfl) (O rfl) rfl rfl rfl rfl rfl ?_
    intro w75 hs
    replace hs := Sat.n9 (Γ := Φ) hs rfl
    refine WS_store (us := [(.int .i64 0)]) (vs' := [(.int .i64 0)]) hs 5 rfl ti32 (O rfl) Opd.c rfl rfl rfl rfl rfl ?_
    intro w76 hs
    replace hs := Sat.n9 (Γ := Φ) hs rfl
    refine WL_nil <| At_then ?_
    refine WC_ret ?_
    replace hs := hs.re 9 [6, 0, 1, 2, 3, 4, 5, 7, 8] rfl
    refine At_marks (b28 :: []) hs (fun w77 hs => ?_)
    refine At_r2 rfl (ResIs.c1 (vs := [(sl v71)]) rfl Tryd.underlying37 rfl ((hs.box (i := 4) rfl).part 0 rfl) rfl) (ResIs.c1 (vs := [(.int .i64 0)]) rfl Tryd.underlying32 rfl ((hs.box (i := 5) rfl).part 0 rfl) rfl) ?_
    cases hm
    exact ⟨v71, R72, rfl, (hs.re 8 [1] rfl)⟩
   ·
    replace hm := bif_f hc63 hm
    refine WC_skip ?_
    refine At_then <| WC_seq <| WC_region ?_
    refine Wo (Run_fieldAddr fo75_0 (O rfl)) rfl <| Wo (Run_load1 (v := (sl v59)) Tryd.underlying37 rfl (O rfl) (fun _ => (hs.box (i := 3) rfl).part 0 rfl)) rfl <| ?_
    refine WS_store (us := [(sl v59)]) (vs' := [(sl v59)]) hs 1 rfl ti37 (O rfl) (O rfl) rfl rfl rfl rfl rfl ?_
    intro w78 hs
    replace hs := hs.re 30 [1, 2, 4, 6, 7, 29] rfl
    replace hs := Sat.n6 (Γ := Φ) hs rfl
    refine WS_store (us := [(.int .i64 0)]) (vs' := [(.int .i64 0)]) hs 1 rfl ti32 (O rfl) Opd.c rfl rfl rfl rfl rfl ?_
    intro w79 hs
    replace hs := Sat.n6 (Γ := Φ) hs rfl
    refine WL_nil <| At_then ?_
    refine WC_ret ?_
    replace hs := hs.re 6 [3, 0, 1, 2, 4, 5] rfl
    refine At_marks (b28 :: []) hs (fun w80 hs => ?_)
    refine At_r2 rfl (ResIs.c1 (vs := [(sl v59)]) rfl Tryd.underlying37 rfl ((hs.box (i := 0) rfl).part 0 rfl) rfl) (ResIs.c1 (vs := [(.int .i64 0)]) rfl Tryd.underlying32 rfl ((hs.box (i := 1) rfl).part 0 rfl) rfl) ?_
    cases hm
    exact ⟨v59, R60, rfl, (hs.re 5 [2] rfl)⟩
  ·
   rcases bif_some hm with ⟨hq, hm⟩ | ⟨hq, hm⟩
   ·
    replace hq := Nat.eq_of_beq_eq_true hq
    obtain ⟨⟨v82, R83, v84⟩, hs⟩ := hs.unpack
    replace hs : Sat (loopI l27 rec29 (stOf r54.1) (jmpOf [.ret] r54.1) :: imm (RSl (RI .i64)) [sl v12] v11 :: box b9 37 [(sl (none, 0, 0))] :: box b11 32 [(.int .i64 r54.2.1)] :: box b13 75 [(sl v82), (.map v84)] :: osl (RSl (RI .i64)) 22 (sl v82) r54.2.2.1 R83 :: omap mk73 mv73 (.map v84) r54.2.2.2 :: dfrs (b28 :: []) :: gl 0 (pow10L.map (Value.int .u64)) :: box v17 28 [(sl v1), (sl v3), (sl v5), (sl v7), (sl v9)] :: imm (RSl RS) [sl v1] m.1 :: imm (RSl (RP (RI .i64) (RI .i64))) [sl v3] m.2.1 :: imm (RSl (RI .i64)) [sl v5] m.2.2.1 :: imm (RSl RS) [sl v7] m.2.2.2.1 :: imm (RSl (RP (RI .i64) (RP RExpr (RSl (RP (RI .i64) RExpr))))) [sl v9] m.2.2.2.2 :: box v18 22 [(sl v12)] :: imm (RSl (RI .i64)) [sl v12] v11 :: imm (RSl RS) [sl v1] m.1 :: imm (RSl (RP (RI .i64) (RI .i64))) [sl v3] m.2.1 :: imm (RSl (RI .i64)) [sl v5] m.2.2.1 :: imm (RSl RS) [sl v7] m.2.2.2.1 :: imm (RSl (RP (RI .i64) (RP RExpr (RSl (RP (RI .i64) RExpr))))) [sl v9] m.2.2.2.2 :: imm (RSl (RI .i64)) [sl v12] v11 :: box b7 28 [(sl v1), (sl v3), (sl v5), (sl v7), (sl v9)] :: imm (RSl RS) [sl v1] m.1 :: imm (RSl (RP (RI .i64) (RI .i64))) [sl v3] m.2.1 :: imm (RSl (RI .i64)) [sl v5] m.2.2.1 :: imm (RSl RS) [sl v7] m.2.2.2.1 :: imm (RSl (RP (RI .i64) (RP RExpr (RSl (RP (RI .i64) RExpr))))) [sl v9] m.2.2.2.2 :: imm (RSl (RI .i64)) [sl v12] v11 :: gl 0 (pow10L.map (Value.int .u64)) :: Φ) w57 := hs
    rw [hq] at hs
    refine LoopEnd.jump hr30 (Γ := imm (RSl (RI .i64)) [sl v12] v11 :: box b9 37 [(sl (none, 0, 0))] :: box b11 32 [(.int .i64 r54.2.1)] :: box b13 75 [(sl v82), (.map v84)] :: osl (RSl (RI .i64)) 22 (sl v82) r54.2.2.1 R83 :: omap mk73 mv73 (.map v84) r54.2.2.2 :: dfrs (b28 :: []) :: gl 0 (pow10L.map (Value.int .u64)) :: box v17 28 [(sl v1), (sl v3), (sl v5), (sl v7), (sl v9)] :: imm (RSl RS) [sl v1] m.1 :: imm (RSl (RP (RI .i64) (RI .i64))) [sl v3] m.2.1 :: imm (RSl (RI .i64)) [sl v5] m.2.2.1 :: imm (RSl RS) [sl v7] m.2.2.2.1 :: imm (RSl (RP (RI .i64) (RP RExpr (RSl (RP (RI .i64) RExpr))))) [sl v9] m.2.2.2.2 :: box v18 22 [(sl v12)] :: imm (RSl (RI .i64)) [sl v12] v11 :: imm (RSl RS) [sl v1] m.1 :: imm (RSl (RP (RI .i64) (RI .i64))) [sl v3] m.2.1 :: imm (RSl (RI .i64)) [sl v5] m.2.2.1 :: imm (RSl RS) [sl v7] m.2.2.2.1 :: imm (RSl (RP (RI .i64) (RP RExpr (RSl (RP (RI .i64) RExpr))))) [sl v9] m.2.2.2.2 :: imm (RSl (RI .i64)) [sl v12] v11 :: box b7 28 [(sl v1), (sl v3), (sl v5), (sl v7), (sl v9)] :: imm (RSl RS) [sl v1] m.1 :: imm (RSl (RP (RI .i64) (RI .i64))) [sl v3] m.2.1 :: imm (RSl (RI .i64)) [sl v5] m.2.2.1 :: imm (RSl RS) [sl v7] m.2.2.2.1 :: imm (RSl (RP (RI .i64) (RP RExpr (RSl (RP (RI .i64) RExpr))))) [sl v9] m.2.2.2.2 :: imm (RSl (RI .i64)) [sl v12] v11 :: gl 0 (pow10L.map (Value.int .u64)) :: Φ) (c := .ret) hs (fun w85 hs => ?_)
    refine WC_ret ?_
    refine At_blk_ret <| At_then_ret <| ?_
    replace hs := hs.re 30 [6, 0, 1, 2, 3, 4, 5, 7, 8, 9, 10, 11, 12, 13, 14, 15, 16, 17, 18, 19, 20, 21, 22, 23, 24, 25, 26, 27, 28, 29] rfl
    refine At_marks (b28 :: []) hs (fun w86 hs => ?_)
    refine At_r2 rfl (ResIs.c1 (vs := [(sl (none, 0, 0))]) rfl Tryd.underlying37 rfl ((hs.box (i := 1) rfl).part 0 rfl) rfl) (ResIs.c1 (vs := [(.int .i64 r54.2.1)]) rfl Tryd.underlying32 rfl ((hs.box (i := 2) rfl).part 0 rfl) rfl) ?_
    replace hs := hs.addNil (RSl (RI .i64)) 22
    cases hm
    exact ⟨(none, 0, 0), [], rfl, (hs.re 30 [0] rfl)⟩
   ·
    cases hm
set_option maxRecDepth 100000 in
set_option maxHeartbeats 4000000 in
theorem step_Reach_ok {Φ : Ctx} {w : World} {m : ((List Str) × (List (Int × Int)) × (List Int) × (List Str) × (List (Int × Ex × (List (Int × Ex)))))} {most : Int} {v1 : SLV} {v3 : SLV} {v5 : SLV} {v7 : SLV} {v9 : SLV} {r : ((List (List Int)) × Int × (List Int))} (hs : Sat (imm (RSl RS) [sl v1] m.1 :: imm (RSl (RP (RI .i64) (RI .i64))) [sl v3] m.2.1 :: imm (RSl (RI .i64)) [sl v5] m.2.2.1 :: imm (RSl RS) [sl v7] m.2.2.2.1 :: imm (RSl (RP (RI .i64) (RP RExpr (RSl (RP (RI .i64) RExpr))))) [sl v9] m.2.2.2.2 :: gl 0 (pow10L.map (Value.int .u64)) :: Φ) w) (hm : step_Reach m most = some r) :
  CallsR Tryd.prog 20 [(.agg #[(sl v1), (sl v3), (sl v5), (sl v7), (sl v9)]), (.int .i64 most)] w (fun v w' => ∃ v4 : SLV, ∃ R5 : List Nat, ∃ v8 : SLV, v = (.tuple #[(sl v4), (.int .i64 r.2.1), (sl v8)]) ∧ Sat (osl (RSl (RI .i64)) 22 (sl v4) r.1 R5 :: imm (RSl (RI .i64)) [sl v8] r.2.2 :: Φ) w') := by
 refine CallsX_enter Tryd.func20 rfl Tryd.ntmps20 rfl ?_
 unfold step_Reach at hm
 refine WC_seq <| WC_region ?_
 refine WS_box (zs := [(sl v1), (sl v3), (sl v5), (sl v7), (sl v9)]) hs (O rfl) rfl rfl ?_
 intro b9 w10 hs
 replace hs := Sat.n7 (Γ := Φ) hs rfl
 refine Wo (Run_assign Opd.c) rfl <| Wo (Run_assign Opd.c) rfl <| Wo (Run_assign Opd.c) rfl <| ?_
 refine WL_nil <| At_then <| WC_seq <| WC_region ?_
 refine WS_alloc (zs := [(sl (none, 0, 0)), (.map none)]) hs ti75 rfl rfl ?_
 intro b11 w12 hs
 replace hs := Sat.n8 (Γ := Φ) hs rfl
 refine WL_nil <| At_then <| WC_seq <| WC_region ?_
 refine Wo (Run_fieldAddr fo28_2 (O rfl)) rfl <| Wo (Run_load1 (v := (sl v5)) Tryd.underlying22 rfl (O rfl) (fun _ => (hs.box (i := 1) rfl).part 2 rfl)) rfl <| ?_
 obtain ⟨r13, hr14, hm⟩ := bind_some' hm
 refine WL_call (f := 27) (first := []) (cap := []) (xs := [(.tmp 14)]) (vs := [(sl v5)]) (args := [(sl v5)]) Tryd.call27 Opd.f (.cons (O rfl) .nil) rfl rfl (slices_Clone_int_int_ok (hs.re 8 [4, 0, 1, 2, 3, 4, 5, 6, 7] rfl) hr14) ?_
 rintro _ w17 ⟨v15, R16, rfl, hs⟩
 replace hs := Sat.n9 (Γ := Φ) hs rfl
 replace hs := hs.freeze (i := 0) rfl
 replace hs := hs.addNil (RSl (RI .i64)) 22
 replace hs := hs.addNilM mk73 mv73
 obtain ⟨r18, hr19, hm⟩ := bind_some' hm
 refine WL_call (f := 31) (first := []) (cap := []) (xs := [(.tmp 7), (.tmp 15)]) (vs := [(.pointer (some ⟨b11, 0, none⟩)), (sl v15)]) (args := [(.pointer (some ⟨b11, 0, none⟩)), (sl v15)]) Tryd.call31 Opd.f (.cons (O rfl) (.cons (O rfl) .nil)) rfl rfl (step_seen_add_ok (hs.re 11 [3, 2, 1, 0, 10, 2, 4, 5, 6, 7, 8, 9, 10] rfl) hr19) ?_
 rintro _ w23 ⟨v20, R21, v22, rfl, hs⟩
 replace hs := Sat.n11 (Γ := Φ) hs rfl
 refine WL_nil <| At_then <| WC_seq <| WC_seq <| WC_region ?_
 refine Wo (Run_assign Opd.c) rfl <| ?_
 refine WL_nil <| At_then ?_
 refine WC_block ?_
 refine WC_loop (σ := (List (List Int)) × (Option (List (Str × Bool))) × Int) (γ := SLV × List Nat × Option Nat) (F := (step_Reach_L1 m most)) (N := FUEL) (s0 := (r18.1, r18.2, 0)) (r := r) (fun ⟨c25, c28, i30⟩ ⟨v26, R27, v29⟩ w24 => Sat (box b9 28 [(sl v1), (sl v3), (sl v5), (sl v7), (sl v9)] :: imm (RSl RS) [sl v1] m.1 :: imm (RSl (RP (RI .i64) (RI .i64))) [sl v3] m.2.1 :: imm (RSl (RI .i64)) [sl v5] m.2.2.1 :: imm (RSl RS) [sl v7] m.2.2.2.1 :: imm (RSl (RP (RI .i64) (RP RExpr (RSl (RP (RI .i64) RExpr))))) [sl v9] m.2.2.2.2 :: box b11 75 [(sl v26), (.map v29)] :: osl (RSl (RI .i64)) 22 (sl v26) c25 R27 :: omap mk73 mv73 (.map v29) c28 :: gl 0 (pow10L.map (Value.int .u64)) :: Φ) w24) (fun ⟨c25, c28, i30⟩ ⟨v26, R27, v29⟩ => [(1, true, (.int .i64 most)), (2, true, (.pointer (some ⟨b9, 0, none⟩))), (7, true, (.pointer (some ⟨b11, 0, none⟩))), (8, true, (.int .i64 i30))]) hm (v20, R21, v22) (hs.re 11 [4, 5, 6, 7, 8, 9, 0, 1, 2, 10] rfl) rfl ?_
 rintro again31 ⟨c25, c28, i30⟩ ⟨v26, R27, v29⟩ w24 hm hs
 unfold step_Reach_L1 at hm
 dsimp only at hm
 refine WC_seq <| WC_seq <| WC_region ?_
 refine Wo (Run_move (O rfl)) rfl <| Wo (Run_fieldAddr fo75_0 (O rfl)) rfl <| Wo (Run_load1 (v := (sl v26)) Tryd.underlying37 rfl (O rfl) (fun _ => (hs.box (i := 6) rfl).part 0 rfl)) rfl <| Wo (Run_lenSlG Tryd.underlying37 (O rfl) (fun _ => (hs.own (i := 7) rfl).len)) rfl <| ?_
 obtain ⟨b32, e33, hm⟩ := letv_some hm
 refine Wo (Run.eqB (Run_ltI (O rfl) (O rfl)) e33) rfl <| Wo (Run_move (O rfl)) rfl <| WL_opG rfl rfl rfl rfl guard_pos (Run_fieldAddr fo75_0 (O rfl)) rfl rfl rfl <| WL_opG rfl rfl rfl rfl guard_pos (Run_load1 (v := (sl v26)) Tryd.underlying37 rfl (Opd.g rfl id) (fun _ => (hs.box (i := 6) rfl).part 0 rfl)) rfl rfl rfl <| WL_opG rfl rfl rfl rfl guard_pos (Run_lenSlG Tryd.underlying37 (Opd.g rfl id) (fun _ => (hs.own (i := 7) rfl).len)) rfl rfl rfl <| WL_opG rfl rfl rfl rfl guard_pos (Run_move (O rfl)) rfl rfl rfl <| ?_
 obtain ⟨b34, e35, hm⟩ := letv_some hm
 refine WL_opG rfl rfl rfl rfl guard_pos (Run.eqB (Run_leI (Opd.g rfl id) (Opd.g rfl id)) e35) rfl rfl rfl <| ?_
 obtain ⟨b36, e37, hm⟩ := letv_some hm
 refine Wo (Run.eqB (Run_and (O rfl) (Opd.g rfl id)) e37) rfl <| ?_
 refine WL_nil <| At_then ?_
 refine WC_cond (O rfl) (fun hc38 => ?_) (fun hc38 => ?_)
 ·
  replace hm := bif_t hc38 hm
  refine WC_skip ?_
  refine At_then <| WC_seq ?_
  refine WC_block ?_
  refine WC_seq ?_
  refine WC_region_mixed [0, 0, 2, 0, 12, 16, 33, 64, 128, 128, 511, 2047] (.q 0 0 (.q 1 1 (.q 2 3 (.q 3 7 (.q 4 15 (.q 5 31 (.l 6 63 (.q 7 127 (.q 8 255 (.q 9 511 (.q 10 1023 (.q 11 2047 .nil)))))))))))) (by kernel_rfl) (by kernel_rfl) ?_
  intro w39 hx40
  replace hs := hs.ext hx40
  refine WD_op (fun w => CellsAt w ⟨b9, 0, none⟩ [(sl v1), (sl v3), (sl v5), (sl v7), (sl v9)]) ((hs.box (i := 0) rfl).part 0 rfl) (fun _ hJ => (Run_loadA (vs := [(sl v1), (sl v3), (sl v5), (sl v7), (sl v9)]) Tryd.underlying28 rfl ti28 (O rfl) (fun _ => hJ) rfl)) rfl rfl rfl rfl <| WD_pure (fun _ => (Run_fieldAddr fo75_0 (O rfl))) rfl rfl rfl rfl <| WD_op (fun w => CellsAt w ⟨b11, 0, none⟩ [(sl v26)]) ((hs.box (i := 6) rfl).part 0 rfl) (fun _ hJ => (Run_load1 (v := (sl v26)) Tryd.underlying37 rfl (O rfl) (fun _ => hJ))) rfl rfl rfl rfl <| WD_pure (fun _ => (Run_move (O rfl))) rfl rfl rfl rfl <| ?_
  obtain ⟨e41, he42, hm⟩ := bind_some' hm
  obtain ⟨v43, hC44, hN45, hR46⟩ := cellsMO22 (g := true) (fun hg => (hs.own (i := 7) rfl)) (fun hg => he42)
  replace hs := hs.addL [imm (RSl (RI .i64)) [sl v43] e41] rfl ⟨⟨_, rfl, hR46 rfl⟩, trivial⟩
  replace hs := Sat.n11 (Γ := Φ) hs rfl
  refine WD_pure (fun _ => (Run_idxAddr (p := (elA (sl v26) i30 1)) Tryd.underlying37 ti22 (O rfl) (O rfl) (fun hg => (Own.atA (A := (RSl (RI .i64))) (v := (sl v26)) (hs.own (i := 8) rfl) he42).1))) rfl rfl rfl rfl <| WD_op (fun w => true = true → CellsAt w (elA (sl v26) i30 1) [(sl v43)]) (fun hg => (hC44 hg).sub 0 rfl) (fun _ hJ => (Run_load1 (v := (sl v43)) Tryd.underlying22 rfl (O rfl) hJ)) rfl rfl rfl rfl <| ?_
  refine WD_loud (pend' := [(2, fun w => CellsAt w ⟨b11, 0, none⟩ [(sl v26)])]) rfl (by kernel_rfl) ?_
  obtain ⟨r47, hr48, hm⟩ := bind_some' hm
  refine WL_call (f := 14) (first := []) (cap := []) (xs := [(.tmp 32), (.tmp 37)]) (vs := [(.agg #[(sl v1), (sl v3), (sl v5), (sl v7), (sl v9)]), (sl v43)]) (args := [(.agg #[(sl v1), (sl v3), (sl v5), (sl v7), (sl v9)]), (sl v43)]) Tryd.call14 Opd.f (.cons (O rfl) (.cons (O rfl) .nil)) rfl rfl (step_Next_ok (hs.re 11 [2, 3, 4, 5, 6, 0, 10, 0, 1, 2, 3, 4, 5, 6, 7, 8, 9, 10] rfl) hr48) ?_
  rintro _ w51 ⟨v49, R50, rfl, hs⟩
  replace hs := Sat.n12 (Γ := Φ) hs rfl
  refine WL_nil ?_
  refine At_QK (allJ_cons ((hs.box (i := 8) rfl).part 0 rfl) allJ_nil) ?_
  refine WD_pure (fun _ => (Run_move (O rfl))) rfl rfl rfl rfl <| WD_pure (fun _ => (Run_extract (vs := [(sl v49), (.int .i64 r47.2)]) (O rfl) rfl)) rfl rfl rfl rfl <| WD_pure (fun _ => (Run_extract (vs := [(sl v49), (.int .i64 r47.2)]) (O rfl) rfl)) rfl rfl rfl rfl <| WD_pure (fun _ => (Run_assign (O rfl))) rfl rfl rfl rfl <| WD_pure (fun _ => (Run_assign (O rfl))) rfl rfl rfl rfl <| ?_
  refine WD_nil ?_
  refine At_then <| WC_seq <| WC_seq <| WC_region ?_
  refine Wo (Run_move (O rfl)) rfl <| Wo (Run_neI (O rfl) Opd.c) rfl <| ?_
  refine WL_nil <| At_then ?_
  refine WC_cond (O rfl) (fun hc52 => ?_) (fun hc52 => ?_)
  ·
   replace hm := bif_t hc52 hm
   refine WC_seq ?_
   refine WC_region_mixed [0, 0, 2, 0, 12, 16, 0, 65, 255] (.q 0 0 (.q 1 1 (.q 2 3 (.q 3 7 (.q 4 15 (.q 5 31 (.q 6 63 (.q 7 127 (.q 8 255 .nil))))))))) (by kernel_rfl) (by kernel_rfl) ?_
   intro w53 hx54
   replace hs := hs.ext hx54
   refine WD_pure (fun _ => (Run_move (O rfl))) rfl rfl rfl rfl <| WD_pure (fun _ => (Run_fieldAddr fo75_0 (O rfl))) rfl rfl rfl rfl <| WD_op (fun w => CellsAt w ⟨b11, 0, none⟩ [(sl v26)]) ((hs.box (i := 8) rfl).part 0 rfl) (fun _ hJ => (Run_load1 (v := (sl v26)) Tryd.underlying37 rfl (O rfl) (fun _ => hJ))) rfl rfl rfl rfl <| WD_pure (fun _ => (Run_move (O rfl))) rfl rfl rfl rfl <| ?_
   obtain ⟨e55, he56, hm⟩ := bind_some' hm
   obtain ⟨v57, hC58, hN59, hR60⟩ := cellsMO22 (g := true) (fun hg => (hs.own (i := 9) rfl)) (fun hg => he56)
   replace hs := hs.addL [imm (RSl (RI .i64)) [sl v57] e55] rfl ⟨⟨_, rfl, hR60 rfl⟩, trivial⟩
   replace hs := Sat.n13 (Γ := Φ) hs rfl
   refine WD_pure (fun _ => (Run_idxAddr (p := (elA (sl v26) i30 1)) Tryd.underlying37 ti22 (O rfl) (O rfl) (fun hg => (Own.atA (A := (RSl (RI .i64))) (v := (sl v26)) (hs.own (i := 10) rfl) he56).1))) rfl rfl rfl rfl <| WD_op (fun w => true = true → CellsAt w (elA (sl v26) i30 1) [(sl v57)]) (fun hg => (hC58 hg).sub 0 rfl) (fun _ hJ => (Run_load1 (v := (sl v57)) Tryd.underlying22 rfl (O rfl) hJ)) rfl rfl rfl rfl <| WD_pure (fun _ => (Run_assign Opd.c)) rfl rfl rfl rfl <| WD_pure (fun _ => (Run_assign (O rfl))) rfl rfl rfl rfl <| WD_pure (fun _ => (Run_assign (O rfl))) rfl rfl rfl rfl <| ?_
   refine WD_nil ?_
   refine At_then ?_
   refine WC_ret ?_
   refine At_then_ret <| At_blk_ret <| At_then_ret <| At_then_ret <| At_blk_ret <| At_then_ret <| ?_
   refine At_r3 rfl (ResIs.t rfl) (ResIs.t rfl) (ResIs.t rfl) ?_
   replace hs := hs.addNil (RSl (RI .i64)) 22
   cases hm
   exact ⟨(none, 0, 0), [], v57, rfl, (hs.re 14 [0, 1] rfl)⟩
  ·
   replace hm := bif_f hc52 hm
   refine WC_skip ?_
   refine At_then <| WC_seq <| WC_region ?_
   refine Wo (Run_move (O rfl)) rfl <| Wo (Run_lenSlG Tryd.underlying37 (O rfl) (fun _ => (hs.own (i := 0) rfl).len)) rfl <| Wo (Run_move Opd.c) rfl <| ?_
   refine WL_nil <| At_then ?_
   refine WC_block ?_
   refine WC_loop (σ := (List (List Int)) × (Option (List (Str × Bool))) × Int) (γ := SLV × List Nat × Option Nat) (F := (step_Reach_L2 i30 again31 r47)) (N := FUEL) (s0 := (c25, c28, 0)) (r := r) (fun ⟨c62, c65, t67⟩ ⟨v63, R64, v66⟩ w61 => Sat (box b9 28 [(sl v1), (sl v3), (sl v5), (sl v7), (sl v9)] :: imm (RSl RS) [sl v1] m.1 :: imm (RSl (RP (RI .i64) (RI .i64))) [sl v3] m.2.1 :: imm (RSl (RI .i64)) [sl v5] m.2.2.1 :: imm (RSl RS) [sl v7] m.2.2.2.1 :: imm (RSl (RP (RI .i64) (RP RExpr (RSl (RP (RI .i64) RExpr))))) [sl v9] m.2.2.2.2 :: box b11 75 [(sl v63), (.map v66)] :: osl (RSl (RI .i64)) 22 (sl v63) c62 R64 :: omap mk73 mv73 (.map v66) c65 :: osl (RSl (RI .i64)) 22 (sl v49) r47.1 R50 :: gl 0 (pow10L.map (Value.int .u64)) :: Φ) w61) (fun ⟨c62, c65, t67⟩ ⟨v63, R64, v66⟩ => [(1, true, (.int .i64 most)), (2, true, (.pointer (some ⟨b9, 0, none⟩))), (7, true, (.pointer (some ⟨b11, 0, none⟩))), (8, true, (.int .i64 i30)), (49, true, (sl v49)), (50, true, (.int .i64 (List.length r47.1 : Int))), (51, true, (.int .i64 t67))]) hm (v26, R27, v29) (hs.re 12 [2, 3, 4, 5, 6, 7, 8, 9, 10, 0, 11] rfl) rfl ?_
   rintro again68 ⟨c62, c65, t67⟩ ⟨v63, R64, v66⟩ w61 hm hs
   unfold step_Reach_L2 at hm
   dsimp only at hm
   refine WC_seq <| WC_region ?_
   refine Wo (Run_ltI (O rfl) (O rfl)) rfl <| ?_
   refine WL_nil <| At_then <| WC_seq ?_
   refine WC_cond (O rfl) (fun hc69 => ?_) (fun hc69 => ?_)
   ·
    replace hm := bif_t hc69 hm
    refine WC_skip ?_
    refine At_then <| WC_seq ?_
    refine WC_block ?_
    refine WC_seq <| WC_region ?_
    obtain ⟨e70, he71, hm⟩ := bind_some' hm
    obtain ⟨v72, hC73, hN74, hR75⟩ := cellsMO22 (g := true) (fun hg => (hs.own (i := 9) rfl)) (fun hg => he71)
    replace hs := hs.addL [imm (RSl (RI .i64)) [sl v72] e70] rfl ⟨⟨_, rfl, hR75 rfl⟩, trivial⟩
    replace hs := Sat.n12 (Γ := Φ) hs rfl
    refine Wo (Run_idxAddr (p := (elA (sl v49) t67 1)) Tryd.underlying37 ti22 (O rfl) (O rfl) (fun hg => (Own.atA (A := (RSl (RI .i64))) (v := (sl v49)) (hs.own (i := 10) rfl) he71).1)) rfl <| Wo (Run_load1 (v := (sl v72)) Tryd.underlying22 rfl (O rfl) (fun hg => (hC73 hg).sub 0 rfl)) rfl <| Wo (Run_assign (O rfl)) rfl <| ?_
    refine WL_nil <| At_then <| WC_region ?_
    refine Wo (Run_move (O rfl)) rfl <| ?_
    obtain ⟨r76, hr77, hm⟩ := bind_some' hm
    refine WL_call (f := 31) (first := []) (cap := []) (xs := [(.tmp 7), (.tmp 55)]) (vs := [(.pointer (some ⟨b11, 0, none⟩)), (sl v72)]) (args := [(.pointer (some ⟨b11, 0, none⟩)), (sl v72)]) Tryd.call31 Opd.f (.cons (O rfl) (.cons (O rfl) .nil)) rfl rfl (step_seen_add_ok (hs.re 12 [7, 0, 8, 9, 11, 0, 1, 2, 3, 4, 5, 6, 10, 11] rfl) hr77) ?_
    rintro _ w81 ⟨v78, R79, v80, rfl, hs⟩
    replace hs := Sat.n12 (Γ := Φ) hs rfl
    refine WL_nil ?_
    refine At_blk_normal ?_
    refine At_then <| WC_region ?_
    refine Wo (Run_add (O rfl) Opd.c) rfl <| Wo (Run_move (O rfl)) rfl <| ?_
    refine WL_nil ?_
    exact At_again (r76.1, r76.2, (IntKind.i64.wrap (t67 + 1))) (v78, R79, v80) hm (hs.re 12 [4, 5, 6, 7, 8, 9, 0, 1, 2, 10, 11] rfl) rfl
   ·
    replace hm := bif_f hc69 hm
    refine WC_exit ?_
    refine At_then_exit <| At_then_exit <| At_blk_here <| ?_
    refine At_blk_normal ?_
    refine At_then <| WC_region ?_
    refine Wo (Run_move (O rfl)) rfl <| Wo (Run_add (O rfl) Opd.c) rfl <| Wo (Run_assign (O rfl)) rfl <| ?_
    refine WL_nil ?_
    exact At_again (c62, c65, (IntKind.i64.wrap (i30 + 1))) (v63, R64, v66) hm (hs.re 11 [0, 1, 2, 3, 4, 5, 6, 7, 8, 10] rfl) rfl
 ·
  replace hm := bif_f hc38 hm
  refine WC_exit ?_
  refine At_then_exit <| At_then_exit <| At_blk_here <| ?_
  refine At_then <| WC_seq <| WC_seq <| WC_region ?_
  refine Wo (Run_fieldAddr fo75_0 (O rfl)) rfl <| Wo (Run_load1 (v := (sl v26)) Tryd.underlying37 rfl (O rfl) (fun _ => (hs.box (i := 6) rfl).part 0 rfl)) rfl <| Wo (Run_lenSlG Tryd.underlying37 (O rfl) (fun _ => (hs.own (i := 7) rfl).len)) rfl <| Wo (Run_move (O rfl)) rfl <| Wo (Run_gtI (O rfl) (O rfl)) rfl <| ?_
  refine WL_nil <| At_then ?_
  refine WC_cond (O rfl) (fun hc82 => ?_) (fun hc82 => ?_)
  ·
   replace hm := bif_t hc82 hm
   refine WC_seq <| WC_region ?_
   refine Wo (Run_assign Opd.c) rfl <| Wo (Run_assign Opd.c) rfl <| Wo (Run_assign Opd.c) rfl <| ?_
   refine WL_nil <| At_then ?_
   refine WC_ret ?_
   refine At_then_ret <| ?_
   refine At_r3 rfl (ResIs.t rfl) (ResIs.t rfl) (ResIs.t rfl) ?_
   replace hs := hs.addNil (RSl (RI .i64)) 22
   replace hs := hs.addNilI (RI .i64)
   cases hm
   exact ⟨(none, 0, 0), [], (none, 0, 0), rfl, (hs.re 12 [1, 0] rfl)⟩
  ·
   replace hm := bif_f hc82 hm
   refine WC_skip ?_
   refine At_then <| WC_seq <| WC_region ?_
   refine Wo (Run_fieldAddr fo75_0 (O rfl)) rfl <| Wo (Run_load1 (v := (sl v26)) Tryd.underlying37 rfl (O rfl) (fun _ => (hs.box (i := 6) rfl).part 0 rfl)) rfl <| Wo (Run_assign (O rfl)) rfl <| Wo (Run_assign Opd.c) rfl <| Wo (Run_assign Opd.c) rfl <| ?_
   refine WL_nil <| At_then ?_
   refine WC_ret ?_
   refine At_r3 rfl (ResIs.t rfl) (ResIs.t rfl) (ResIs.t rfl) ?_
   replace hs := hs.addNilI (RI .i64)
   cases hm
   exact ⟨v26, R27, (none, 0, 0), rfl, (hs.re 11 [8, 0] rfl)⟩
set_option maxRecDepth 100000 in
set_option maxHeartbeats 4000000 in
theorem scrutinyref02_Vec_ok {Φ : Ctx} {w : World} {a : (List Int)} {b : (List Int)} {v1 : SLV} {v3 : SLV} {r : Bool} (hs : Sat (imm (RSl (RI .i64)) [sl v1] a :: imm (RSl (RI .i64)) [sl v3] b :: Φ) w) (hm : scrutinyref02_Vec a b = some r) :
  CallsR Tryd.prog 16 [(sl v1), (sl v3)] w (fun v w' => v = (.bool r) ∧ Sat (Φ) w') := by
 refine CallsX_enter Tryd.func16 rfl Tryd.ntmps16 rfl ?_
 unfold scrutinyref02_Vec at hm
 refine WC_seq <| WC_region ?_
 refine Wo (Run_assign Opd.c) rfl <| ?_
 refine WL_nil <| At_then <| WC_seq <| WC_seq <| WC_region ?_
 refine Wo (Run_move (O rfl)) rfl <| Wo (Run_lenSlG Tryd.underlying22 (O rfl) (fun hg => (hs.sl (i := 0) rfl).len)) rfl <| Wo (Run_move (O rfl)) rfl <| Wo (Run_lenSlG Tryd.underlying22 (O rfl) (fun hg => (hs.sl (i := 1) rfl).len)) rfl <| Wo (Run_neI (O rfl) (O rfl)) rfl <| ?_
 refine WL_nil <| At_then ?_
 refine WC_cond (O rfl) (fun hc3 => ?_) (fun hc3 => ?_)
 ·
  replace hm := bif_t hc3 hm
  refine WC_seq <| WC_region ?_
  refine Wo (Run_assign Opd.c) rfl <| ?_
  refine WL_nil <| At_then ?_
  refine WC_ret ?_
  refine At_then_ret <| ?_
  refine At_r1 rfl (ResIs.t rfl) ?_
  cases hm
  exact ⟨rfl, (hs.re 2 [] rfl)⟩
 ·
  replace hm := bif_f hc3 hm
  refine WC_skip ?_
  refine At_then <| WC_seq <| WC_seq <| WC_region ?_
  refine Wo (Run_assign Opd.c) rfl <| ?_
  refine WL_nil <| At_then ?_
  refine WC_block ?_
  refine WC_loop (σ := Int) (γ := Unit) (F := (scrutinyref02_Vec_L1 a b)) (N := FUEL) (s0 := 0) (r := r) (fun i5 (_ : Unit) w4 => Sat (imm (RSl (RI .i64)) [sl v1] a :: imm (RSl (RI .i64)) [sl v3] b :: Φ) w4) (fun i5 (_ : Unit) => [(0, true, (sl v1)), (1, true, (sl v3)), (5, true, (.int .i64 i5))]) hm () (hs.re 2 [0, 1] rfl) rfl ?_
  rintro again6 i5 _ w4 hm hs
  unfold scrutinyref02_Vec_L1 at hm
  refine WC_seq <| WC_seq <| WC_region ?_
  refine Wo (Run_move (O rfl)) rfl <| Wo (Run_move (O rfl)) rfl <| Wo (Run_lenSlG Tryd.underlying22 (O rfl) (fun hg => (hs.sl (i := 0) rfl).len)) rfl <| Wo (Run_ltI (O rfl) (O rfl)) rfl <| ?_
  refine WL_nil <| At_then ?_
  refine WC_cond (O rfl) (fun hc7 => ?_) (fun hc7 => ?_)
  ·
   replace hm := bif_t hc7 hm
   refine WC_skip ?_
   refine At_then <| WC_seq ?_
   refine WC_block ?_
   refine WC_seq ?_
   refine WC_region_mixed [0, 0, 3, 4, 0, 0, 48, 64, 136] (.q 0 0 (.q 1 1 (.q 2 3 (.q 3 7 (.q 4 15 (.q 5 31 (.q 6 63 (.q 7 127 (.q 8 255 .nil))))))))) (by kernel_rfl) (by kernel_rfl) ?_
   intro w8 hx9
   replace hs := hs.ext hx9
   refine WD_pure (fun _ => (Run_move (O rfl))) rfl rfl rfl rfl <| WD_pure (fun _ => (Run_move (O rfl))) rfl rfl rfl rfl <| ?_
   obtain ⟨e10, he11, hm⟩ := bind_some' hm
   refine WD_pure (fun _ => (Run_idxAddr (p := (elA (sl v1) i5 1)) Tryd.underlying22 ti3 (O rfl) (O rfl) (fun hg => (SRd.atA (A := (RI .i64)) (v := (sl v1)) (hs.sl (i := 0) rfl) he11).1))) rfl rfl rfl rfl <| WD_op (fun w => true = true → CellsAt w (elA (sl v1) i5 1) [(.int .i64 e10)]) (fun hg => (SRd.cellsF (A := (RI .i64)) (v := (sl v1)) (hs.sl (i := 0) rfl) he11 (fun _ h => openT3 h)).sub 0 rfl) (fun _ hJ => (Run_load1 (v := (.int .i64 e10)) Tryd.underlying3 rfl (O rfl) hJ)) rfl rfl rfl rfl <| WD_pure (fun _ => (Run_move (O rfl))) rfl rfl rfl rfl <| WD_pure (fun _ => (Run_move (O rfl))) rfl rfl rfl rfl <| ?_
   obtain ⟨e12, he13, hm⟩ := bind_some' hm
   refine WD_pure (fun _ => (Run_idxAddr (p := (elA (sl v3) i5 1)) Tryd.underlying22 ti3 (O rfl) (O rfl) (fun hg => (SRd.atA (A := (RI .i64)) (v := (sl v3)) (hs.sl (i := 1) rfl) he13).1))) rfl rfl rfl rfl <| WD_op (fun w => true = true → CellsAt w (elA (sl v3) i5 1) [(.int .i64 e12)]) (fun hg => (SRd.cellsF (A := (RI .i64)) (v := (sl v3)) (hs.sl (i := 1) rfl) he13 (fun _ h => openT3 h)).sub 0 rfl) (fun _ hJ => (Run_load1 (v := (.int .i64 e12)) Tryd.underlying3 rfl (O rfl) hJ)) rfl rfl rfl rfl <| WD_pure (fun _ => (Run_neI (O rfl) (O rfl))) rfl rfl rfl rfl <| ?_
   refine WD_nil ?_
   refine At_then ?_
   refine WC_cond (O rfl) (fun hc14 => ?_) (fun hc14 => ?_)
   ·
    replace hm := bif_t hc14 hm
    refine WC_seq <| WC_region ?_
    refine Wo (Run_assign Opd.c) rfl <| ?_
    refine WL_nil <| At_then ?_
    refine WC_ret ?_
    refine At_blk_ret <| At_then_ret <| At_then_ret <| At_blk_ret <| At_then_ret <| ?_
    refine At_r1 rfl (ResIs.t rfl) ?_
    cases hm
    exact ⟨rfl, (hs.re 2 [] rfl)⟩
   ·
    replace hm := bif_f hc14 hm
    refine WC_skip ?_
    refine At_blk_normal ?_
    refine At_then <| WC_region ?_
    refine Wo (Run_move (O rfl)) rfl <| Wo (Run_add (O rfl) Opd.c) rfl <| Wo (Run_assign (O rfl)) rfl <| ?_
    refine WL_nil ?_
    exact At_again (IntKind.i64.wrap (i5 + 1)) () hm (hs.re 2 [0, 1] rfl) rfl
  ·
   replace hm := bif_f hc7 hm
   refine WC_exit ?_
   refine At_then_exit <| At_then_exit <| At_blk_here <| ?_
   refine At_then <| WC_seq <| WC_region ?_
   refine Wo (Run_assign Opd.c) rfl <| ?_
   refine WL_nil <| At_then ?_
   refine WC_ret ?_
   refine At_r1 rfl (ResIs.t rfl) ?_
   cases hm
   exact ⟨rfl, (hs.re 2 [] rfl)⟩
end Go.Proofs.YtjdabjpjafkogaaDoor
namespace Go.Proofs.YtjdabjpjafkogaaDoor
open Go.Proofs
set_option maxRecDepth 100000 in
set_option maxHeartbeats 4000000 in
theorem scrutinyref02_Vecs_ok {Φ : Ctx} {w : World} {a : (List (List Int))} {b : (List (List Int))} {v1 : SLV} {v3 : SLV} {r : Bool} (hs : Sat (imm (RSl (RSl (RI .i64))) [sl v1] a :: imm (RSl (RSl (RI .i64))) [sl v3] b :: Φ) w) (hm : scrutinyref02_Vecs a b = some r) :
  CallsR Tryd.prog 19 [(sl v1), (sl v3)] w (fun v w' => v = (.bool r) ∧ Sat (Φ) w') := by
 refine CallsX_enter Tryd.func19 rfl Tryd.ntmps19 rfl ?_
 unfold scrutinyref02_Vecs at hm
 refine WC_seq <| WC_region ?_
 refine Wo (Run_assign Opd.c) rfl <| ?_
 refine WL_nil <| At_then <| WC_seq <| WC_seq <| WC_region ?_
 refine Wo (Run_move (O rfl)) rfl <| Wo (Run_lenSlG Tryd.underlying37 (O rfl) (fun hg => (hs.sl (i := 0) rfl).len)) rfl <| Wo (Run_move (O rfl)) rfl <| Wo (Run_lenSlG Tryd.underlying37 (O rfl) (fun hg => (hs.sl (i := 1) rfl).len)) rfl <| Wo (Run_neI (O rfl) (O rfl)) rfl <| ?_
 refine WL_nil <| At_then ?_
 refine WC_cond (O rfl) (fun hc3 => ?_) (fun hc3 => ?_)
 ·
  replace hm := bif_t hc3 hm
  refine WC_seq <| WC_region ?_
  refine Wo (Run_assign Opd.c) rfl <| ?_
  refine WL_nil <| At_then ?_
  refine WC_ret ?_
  refine At_then_ret <| ?_
  refine At_r1 rfl (ResIs.t rfl) ?_
  cases hm
  exact ⟨rfl, (hs.re 2 [] rfl)⟩
 ·
  replace hm := bif_f hc3 hm
  refine WC_skip ?_
  refine At_then <| WC_seq <| WC_seq <| WC_region ?_
  refine Wo (Run_assign Opd.c) rfl <| ?_
  refine WL_nil <| At_then ?_
  refine WC_block ?_
  refine WC_loop (σ := Int) (γ := Unit) (F := (scrutinyref02_Vecs_L1 a b)) (N := FUEL) (s0 := 0) (r := r) (fun i5 (_ : Unit) w4 => Sat (imm (RSl (RSl (RI .i64))) [sl v1] a :: imm (RSl (RSl (RI .i64))) [sl v3] b :: Φ) w4) (fun i5 (_ : Unit) => [(0, true, (sl v1)), (1, true, (sl v3)), (5, true, (.int .i64 i5))]) hm () (hs.re 2 [0, 1] rfl) rfl ?_
  rintro again6 i5 _ w4 hm hs
  unfold scrutinyref02_Vecs_L1 at hm
  refine WC_seq <| WC_seq <| WC_region ?_
  refine Wo (Run_move (O rfl)) rfl <| Wo (Run_move (O rfl)) rfl <| Wo (Run_lenSlG Tryd.underlying37 (O rfl) (fun hg => (hs.sl (i := 0) rfl).len)) rfl <| Wo (Run_ltI (O rfl) (O rfl)) rfl <| ?_
  refine WL_nil <| At_then ?_
  refine WC_cond (O rfl) (fun hc7 => ?_) (fun hc7 => ?_)
  ·
   replace hm := bif_t hc7 hm
   refine WC_skip ?_
   refine At_then <| WC_seq ?_
   refine WC_block ?_
   refine WC_seq ?_
   refine WC_region_mixed [0, 0, 3, 4, 0, 0, 48, 64, 136, 511] (.q 0 0 (.q 1 1 (.q 2 3 (.q 3 7 (.q 4 15 (.q 5 31 (.q 6 63 (.q 7 127 (.l 8 255 (.q 9 511 .nil)))))))))) (by kernel_rfl) (by kernel_rfl) ?_
   intro w8 hx9
   replace hs := hs.ext hx9
   refine WD_pure (fun _ => (Run_move (O rfl))) rfl rfl rfl rfl <| WD_pure (fun _ => (Run_move (O rfl))) rfl rfl rfl rfl <| ?_
   obtain ⟨e10, he11, hm⟩ := bind_some' hm
   obtain ⟨v12, hC13, hN14, hR15⟩ := cellsM22 (g := true) (fun hg => (hs.sl (i := 0) rfl)) (fun hg => he11)
   replace hs := hs.addL [elem true (elA (sl v1) i5 1) [(sl v12)], imm (RSl (RI .i64)) [sl v12] e10] rfl ⟨fun hg => ⟨hN14 hg, hC13 hg⟩, ⟨_, rfl, hR15 rfl⟩, trivial⟩
   replace hs := Sat.n4 (Γ := Φ) hs rfl
   refine WD_pure (fun _ => (Run_idxAddr (p := (elA (sl v1) i5 1)) Tryd.underlying37 ti22 (O rfl) (O rfl) (fun hg => (SRd.atA (A := (RSl (RI .i64))) (v := (sl v1)) (hs.sl (i := 2) rfl) he11).1))) rfl rfl rfl rfl <| WD_op (fun w => true = true → CellsAt w (elA (sl v1) i5 1) [(sl v12)]) (fun hg => ((hs.elem (i := 0) rfl) hg).sub 0 rfl) (fun _ hJ => (Run_load1 (v := (sl v12)) Tryd.underlying22 rfl (O rfl) hJ)) rfl rfl rfl rfl <| WD_pure (fun _ => (Run_move (O rfl))) rfl rfl rfl rfl <| WD_pure (fun _ => (Run_move (O rfl))) rfl rfl rfl rfl <| ?_
   obtain ⟨e16, he17, hm⟩ := bind_some' hm
   obtain ⟨v18, hC19, hN20, hR21⟩ := cellsM22 (g := true) (fun hg => (hs.sl (i := 3) rfl)) (fun hg => he17)
   replace hs := hs.addL [elem true (elA (sl v3) i5 1) [(sl v18)], imm (RSl (RI .i64)) [sl v18] e16] rfl ⟨fun hg => ⟨hN20 hg, hC19 hg⟩, ⟨_, rfl, hR21 rfl⟩, trivial⟩
   replace hs := Sat.n6 (Γ := Φ) hs rfl
   refine WD_pure (fun _ => (Run_idxAddr (p := (elA (sl v3) i5 1)) Tryd.underlying37 ti22 (O rfl) (O rfl) (fun hg => (SRd.atA (A := (RSl (RI .i64))) (v := (sl v3)) (hs.sl (i := 5) rfl) he17).1))) rfl rfl rfl rfl <| WD_op (fun w => true = true → CellsAt w (elA (sl v3) i5 1) [(sl v18)]) (fun hg => ((hs.elem (i := 0) rfl) hg).sub 0 rfl) (fun _ hJ => (Run_load1 (v := (sl v18)) Tryd.underlying22 rfl (O rfl) hJ)) rfl rfl rfl rfl <| ?_
   refine WD_loud (pend' := []) rfl (by kernel_rfl) ?_
   obtain ⟨r22, hr23, hm⟩ := bind_some' hm
   refine WL_call (f := 16) (first := []) (cap := []) (xs := [(.tmp 21), (.tmp 25)]) (vs := [(sl v12), (sl v18)]) (args := [(sl v12), (sl v18)]) Tryd.call16 Opd.f (.cons (O rfl) (.cons (O rfl) .nil)) rfl rfl (scrutinyref02_Vec_ok (hs.re 6 [3, 1, 0, 1, 2, 3, 4, 5] rfl) hr23) ?_
   rintro _ w24 ⟨rfl, hs⟩
   replace hs := Sat.n6 (Γ := Φ) hs rfl
   refine WL_nil ?_
   refine At_QK allJ_nil ?_
   refine WD_pure (fun _ => (Run_assign (O rfl))) rfl rfl rfl rfl <| ?_
   refine WD_nil ?_
   refine At_then <| WC_seq <| WC_region ?_
   refine Wo (Run_move (O rfl)) rfl <| Wo (Run_notB (O rfl)) rfl <| ?_
   refine WL_nil <| At_then ?_
   refine WC_cond (O rfl) (fun hc25 => ?_) (fun hc25 => ?_)
   ·
    replace hm := bif_t hc25 hm
    refine WC_seq <| WC_region ?_
    refine Wo (Run_assign Opd.c) rfl <| ?_
    refine WL_nil <| At_then ?_
    refine WC_ret ?_
    refine At_blk_ret <| At_then_ret <| At_then_ret <| At_blk_ret <| At_then_ret <| ?_
    refine At_r1 rfl (ResIs.t rfl) ?_
    cases hm
    exact ⟨rfl, (hs.re 6 [] rfl)⟩
   ·
    replace hm := bif_f hc25 hm
    refine WC_skip ?_
    refine At_blk_normal ?_
    refine At_then <| WC_region ?_
    refine Wo (Run_move (O rfl)) rfl <| Wo (Run_add (O rfl) Opd.c) rfl <| Wo (Run_assign (O rfl)) rfl <| ?_
    refine WL_nil ?_
    exact At_again (IntKind.i64.wrap (i5 + 1)) () hm (hs.re 6 [4, 5] rfl) rfl
  ·
   replace hm := bif_f hc7 hm
   refine WC_exit ?_
   refine At_then_exit <| At_then_exit <| At_blk_here <| ?_
   refine At_then <| WC_seq <| WC_region ?_
   refine Wo (Run_assign Opd.c) rfl <| ?_
   refine WL_nil <| At_then ?_
   refine WC_ret ?_
   refine At_r1 rfl (ResIs.t rfl) ?_
   cases hm
   exact ⟨rfl, (hs.re 2 [] rfl)⟩
set_option maxRecDepth 100000 in
set_option maxHeartbeats 4000000 in
theorem scrutinylaw15_shown_ok {Φ : Ctx} {w : World} {r : Bool} (hs : Sat (gl 0 (pow10L.map (Value.int .u64)) :: Φ) w) (hm : scrutinylaw15_shown = some r) :
  CallsR Tryd.prog 9 [] w (fun v w' => v = (.bool r) ∧ Sat (Φ) w') := by
 refine CallsX_enter Tryd.func9 rfl Tryd.ntmps9 rfl ?_
 unfold scrutinylaw15_shown at hm
 refine WC_seq <| WC_region ?_
 refine Wo (Run_assign Opd.c) rfl <| ?_
 refine WL_nil <| At_then <| WC_seq <| WC_region ?_
 obtain ⟨r3, hr4, hm⟩ := bind_some' hm
 refine WL_call (f := 10) (first := []) (cap := []) (xs := [(.const (.string ⟨#[118, 97, 114, 32, 120, 32, 48, 32, 50, 32, 48, 59, 32, 112, 114, 111, 99, 32, 80, 32, 123, 32, 120, 32, 60, 32, 50, 32, 58, 32, 120, 32, 61, 32, 120, 32, 43, 32, 49, 59, 32, 125]⟩))]) (vs := [(S [118, 97, 114, 32, 120, 32, 48, 32, 50, 32, 48, 59, 32, 112, 114, 111, 99, 32, 80, 32, 123, 32, 120, 32, 60, 32, 50, 32, 58, 32, 120, 32, 61, 32, 120, 32, 43, 32, 49, 59, 32, 125])]) (args := [(S [118, 97, 114, 32, 120, 32, 48, 32, 50, 32, 48, 59, 32, 112, 114, 111, 99, 32, 80, 32, 123, 32, 120, 32, 60, 32, 50, 32, 58, 32, 120, 32, 61, 32, 120, 32, 43, 32, 49, 59, 32, 125])]) Tryd.call10 Opd.f (.cons Opd.c .nil) rfl rfl (scrutinyref15_Of_ok (hs.re 1 [0] rfl) hr4) ?_
 rintro _ w15 ⟨v5, R6, v7, R8, v9, R10, v11, R12, v13, R14, rfl, hs⟩
 replace hs := Sat.n6 (Γ := Φ) hs rfl
 refine Wo (Run_move (O rfl)) rfl <| Wo (Run_extract (vs := [(.agg #[(sl v5), (sl v7), (sl v9), (sl v11), (sl v13)]), (.bool r3.2)]) (O rfl) rfl) rfl <| Wo (Run_extract (vs := [(.agg #[(sl v5), (sl v7), (sl v9), (sl v11), (sl v13)]), (.bool r3.2)]) (O rfl) rfl) rfl <| ?_
 refine WS_alloc (zs := [(sl (none, 0, 0)), (sl (none, 0, 0)), (sl (none, 0, 0)), (sl (none, 0, 0)), (sl (none, 0, 0))]) hs ti28 rfl rfl ?_
 intro b16 w17 hs
 replace hs := Sat.n7 (Γ := Φ) hs rfl
 refine WS_store (us := [(sl v5), (sl v7), (sl v9), (sl v11), (sl v13)]) (vs' := [(sl v5), (sl v7), (sl v9), (sl v11), (sl v13)]) hs 0 rfl ti28 (O rfl) (O rfl) rfl rfl rfl rfl rfl ?_
 intro w18 hs
 replace hs := Sat.n7 (Γ := Φ) hs rfl
 refine Wo (Run_assign (O rfl)) rfl <| ?_
 refine WL_nil <| At_then <| WC_seq <| WC_region ?_
 refine Wo (Run_loadA (vs := [(sl v5), (sl v7), (sl v9), (sl v11), (sl v13)]) Tryd.underlying28 rfl ti28 (O rfl) (fun _ => (hs.box (i := 0) rfl).part 0 rfl) rfl) rfl <| ?_
 replace hs := hs.freeze (i := 1) rfl
 replace hs := hs.freeze (i := 2) rfl
 replace hs := hs.freeze (i := 3) rfl
 replace hs := hs.freeze (i := 4) rfl
 replace hs := hs.freeze (i := 5) rfl
 obtain ⟨r19, hr20, hm⟩ := bind_some' hm
 refine WL_call (f := 20) (first := []) (cap := []) (xs := [(.tmp 25), (.const (.int .i64 9))]) (vs := [(.agg #[(sl v5), (sl v7), (sl v9), (sl v11), (sl v13)]), (.int .i64 9)]) (args := [(.agg #[(sl v5), (sl v7), (sl v9), (sl v11), (sl v13)]), (.int .i64 9)]) Tryd.call20 Opd.f (.cons (O rfl) (.cons Opd.c .nil)) rfl rfl (step_Reach_ok (hs.re 7 [1, 2, 3, 4, 5, 6, 0, 1, 2, 3, 4, 5, 6] rfl) hr20) ?_
 rintro _ w24 ⟨v21, R22, v23, rfl, hs⟩
 replace hs := Sat.n9 (Γ := Φ) hs rfl
 refine Wo (Run_move (O rfl)) rfl <| Wo (Run_extract (vs := [(sl v21), (.int .i64 r19.2.1), (sl v23)]) (O rfl) rfl) rfl <| Wo (Run_extract (vs := [(sl v21), (.int .i64 r19.2.1), (sl v23)]) (O rfl) rfl) rfl <| Wo (Run_extract (vs := [(sl v21), (.int .i64 r19.2.1), (sl v23)]) (O rfl) rfl) rfl <| Wo (Run_assign (O rfl)) rfl <| Wo (Run_assign (O rfl)) rfl <| Wo (Run_assign (O rfl)) rfl <| ?_
 refine WL_nil <| At_then <| WC_seq <| WC_region ?_
 refine Wo (Run_loadA (vs := [(sl v5), (sl v7), (sl v9), (sl v11), (sl v13)]) Tryd.underlying28 rfl ti28 (O rfl) (fun _ => (hs.box (i := 2) rfl).part 0 rfl) rfl) rfl <| ?_
 refine WS_lit (A := (RI .i64)) (xs := [2]) (zs := [(.int .i64 0)]) (cells := [(.int .i64 2)]) (parts := [(0, (.const (.int .i64 2)))]) hs Tryd.underlying22 ti3 rfl rfl rfl (.cons Opd.c .nil) (by kernel_rfl) rfl (ARd.cons (A := (RI .i64)) (c := [(.int .i64 2)]) (x := 2) rfl ARd.nil) rfl ?_
 intro b25 w26 hs
 replace hs := Sat.n10 (Γ := Φ) hs rfl
 replace hs := hs.freeze (i := 0) rfl
 obtain ⟨r27, hr28, hm⟩ := bind_some' hm
 refine WL_call (f := 14) (first := []) (cap := []) (xs := [(.tmp 31), (.tmp 32)]) (vs := [(.agg #[(sl v5), (sl v7), (sl v9), (sl v11), (sl v13)]), (sl (some ⟨b25, 0, none⟩, 1, 1))]) (args := [(.agg #[(sl v5), (sl v7), (sl v9), (sl v11), (sl v13)]), (sl (some ⟨b25, 0, none⟩, 1, 1))]) Tryd.call14 Opd.f (.cons (O rfl) (.cons (O rfl) .nil)) rfl rfl (step_Next_ok (hs.re 10 [4, 5, 6, 7, 8, 0, 9, 0, 1, 2, 3, 4, 5, 6, 7, 8, 9] rfl) hr28) ?_
 rintro _ w31 ⟨v29, R30, rfl, hs⟩
 replace hs := Sat.n11 (Γ := Φ) hs rfl
 refine Wo (Run_move (O rfl)) rfl <| Wo (Run_extract (vs := [(sl v29), (.int .i64 r27.2)]) (O rfl) rfl) rfl <| Wo (Run_extract (vs := [(sl v29), (.int .i64 r27.2)]) (O rfl) rfl) rfl <| Wo (Run_assign (O rfl)) rfl <| Wo (Run_assign (O rfl)) rfl <| ?_
 refine WL_nil <| At_then <| WC_seq <| WC_region ?_
 refine Wo (Run_loadA (vs := [(sl v5), (sl v7), (sl v9), (sl v11), (sl v13)]) Tryd.underlying28 rfl ti28 (O rfl) (fun _ => (hs.box (i := 4) rfl).part 0 rfl) rfl) rfl <| ?_
 refine WS_lit (A := (RI .i64)) (xs := [2]) (zs := [(.int .i64 0)]) (cells := [(.int .i64 2)]) (parts := [(0, (.const (.int .i64 2)))]) hs Tryd.underlying22 ti3 rfl rfl rfl (.cons Opd.c .nil) (by kernel_rfl) rfl (ARd.cons (A := (RI .i64)) (c := [(.int .i64 2)]) (x := 2) rfl ARd.nil) rfl ?_
 intro b32 w33 hs
 replace hs := Sat.n12 (Γ := Φ) hs rfl
 replace hs := hs.freeze (i := 0) rfl
 obtain ⟨r34, hr35, hm⟩ := bind_some' hm
 refine WL_call (f := 12) (first := []) (cap := []) (xs := [(.tmp 37), (.tmp 38), (.const (.int .i64 0))]) (vs := [(.agg #[(sl v5), (sl v7), (sl v9), (sl v11), (sl v13)]), (sl (some ⟨b32, 0, none⟩, 1, 1)), (.int .i64 0)]) (args := [(.agg #[(sl v5), (sl v7), (sl v9), (sl v11), (sl v13)]), (sl (some ⟨b32, 0, none⟩, 1, 1)), (.int .i64 0)]) Tryd.call12 Opd.f (.cons (O rfl) (.cons (O rfl) (.cons Opd.c .nil))) rfl rfl (step_Fire_ok (hs.re 12 [6, 7, 8, 9, 10, 0, 0, 1, 2, 3, 4, 5, 6, 7, 8, 9, 10, 11] rfl) hr35) ?_
 rintro _ w38 ⟨v36, R37, rfl, hs⟩
 replace hs := Sat.n13 (Γ := Φ) hs rfl
 refine Wo (Run_move (O rfl)) rfl <| Wo (Run_extract (vs := [(sl v36), (.int .i64 r34.2)]) (O rfl) rfl) rfl <| Wo (Run_extract (vs := [(sl v36), (.int .i64 r34.2)]) (O rfl) rfl) rfl <| Wo (Run_assign (O rfl)) rfl <| Wo (Run_assign (O rfl)) rfl <| ?_
 refine WL_nil <| At_then <| WC_seq <| WC_region ?_
 refine Wo (Run_loadA (vs := [(sl v5), (sl v7), (sl v9), (sl v11), (sl v13)]) Tryd.underlying28 rfl ti28 (O rfl) (fun _ => (hs.box (i := 6) rfl).part 0 rfl) rfl) rfl <| ?_
 refine WS_lit (A := (RI .i64)) (xs := [2]) (zs := [(.int .i64 0)]) (cells := [(.int .i64 2)]) (parts := [(0, (.const (.int .i64 2)))]) hs Tryd.underlying22 ti3 rfl rfl rfl (.cons Opd.c .nil) (by kernel_rfl) rfl (ARd.cons (A := (RI .i64)) (c := [(.int .i64 2)]) (x := 2) rfl ARd.nil) rfl ?_
 intro b39 w40 hs
 replace hs := Sat.n14 (Γ := Φ) hs rfl
 replace hs := hs.freeze (i := 0) rfl
 obtain ⟨r41, hr42, hm⟩ := bind_some' hm
 refine WL_call (f := 12) (first := []) (cap := []) (xs := [(.tmp 43), (.tmp 44), (.const (.int .i64 1))]) (vs := [(.agg #[(sl v5), (sl v7), (sl v9), (sl v11), (sl v13)]), (sl (some ⟨b39, 0, none⟩, 1, 1)), (.int .i64 1)]) (args := [(.agg #[(sl v5), (sl v7), (sl v9), (sl v11), (sl v13)]), (sl (some ⟨b39, 0, none⟩, 1, 1)), (.int .i64 1)]) Tryd.call12 Opd.f (.cons (O rfl) (.cons (O rfl) (.cons Opd.c .nil))) rfl rfl (step_Fire_ok (hs.re 14 [8, 9, 10, 11, 12, 0, 0, 1, 2, 3, 4, 5, 6, 7, 8, 9, 10, 11, 12, 13] rfl) hr42) ?_
 rintro _ w45 ⟨v43, R44, rfl, hs⟩
 replace hs := Sat.n15 (Γ := Φ) hs rfl
 refine Wo (Run_move (O rfl)) rfl <| Wo (Run_extract (vs := [(sl v43), (.int .i64 r41.2)]) (O rfl) rfl) rfl <| Wo (Run_extract (vs := [(sl v43), (.int .i64 r41.2)]) (O rfl) rfl) rfl <| Wo (Run_assign (O rfl)) rfl <| Wo (Run_assign (O rfl)) rfl <| ?_
 refine WL_nil <| At_then <| WC_seq <| WC_region ?_
 refine Wo (Run_loadA (vs := [(sl v5), (sl v7), (sl v9), (sl v11), (sl v13)]) Tryd.underlying28 rfl ti28 (O rfl) (fun _ => (hs.box (i := 8) rfl).part 0 rfl) rfl) rfl <| ?_
 obtain ⟨r46, hr47, hm⟩ := bind_some' hm
 refine WL_call (f := 20) (first := []) (cap := []) (xs := [(.tmp 49), (.const (.int .i64 2))]) (vs := [(.agg #[(sl v5), (sl v7), (sl v9), (sl v11), (sl v13)]), (.int .i64 2)]) (args := [(.agg #[(sl v5), (sl v7), (sl v9), (sl v11), (sl v13)]), (.int .i64 2)]) Tryd.call20 Opd.f (.cons (O rfl) (.cons Opd.c .nil)) rfl rfl (step_Reach_ok (hs.re 15 [9, 10, 11, 12, 13, 14, 0, 1, 2, 3, 4, 5, 6, 7, 8, 9, 10, 11, 12, 13, 14] rfl) hr47) ?_
 rintro _ w51 ⟨v48, R49, v50, rfl, hs⟩
 replace hs := Sat.n17 (Γ := Φ) hs rfl
 refine Wo (Run_move (O rfl)) rfl <| Wo (Run_extract (vs := [(sl v48), (.int .i64 r46.2.1), (sl v50)]) (O rfl) rfl) rfl <| Wo (Run_extract (vs := [(sl v48), (.int .i64 r46.2.1), (sl v50)]) (O rfl) rfl) rfl <| Wo (Run_extract (vs := [(sl v48), (.int .i64 r46.2.1), (sl v50)]) (O rfl) rfl) rfl <| Wo (Run_assign (O rfl)) rfl <| Wo (Run_assign (O rfl)) rfl <| Wo (Run_assign (O rfl)) rfl <| ?_
 refine WL_nil <| At_then <| WC_seq <| WC_region ?_
 obtain ⟨r52, hr53, hm⟩ := bind_some' hm
 refine WL_call (f := 10) (first := []) (cap := []) (xs := [(.const (.string ⟨#[118, 97, 114, 32, 120, 32, 48, 32, 50, 32, 48, 59, 32, 112, 114, 111, 99, 32, 80, 32, 123, 32, 116, 114, 117, 101, 32, 58, 32, 120, 32, 61, 32, 120, 32, 43, 32, 49, 59, 32, 125]⟩))]) (vs := [(S [118, 97, 114, 32, 120, 32, 48, 32, 50, 32, 48, 59, 32, 112, 114, 111, 99, 32, 80, 32, 123, 32, 116, 114, 117, 101, 32, 58, 32, 120, 32, 61, 32, 120, 32, 43, 32, 49, 59, 32, 125])]) (args := [(S [118, 97, 114, 32, 120, 32, 48, 32, 50, 32, 48, 59, 32, 112, 114, 111, 99, 32, 80, 32, 123, 32, 116, 114, 117, 101, 32, 58, 32, 120, 32, 61, 32, 120, 32, 43, 32, 49, 59, 32, 125])]) Tryd.call10 Opd.f (.cons Opd.c .nil) rfl rfl (scrutinyref15_Of_ok (hs.re 17 [0, 1, 2, 3, 4, 5, 6, 7, 8, 9, 10, 11, 12, 13, 14, 15, 16] rfl) hr53) ?_
 rintro _ w64 ⟨v54, R55, v56, R57, v58, R59, v60, R61, v62, R63, rfl, hs⟩
 replace hs := Sat.n22 (Γ := Φ) hs rfl
 refine Wo (Run_move (O rfl)) rfl <| Wo (Run_extract (vs := [(.agg #[(sl v54), (sl v56), (sl v58), (sl v60), (sl v62)]), (.bool r52.2)]) (O rfl) rfl) rfl <| Wo (Run_extract (vs := [(.agg #[(sl v54), (sl v56), (sl v58), (sl v60), (sl v62)]), (.bool r52.2)]) (O rfl) rfl) rfl <| ?_
 refine WS_alloc (zs := [(sl (none, 0, 0)), (sl (none, 0, 0)), (sl (none, 0, 0)), (sl (none, 0, 0)), (sl (none, 0, 0))]) hs ti28 rfl rfl ?_
 intro b65 w66 hs
 replace hs := Sat.n23 (Γ := Φ) hs rfl
 refine WS_store (us := [(sl v54), (sl v56), (sl v58), (sl v60), (sl v62)]) (vs' := [(sl v54), (sl v56), (sl v58), (sl v60), (sl v62)]) hs 0 rfl ti28 (O rfl) (O rfl) rfl rfl rfl rfl rfl ?_
 intro w67 hs
 replace hs := Sat.n23 (Γ := Φ) hs rfl
 refine Wo (Run_assign (O rfl)) rfl <| ?_
 refine WL_nil <| At_then <| WC_seq <| WC_region ?_
 refine Wo (Run_loadA (vs := [(sl v54), (sl v56), (sl v58), (sl v60), (sl v62)]) Tryd.underlying28 rfl ti28 (O rfl) (fun _ => (hs.box (i := 0) rfl).part 0 rfl) rfl) rfl <| ?_
 replace hs := hs.freeze (i := 1) rfl
 replace hs := hs.freeze (i := 2) rfl
 replace hs := hs.freeze (i := 3) rfl
 replace hs := hs.freeze (i := 4) rfl
 replace hs := hs.freeze (i := 5) rfl
 obtain ⟨r68, hr69, hm⟩ := bind_some' hm
 refine WL_call (f := 20) (first := []) (cap := []) (xs := [(.tmp 59), (.const (.int .i64 9))]) (vs := [(.agg #[(sl v54), (sl v56), (sl v58), (sl v60), (sl v62)]), (.int .i64 9)]) (args := [(.agg #[(sl v54), (sl v56), (sl v58), (sl v60), (sl v62)]), (.int .i64 9)]) Tryd.call20 Opd.f (.cons (O rfl) (.cons Opd.c .nil)) rfl rfl (step_Reach_ok (hs.re 23 [1, 2, 3, 4, 5, 22, 0, 1, 2, 3, 4, 5, 6, 7, 8, 9, 10, 11, 12, 13, 14, 15, 16, 17, 18, 19, 20, 21, 22] rfl) hr69) ?_
 rintro _ w73 ⟨v70, R71, v72, rfl, hs⟩
 replace hs := hs.re 25 [0, 1, 14, 16, 18, 19, 20, 21, 22, 23, 24] rfl
 replace hs := Sat.n11 (Γ := Φ) hs rfl
 refine Wo (Run_move (O rfl)) rfl <| Wo (Run_extract (vs := [(sl v70), (.int .i64 r68.2.1), (sl v72)]) (O rfl) rfl) rfl <| Wo (Run_extract (vs := [(sl v70), (.int .i64 r68.2.1), (sl v72)]) (O rfl) rfl) rfl <| Wo (Run_extract (vs := [(sl v70), (.int .i64 r68.2.1), (sl v72)]) (O rfl) rfl) rfl <| Wo (Run_assign (O rfl)) rfl <| Wo (Run_assign (O rfl)) rfl <| Wo (Run_assign (O rfl)) rfl <| ?_
 refine WL_nil <| At_then <| WC_seq <| WC_region ?_
 refine Wo (Run_move (O rfl)) rfl <| Wo (Run_move (O rfl)) rfl <| WL_opG rfl rfl rfl rfl guard_pos (Run_move (O rfl)) rfl rfl rfl <| ?_
 obtain ⟨b74, e75, hm⟩ := letv_some hm
 refine Wo (Run.eqB (Run_and (O rfl) (Opd.g rfl id)) e75) rfl <| Wo (Run_move (O rfl)) rfl <| WL_opG rfl rfl rfl rfl guard_pos (Run_move (O rfl)) rfl rfl rfl <| ?_
 obtain ⟨b76, e77, hm⟩ := letv_some hm
 refine WL_opG rfl rfl rfl rfl guard_pos (Run.eqB (Run_eqI (Opd.g rfl id) Opd.c) e77) rfl rfl rfl <| ?_
 obtain ⟨b78, e79, hm⟩ := letv_some hm
 refine Wo (Run.eqB (Run_and (O rfl) (Opd.g rfl id)) e79) rfl <| Wo (Run_move (O rfl)) rfl <| WL_opG rfl rfl rfl rfl guard_pos (Run_move (O rfl)) rfl rfl rfl <| ?_
 refine WS_litG (A := (RI .i64)) (xs := [0]) (zs := [(.int .i64 0)]) (cells := [(.int .i64 0)]) (parts := [(0, (.const (.int .i64 0)))]) rfl rfl rfl guard_pos hs Tryd.underlying22 ti3 rfl rfl rfl (.cons Opd.c .nil) (by kernel_rfl) rfl (fun hg => (ARd.cons (A := (RI .i64)) (c := [(.int .i64 0)]) (x := 0) rfl ARd.nil)) rfl ?_
 intro v80 w81 hs
 refine WS_litG (A := (RI .i64)) (xs := [1]) (zs := [(.int .i64 0)]) (cells := [(.int .i64 1)]) (parts := [(0, (.const (.int .i64 1)))]) rfl rfl rfl guard_pos hs Tryd.underlying22 ti3 rfl rfl rfl (.cons Opd.c .nil) (by kernel_rfl) rfl (fun hg => (ARd.cons (A := (RI .i64)) (c := [(.int .i64 1)]) (x := 1) rfl ARd.nil)) rfl ?_
 intro v82 w83 hs
 refine WS_litG (A := (RI .i64)) (xs := [2]) (zs := [(.int .i64 0)]) (cells := [(.int .i64 2)]) (parts := [(0, (.const (.int .i64 2)))]) rfl rfl rfl guard_pos hs Tryd.underlying22 ti3 rfl rfl rfl (.cons Opd.c .nil) (by kernel_rfl) rfl (fun hg => (ARd.cons (A := (RI .i64)) (c := [(.int .i64 2)]) (x := 2) rfl ARd.nil)) rfl ?_
 intro v84 w85 hs
 refine WS_litG (A := (RSl (RI .i64))) (xs := [([0] : List Int), ([1] : List Int), ([2] : List Int)]) (zs := [(sl (none, 0, 0))]) (cells := [(sl v80), (sl v82), (sl v84)]) (parts := [(0, (.tmp 74)), (1, (.tmp 75)), (2, (.tmp 76))]) rfl rfl rfl guard_pos hs Tryd.underlying37 ti22 rfl rfl rfl (.cons (Opd.g rfl id) (.cons (Opd.g rfl id) (.cons (Opd.g rfl id) .nil))) (by kernel_rfl) rfl (fun hg => (ARd.cons (A := (RSl (RI .i64))) (c := [(sl v80)]) (x := ([0] : List Int)) ⟨_, rfl, ((hs.slG (i := 2) rfl) hg)⟩ (ARd.cons (A := (RSl (RI .i64))) (c := [(sl v82)]) (x := ([1] : List Int)) ⟨_, rfl, ((hs.slG (i := 1) rfl) hg)⟩ (ARd.cons (A := (RSl (RI .i64))) (c := [(sl v84)]) (x := ([2] : List Int)) ⟨_, rfl, ((hs.slG (i := 0) rfl) hg)⟩ ARd.nil)))) rfl ?_
 intro v86 w87 hs
 replace hs := hs.freeze (i := 7) rfl
 obtain ⟨r88, hr89, -, hm⟩ := callG_some hm
 refine WL_callG rfl rfl rfl guard_pos (f := 19) (first := []) (cap := []) (xs := [(.tmp 73), (.tmp 77)]) (vs := [(sl v21), (sl v86)]) (args := [(sl v21), (sl v86)]) Tryd.call19 Opd.f (.cons (Opd.g rfl id) (.cons (Opd.g rfl id) .nil)) rfl rfl (fun hg => scrutinyref02_Vecs_ok ((hs.dupS (i := 0) rfl hg).re 16 [8, 0, 1, 2, 3, 4, 5, 6, 7, 8, 9, 10, 11, 12, 13, 14, 15] rfl) (hr89 hg)) ?_
 intro v91 w90 hv92 hz93
 replace hs := Sat.ofG (fun hg => (hv92 hg).2.re 15 [0, 1, 2, 3, 4, 5, 6, 7, 8, 9, 10, 11, 12, 13, 14] rfl) hz93 hs
 refine WL_sub1 (v := (.bool r88)) (fun hg => (hv92 hg).1) ?_
 replace hs := Sat.n15 (Γ := Φ) hs rfl
 obtain ⟨b94, e95, hm⟩ := letv_some hm
 refine Wo (Run.eqB (Run_and (O rfl) (Opd.g rfl id)) e95) rfl <| Wo (Run_move (O rfl)) rfl <| WL_opG rfl rfl rfl rfl guard_pos (Run_move (O rfl)) rfl rfl rfl <| ?_
 obtain ⟨b96, e97, hm⟩ := letv_some hm
 refine WL_opG rfl rfl rfl rfl guard_pos (Run.eqB (Run_eqI (Opd.g rfl id) Opd.c) e97) rfl rfl rfl <| ?_
 obtain ⟨b98, e99, hm⟩ := letv_some hm
 refine Wo (Run.eqB (Run_and (O rfl) (Opd.g rfl id)) e99) rfl <| Wo (Run_move (O rfl)) rfl <| WL_opG rfl rfl rfl rfl guard_pos (Run_move (O rfl)) rfl rfl rfl <| ?_
 refine WS_litG (A := (RI .i64)) (xs := [2]) (zs := [(.int .i64 0)]) (cells := [(.int .i64 2)]) (parts := [(0, (.const (.int .i64 2)))]) rfl rfl rfl guard_pos hs Tryd.underlying22 ti3 rfl rfl rfl (.cons Opd.c .nil) (by kernel_rfl) rfl (fun hg => (ARd.cons (A := (RI .i64)) (c := [(.int .i64 2)]) (x := 2) rfl ARd.nil)) rfl ?_
 intro v100 w101 hs
 refine WS_litG (A := (RSl (RI .i64))) (xs := [([2] : List Int)]) (zs := [(sl (none, 0, 0))]) (cells := [(sl v100)]) (parts := [(0, (.tmp 86))]) rfl rfl rfl guard_pos hs Tryd.underlying37 ti22 rfl rfl rfl (.cons (Opd.g rfl id) .nil) (by kernel_rfl) rfl (fun hg => (ARd.cons (A := (RSl (RI .i64))) (c := [(sl v100)]) (x := ([2] : List Int)) ⟨_, rfl, ((hs.slG (i := 0) rfl) hg)⟩ ARd.nil)) rfl ?_
 intro v102 w103 hs
 replace hs := hs.freeze (i := 8) rfl
 obtain ⟨r104, hr105, -, hm⟩ := callG_some hm
 refine WL_callG rfl rfl rfl guard_pos (f := 19) (first := []) (cap := []) (xs := [(.tmp 85), (.tmp 87)]) (vs := [(sl v29), (sl v102)]) (args := [(sl v29), (sl v102)]) Tryd.call19 Opd.f (.cons (Opd.g rfl id) (.cons (Opd.g rfl id) .nil)) rfl rfl (fun hg => scrutinyref02_Vecs_ok ((hs.dupS (i := 0) rfl hg).re 18 [9, 0, 1, 2, 3, 4, 5, 6, 7, 8, 9, 10, 11, 12, 13, 14, 15, 16, 17] rfl) (hr105 hg)) ?_
 intro v107 w106 hv108 hz109
 replace hs := Sat.ofG (fun hg => (hv108 hg).2.re 17 [0, 1, 2, 3, 4, 5, 6, 7, 8, 9, 10, 11, 12, 13, 14, 15, 16] rfl) hz109 hs
 refine WL_sub1 (v := (.bool r104)) (fun hg => (hv108 hg).1) ?_
 replace hs := Sat.n17 (Γ := Φ) hs rfl
 obtain ⟨b110, e111, hm⟩ := letv_some hm
 refine Wo (Run.eqB (Run_and (O rfl) (Opd.g rfl id)) e111) rfl <| Wo (Run_move (O rfl)) rfl <| WL_opG rfl rfl rfl rfl guard_pos (Run_move (O rfl)) rfl rfl rfl <| ?_
 obtain ⟨b112, e113, hm⟩ := letv_some hm
 refine WL_opG rfl rfl rfl rfl guard_pos (Run.eqB (Run_eqI (Opd.g rfl id) Opd.c) e113) rfl rfl rfl <| ?_
 obtain ⟨b114, e115, hm⟩ := letv_some hm
 refine Wo (Run.eqB (Run_and (O rfl) (Opd.g rfl id)) e115) rfl <| Wo (Run_move (O rfl)) rfl <| WL_opG rfl rfl rfl rfl guard_pos (Run_move (O rfl)) rfl rfl rfl <| ?_
 obtain ⟨b116, e117, hm⟩ := letv_some hm
 refine WL_opG rfl rfl rfl rfl guard_pos (Run.eqB (Run_eqI (Opd.g rfl id) Opd.c) e117) rfl rfl rfl <| ?_
 obtain ⟨b118, e119, hm⟩ := letv_some hm
 refine Wo (Run.eqB (Run_and (O rfl) (Opd.g rfl id)) e119) rfl <| Wo (Run_move (O rfl)) rfl <| WL_opG rfl rfl rfl rfl guard_pos (Run_move (O rfl)) rfl rfl rfl <| ?_
 obtain ⟨b120, e121, hm⟩ := letv_some hm
 refine WL_opG rfl rfl rfl rfl guard_pos (Run.eqB (Run_eqI (Opd.g rfl id) Opd.c) e121) rfl rfl rfl <| ?_
 obtain ⟨b122, e123, hm⟩ := letv_some hm
 refine Wo (Run.eqB (Run_and (O rfl) (Opd.g rfl id)) e123) rfl <| Wo (Run_move (O rfl)) rfl <| WL_opG rfl rfl rfl rfl guard_pos (Run_move (O rfl)) rfl rfl rfl <| ?_
 obtain ⟨b124, e125, hm⟩ := letv_some hm
 refine WL_opG rfl rfl rfl rfl guard_pos (Run.eqB (Run_eqI (Opd.g rfl id) Opd.c) e125) rfl rfl rfl <| ?_
 obtain ⟨b126, e127, hm⟩ := letv_some hm
 refine Wo (Run.eqB (Run_and (O rfl) (Opd.g rfl id)) e127) rfl <| Wo (Run_move (O rfl)) rfl <| WL_opG rfl rfl rfl rfl guard_pos (Run_move (O rfl)) rfl rfl rfl <| ?_
 refine WS_litG (A := (RI .i64)) (xs := [2]) (zs := [(.int .i64 0)]) (cells := [(.int .i64 2)]) (parts := [(0, (.const (.int .i64 2)))]) rfl rfl rfl guard_pos hs Tryd.underlying22 ti3 rfl rfl rfl (.cons Opd.c .nil) (by kernel_rfl) rfl (fun hg => (ARd.cons (A := (RI .i64)) (c := [(.int .i64 2)]) (x := 2) rfl ARd.nil)) rfl ?_
 intro v128 w129 hs
 obtain ⟨r130, hr131, -, hm⟩ := callG_some hm
 refine WL_callG rfl rfl rfl guard_pos (f := 16) (first := []) (cap := []) (xs := [(.tmp 107), (.tmp 108)]) (vs := [(sl v72), (sl v128)]) (args := [(sl v72), (sl v128)]) Tryd.call16 Opd.f (.cons (Opd.g rfl id) (.cons (Opd.g rfl id) .nil)) rfl rfl (fun hg => scrutinyref02_Vec_ok ((hs.dupS (i := 0) rfl hg).re 19 [9, 0, 1, 2, 3, 4, 5, 6, 7, 8, 9, 10, 11, 12, 13, 14, 15, 16, 17, 18] rfl) (hr131 hg)) ?_
 intro v133 w132 hv134 hz135
 replace hs := Sat.ofG (fun hg => (hv134 hg).2.re 18 [0, 1, 2, 3, 4, 5, 6, 7, 8, 9, 10, 11, 12, 13, 14, 15, 16, 17] rfl) hz135 hs
 refine WL_sub1 (v := (.bool r130)) (fun hg => (hv134 hg).1) ?_
 replace hs := Sat.n18 (Γ := Φ) hs rfl
 obtain ⟨b136, e137, hm⟩ := letv_some hm
 refine Wo (Run.eqB (Run_and (O rfl) (Opd.g rfl id)) e137) rfl <| Wo (Run_move (O rfl)) rfl <| WL_opG rfl rfl rfl rfl guard_pos (Run_loadA (vs := [(sl v5), (sl v7), (sl v9), (sl v11), (sl v13)]) Tryd.underlying28 rfl ti28 (O rfl) (fun _ => (hs.box (i := 11) rfl).part 0 rfl) rfl) rfl rfl rfl <| ?_
 refine WS_litG (A := (RI .i64)) (xs := [1]) (zs := [(.int .i64 0)]) (cells := [(.int .i64 1)]) (parts := [(0, (.const (.int .i64 1)))]) rfl rfl rfl guard_pos hs Tryd.underlying22 ti3 rfl rfl rfl (.cons Opd.c .nil) (by kernel_rfl) rfl (fun hg => (ARd.cons (A := (RI .i64)) (c := [(.int .i64 1)]) (x := 1) rfl ARd.nil)) rfl ?_
 intro v138 w139 hs
 obtain ⟨r140, hr141, -, hm⟩ := callG_some hm
 refine WL_callG rfl rfl rfl guard_pos (f := 17) (first := []) (cap := []) (xs := [(.tmp 112), (.tmp 113)]) (vs := [(.agg #[(sl v5), (sl v7), (sl v9), (sl v11), (sl v13)]), (sl v138)]) (args := [(.agg #[(sl v5), (sl v7), (sl v9), (sl v11), (sl v13)]), (sl v138)]) Tryd.call17 Opd.f (.cons (Opd.g rfl id) (.cons (Opd.g rfl id) .nil)) rfl rfl (fun hg => step_Enabled_ok ((hs.dupS (i := 0) rfl hg).re 20 [14, 15, 16, 17, 18, 0, 1, 2, 3, 4, 5, 6, 7, 8, 9, 10, 11, 12, 13, 14, 15, 16, 17, 18, 19] rfl) (hr141 hg)) ?_
 intro v145 w144 hv146 hz147
 obtain ⟨v142, hw148, hs⟩ : ∃ v142 : SLV, (b136 = true → v145 = (sl v142)) ∧ Sat (immG b136 (RSl (RI .i64)) [sl v142] r140 :: immG b136 (RSl (RI .i64)) [sl v138] ([1] : List Int) :: immG b126 (RSl (RI .i64)) [sl v128] ([2] : List Int) :: immG b98 (RSl (RSl (RI .i64))) [sl v102] ([([2] : List Int)] : List (List Int)) :: immG b98 (RSl (RI .i64)) [sl v100] ([2] : List Int) :: immG b78 (RSl (RSl (RI .i64))) [sl v86] ([([0] : List Int), ([1] : List Int), ([2] : List Int)] : List (List Int)) :: immG b78 (RSl (RI .i64)) [sl v84] ([2] : List Int) :: immG b78 (RSl (RI .i64)) [sl v82] ([1] : List Int) :: immG b78 (RSl (RI .i64)) [sl v80] ([0] : List Int) :: osl (RSl (RI .i64)) 22 (sl v70) r68.1 R71 :: imm (RSl (RI .i64)) [sl v72] r68.2.2 :: imm (RSl (RSl (RI .i64))) [sl v29] r27.1 :: imm (RSl (RSl (RI .i64))) [sl v21] r19.1 :: box b16 28 [(sl v5), (sl v7), (sl v9), (sl v11), (sl v13)] :: imm (RSl RS) [sl v5] r3.1.1 :: imm (RSl (RP (RI .i64) (RI .i64))) [sl v7] r3.1.2.1 :: imm (RSl (RI .i64)) [sl v9] r3.1.2.2.1 :: imm (RSl RS) [sl v11] r3.1.2.2.2.1 :: imm (RSl (RP (RI .i64) (RP RExpr (RSl (RP (RI .i64) RExpr))))) [sl v13] r3.1.2.2.2.2 :: gl 0 (pow10L.map (Value.int .u64)) :: Φ) w144 := by
  cases hg : b136
  ·rw [hg] at hs; rw [hz147 hg]; exact ⟨(none, 0, 0), (fun h => by cases h), (sat_addG0 hs rfl)⟩
  ·obtain ⟨v142, R143, hq, hs⟩ := hv146 hg
   replace hs := hs.freeze (i := 0) rfl
   replace hs := hs.re 20 [0, 1, 2, 3, 4, 5, 6, 7, 8, 9, 10, 11, 12, 13, 14, 15, 16, 17, 18, 19] rfl
   replace hs := sat_gate hs (i := 0) rfl true
   rw [hg] at hs
   exact ⟨v142, (fun _ => hq), hs⟩
 refine WL_sub1 (v := (sl v142)) hw148 ?_
 refine WS_litG (A := (RI .i64)) (xs := [0]) (zs := [(.int .i64 0)]) (cells := [(.int .i64 0)]) (parts := [(0, (.const (.int .i64 0)))]) rfl rfl rfl guard_pos hs Tryd.underlying22 ti3 rfl rfl rfl (.cons Opd.c .nil) (by kernel_rfl) rfl (fun hg => (ARd.cons (A := (RI .i64)) (c := [(.int .i64 0)]) (x := 0) rfl ARd.nil)) rfl ?_
 intro v149 w150 hs
 obtain ⟨r151, hr152, -, hm⟩ := callG_some hm
 refine WL_callG rfl rfl rfl guard_pos (f := 16) (first := []) (cap := []) (xs := [(.tmp 114), (.tmp 115)]) (vs := [(sl v142), (sl v149)]) (args := [(sl v142), (sl v149)]) Tryd.call16 Opd.f (.cons (Opd.g rfl id) (.cons (Opd.g rfl id) .nil)) rfl rfl (fun hg => scrutinyref02_Vec_ok (((hs.dupS (i := 1) rfl hg).dupS (i := 1) rfl hg).re 23 [1, 0, 2, 3, 4, 5, 6, 7, 8, 9, 10, 11, 12, 13, 14, 15, 16, 17, 18, 19, 20, 21, 22] rfl) (hr152 hg)) ?_
 intro v154 w153 hv155 hz156
 replace hs := Sat.ofG (fun hg => (hv155 hg).2.re 21 [0, 1, 2, 3, 4, 5, 6, 7, 8, 9, 10, 11, 12, 13, 14, 15, 16, 17, 18, 19, 20] rfl) hz156 hs
 refine WL_sub1 (v := (.bool r151)) (fun hg => (hv155 hg).1) ?_
 replace hs := Sat.n21 (Γ := Φ) hs rfl
 obtain ⟨b157, e158, hm⟩ := letv_some hm
 refine Wo (Run.eqB (Run_and (O rfl) (Opd.g rfl id)) e158) rfl <| Wo (Run_move (O rfl)) rfl <| WL_opG rfl rfl rfl rfl guard_pos (Run_loadA (vs := [(sl v5), (sl v7), (sl v9), (sl v11), (sl v13)]) Tryd.underlying28 rfl ti28 (O rfl) (fun _ => (hs.box (i := 14) rfl).part 0 rfl) rfl) rfl rfl rfl <| ?_
 refine WS_litG (A := (RI .i64)) (xs := [2]) (zs := [(.int .i64 0)]) (cells := [(.int .i64 2)]) (parts := [(0, (.const (.int .i64 2)))]) rfl rfl rfl guard_pos hs Tryd.underlying22 ti3 rfl rfl rfl (.cons Opd.c .nil) (by kernel_rfl) rfl (fun hg => (ARd.cons (A := (RI .i64)) (c := [(.int .i64 2)]) (x := 2) rfl ARd.nil)) rfl ?_
 intro v159 w160 hs
 obtain ⟨r161, hr162, -, hm⟩ := callG_some hm
 refine WL_callG rfl rfl rfl guard_pos (f := 17) (first := []) (cap := []) (xs := [(.tmp 119), (.tmp 120)]) (vs := [(.agg #[(sl v5), (sl v7), (sl v9), (sl v11), (sl v13)]), (sl v159)]) (args := [(.agg #[(sl v5), (sl v7), (sl v9), (sl v11), (sl v13)]), (sl v159)]) Tryd.call17 Opd.f (.cons (Opd.g rfl id) (.cons (Opd.g rfl id) .nil)) rfl rfl (fun hg => step_Enabled_ok ((hs.dupS (i := 0) rfl hg).re 23 [17, 18, 19, 20, 21, 0, 1, 2, 3, 4, 5, 6, 7, 8, 9, 10, 11, 12, 13, 14, 15, 16, 17, 18, 19, 20, 21, 22] rfl) (hr162 hg)) ?_
 intro v166 w165 hv167 hz168
 obtain ⟨v163, hw169, hs⟩ : ∃ v163 : SLV, (b157 = true → v166 = (sl v163)) ∧ Sat (immG b157 (RSl (RI .i64)) [sl v163] r161 :: immG b157 (RSl (RI .i64)) [sl v159] ([2] : List Int) :: immG b136 (RSl (RI .i64)) [sl v149] ([0] : List Int) :: immG b136 (RSl (RI .i64)) [sl v142] r140 :: immG b136 (RSl (RI .i64)) [sl v138] ([1] : List Int) :: immG b126 (RSl (RI .i64)) [sl v128] ([2] : List Int) :: immG b98 (RSl (RSl (RI .i64))) [sl v102] ([([2] : List Int)] : List (List Int)) :: immG b98 (RSl (RI .i64)) [sl v100] ([2] : List Int) :: immG b78 (RSl (RSl (RI .i64))) [sl v86] ([([0] : List Int), ([1] : List Int), ([2] : List Int)] : List (List Int)) :: immG b78 (RSl (RI .i64)) [sl v84] ([2] : List Int) :: immG b78 (RSl (RI .i64)) [sl v82] ([1] : List Int) :: immG b78 (RSl (RI .i64)) [sl v80] ([0] : List Int) :: osl (RSl (RI .i64)) 22 (sl v70) r68.1 R71 :: imm (RSl (RI .i64)) [sl v72] r68.2.2 :: imm (RSl (RSl (RI .i64))) [sl v29] r27.1 :: imm (RSl (RSl (RI .i64))) [sl v21] r19.1 :: box b16 28 [(sl v5), (sl v7), (sl v9), (sl v11), (sl v13)] :: imm (RSl RS) [sl v5] r3.1.1 :: imm (RSl (RP (RI .i64) (RI .i64))) [sl v7] r3.1.2.1 :: imm (RSl (RI .i64)) [sl v9] r3.1.2.2.1 :: imm (RSl RS) [sl v11] r3.1.2.2.2.1 :: imm (RSl (RP (RI .i64) (RP RExpr (RSl (RP (RI .i64) RExpr))))) [sl v13] r3.1.2.2.2.2 :: gl 0 (pow10L.map (Value.int .u64)) :: Φ) w165 := by
  cases hg : b157
  ·rw [hg] at hs; rw [hz168 hg]; exact ⟨(none, 0, 0), (fun h => by cases h), (sat_addG0 hs rfl)⟩
  ·obtain ⟨v163, R164, hq, hs⟩ := hv167 hg
   replace hs := hs.freeze (i := 0) rfl
   replace hs := hs.re 23 [0, 1, 2, 3, 4, 5, 6, 7, 8, 9, 10, 11, 12, 13, 14, 15, 16, 17, 18, 19, 20, 21, 22] rfl
   replace hs := sat_gate hs (i := 0) rfl true
   rw [hg] at hs
   exact ⟨v163, (fun _ => hq), hs⟩
 refine WL_sub1 (v := (sl v163)) hw169 ?_
 refine WL_opG rfl rfl rfl rfl guard_pos (Run_lenSlG Tryd.underlying22 (Opd.g rfl id) (fun hg => ((hs.slG (i := 0) rfl) hg).len)) rfl rfl rfl <| ?_
 obtain ⟨b170, e171, hm⟩ := letv_some hm
 refine WL_opG rfl rfl rfl rfl guard_pos (Run.eqB (Run_eqI (Opd.g rfl id) Opd.c) e171) rfl rfl rfl <| ?_
 obtain ⟨b172, e173, hm⟩ := letv_some hm
 refine Wo (Run.eqB (Run_and (O rfl) (Opd.g rfl id)) e173) rfl <| Wo (Run_assign (O rfl)) rfl <| ?_
 refine WL_nil <| At_then ?_
 refine WC_ret ?_
 refine At_r1 rfl (ResIs.t rfl) ?_
 cases hm
 exact ⟨rfl, (hs.re 23 [] rfl)⟩
set_option maxRecDepth 100000 in
set_option maxHeartbeats 4000000 in
theorem scrutinyref02_In_ok {Φ : Ctx} {w : World} {s : (List (Int × Int))} {v3 : (List Int)} {v1 : SLV} {v4 : SLV} {r : Int} (hs : Sat (imm (RSl (RP (RI .i64) (RI .i64))) [sl v1] s :: imm (RSl (RI .i64)) [sl v4] v3 :: Φ) w) (hm : scrutinyref02_In s v3 = some r) :
  CallsR Tryd.prog 26 [(sl v1), (sl v4)] w (fun v w' => v = (.int .i64 r) ∧ Sat (Φ) w') := by
 refine CallsX_enter Tryd.func26 rfl Tryd.ntmps26 rfl ?_
 unfold scrutinyref02_In at hm
 refine WC_seq <| WC_region ?_
 refine Wo (Run_assign Opd.c) rfl <| ?_
 refine WL_nil <| At_then <| WC_seq <| WC_seq <| WC_region ?_
 refine Wo (Run_move (O rfl)) rfl <| Wo (Run_lenSlG Tryd.underlying22 (O rfl) (fun hg => (hs.sl (i := 1) rfl).len)) rfl <| Wo (Run_move (O rfl)) rfl <| Wo (Run_lenSlG Tryd.underlying25 (O rfl) (fun hg => (hs.sl (i := 0) rfl).len)) rfl <| Wo (Run_neI (O rfl) (O rfl)) rfl <| ?_
 refine WL_nil <| At_then ?_
 refine WC_cond (O rfl) (fun hc3 => ?_) (fun hc3 => ?_)
 ·
  replace hm := bif_t hc3 hm
  refine WC_seq <| WC_region ?_
  refine Wo (Run_assign Opd.c) rfl <| ?_
  refine WL_nil <| At_then ?_
  refine WC_ret ?_
  refine At_then_ret <| ?_
  refine At_r1 rfl (ResIs.t rfl) ?_
  cases hm
  exact ⟨rfl, (hs.re 2 [] rfl)⟩
 ·
  replace hm := bif_f hc3 hm
  refine WC_skip ?_
  refine At_then <| WC_seq <| WC_seq <| WC_region ?_
  refine Wo (Run_assign Opd.c) rfl <| ?_
  refine WL_nil <| At_then ?_
  refine WC_block ?_
  refine WC_loop (σ := Int) (γ := Unit) (F := (scrutinyref02_In_L1 s v3)) (N := FUEL) (s0 := 0) (r := r) (fun i5 (_ : Unit) w4 => Sat (imm (RSl (RP (RI .i64) (RI .i64))) [sl v1] s :: imm (RSl (RI .i64)) [sl v4] v3 :: Φ) w4) (fun i5 (_ : Unit) => [(0, true, (sl v1)), (1, true, (sl v4)), (5, true, (.int .i64 i5))]) hm () (hs.re 2 [0, 1] rfl) rfl ?_
  rintro again6 i5 _ w4 hm hs
  unfold scrutinyref02_In_L1 at hm
  refine WC_seq <| WC_seq <| WC_region ?_
  refine Wo (Run_move (O rfl)) rfl <| Wo (Run_move (O rfl)) rfl <| Wo (Run_lenSlG Tryd.underlying22 (O rfl) (fun hg => (hs.sl (i := 1) rfl).len)) rfl <| Wo (Run_ltI (O rfl) (O rfl)) rfl <| ?_
  refine WL_nil <| At_then ?_
  refine WC_cond (O rfl) (fun hc7 => ?_) (fun hc7 => ?_)
  ·
   replace hm := bif_t hc7 hm
   refine WC_skip ?_
   refine At_then <| WC_seq ?_
   refine WC_block ?_
   refine WC_seq ?_
   refine WC_region_mixed [0, 0, 3, 4, 0, 0, 48, 64, 128, 264, 512, 1024, 1024, 7168, 9216, 1024, 1024, 99328, 132096, 263168, 541696, 1049600] (.q 0 0 (.q 1 1 (.q 2 3 (.q 3 7 (.q 4 15 (.q 5 31 (.q 6 63 (.q 7 127 (.q 8 255 (.q 9 511 (.q 10 1023 (.q 11 2047 (.q 12 4095 (.q 13 8191 (.q 14 16383 (.q 15 32767 (.q 16 65535 (.q 17 131071 (.q 18 262143 (.q 19 524287 (.q 20 1048575 (.q 21 2097151 .nil)))))))))))))))))))))) (by kernel_rfl) (by kernel_rfl) ?_
   intro w8 hx9
   replace hs := hs.ext hx9
   refine WD_pure (fun _ => (Run_move (O rfl))) rfl rfl rfl rfl <| WD_pure (fun _ => (Run_move (O rfl))) rfl rfl rfl rfl <| ?_
   obtain ⟨e10, he11, hm⟩ := bind_some' hm
   refine WD_pure (fun _ => (Run_idxAddr (p := (elA (sl v4) i5 1)) Tryd.underlying22 ti3 (O rfl) (O rfl) (fun hg => (SRd.atA (A := (RI .i64)) (v := (sl v4)) (hs.sl (i := 1) rfl) he11).1))) rfl rfl rfl rfl <| WD_op (fun w => true = true → CellsAt w (elA (sl v4) i5 1) [(.int .i64 e10)]) (fun hg => (SRd.cellsF (A := (RI .i64)) (v := (sl v4)) (hs.sl (i := 1) rfl) he11 (fun _ h => openT3 h)).sub 0 rfl) (fun _ hJ => (Run_load1 (v := (.int .i64 e10)) Tryd.underlying3 rfl (O rfl) hJ)) rfl rfl rfl rfl <| WD_pure (fun _ => (Run_move (O rfl))) rfl rfl rfl rfl <| WD_pure (fun _ => (Run_move (O rfl))) rfl rfl rfl rfl <| ?_
   obtain ⟨e12, he13, hm⟩ := bind_some' hm
   refine WD_pure (fun _ => (Run_idxAddr (p := (elA (sl v1) i5 2)) Tryd.underlying25 ti72 (O rfl) (O rfl) (fun hg => (SRd.atA (A := (RP (RI .i64) (RI .i64))) (v := (sl v1)) (hs.sl (i := 0) rfl) he13).1))) rfl rfl rfl rfl <| WD_pure (fun _ => (Run_fieldAddr fo72_0 (O rfl))) rfl rfl rfl rfl <| WD_op (fun w => true = true → CellsAt w ((elA (sl v1) i5 2).add 0) [(.int .i64 e12.1)]) (fun hg => ((SRd.cellsF (A := (RP (RI .i64) (RI .i64))) (v := (sl v1)) (hs.sl (i := 0) rfl) he13 (fun _ h => openT72 h)).sub (us := [(.int .i64 e12.1)]) 0 rfl).sub 0 rfl) (fun _ hJ => (Run_load1 (v := (.int .i64 e12.1)) Tryd.underlying3 rfl (O rfl) hJ)) rfl rfl rfl rfl <| ?_
   obtain ⟨b14, e15, hm⟩ := letv_some hm
   refine WD_pure (fun _ => (Run.eqB (Run_ltI (O rfl) (O rfl)) e15)) rfl rfl rfl rfl <| WD_pure (fun _ => (Run_move (O rfl))) rfl rfl rfl rfl <| WD_pureG rfl rfl rfl rfl guard_neg (fun _ => (Run_move (O rfl))) rfl rfl rfl <| WD_pureG rfl rfl rfl rfl guard_neg (fun _ => (Run_move (O rfl))) rfl rfl rfl <| ?_
   obtain ⟨e16, he17, -, hm⟩ := callG_some hm
   refine WD_pureG rfl rfl rfl rfl guard_neg (fun _ => (Run_idxAddr (p := (elA (sl v4) i5 1)) Tryd.underlying22 ti3 (Opd.g rfl id) (Opd.g rfl id) (fun hg => (SRd.atA (A := (RI .i64)) (v := (sl v4)) (hs.sl (i := 1) rfl) (he17 hg)).1))) rfl rfl rfl <| WD_opG (fun w => (!b14) = true → CellsAt w (elA (sl v4) i5 1) [(.int .i64 e16)]) (fun hg => (SRd.cellsF (A := (RI .i64)) (v := (sl v4)) (hs.sl (i := 1) rfl) (he17 hg) (fun _ h => openT3 h)).sub 0 rfl) rfl rfl rfl rfl guard_neg (fun _ hJ => (Run_load1 (v := (.int .i64 e16)) Tryd.underlying3 rfl (Opd.g rfl id) hJ)) rfl rfl rfl <| WD_pureG rfl rfl rfl rfl guard_neg (fun _ => (Run_move (O rfl))) rfl rfl rfl <| WD_pureG rfl rfl rfl rfl guard_neg (fun _ => (Run_move (O rfl))) rfl rfl rfl <| ?_
   obtain ⟨e18, he19, -, hm⟩ := callG_some hm
   refine WD_pureG rfl rfl rfl rfl guard_neg (fun _ => (Run_idxAddr (p := (elA (sl v1) i5 2)) Tryd.underlying25 ti72 (Opd.g rfl id) (Opd.g rfl id) (fun hg => (SRd.atA (A := (RP (RI .i64) (RI .i64))) (v := (sl v1)) (hs.sl (i := 0) rfl) (he19 hg)).1))) rfl rfl rfl <| WD_pureG rfl rfl rfl rfl guard_neg (fun _ => (Run_fieldAddr fo72_1 (Opd.g rfl id))) rfl rfl rfl <| WD_opG (fun w => (!b14) = true → CellsAt w ((elA (sl v1) i5 2).add 1) [(.int .i64 e18.2)]) (fun hg => ((SRd.cellsF (A := (RP (RI .i64) (RI .i64))) (v := (sl v1)) (hs.sl (i := 0) rfl) (he19 hg) (fun _ h => openT72 h)).sub (us := [(.int .i64 e18.2)]) 1 rfl).sub 0 rfl) rfl rfl rfl rfl guard_neg (fun _ hJ => (Run_load1 (v := (.int .i64 e18.2)) Tryd.underlying3 rfl (Opd.g rfl id) hJ)) rfl rfl rfl <| ?_
   obtain ⟨b20, e21, hm⟩ := letv_some hm
   refine WD_pureG rfl rfl rfl rfl guard_neg (fun _ => (Run.eqB (Run_gtI (Opd.g rfl id) (Opd.g rfl id)) e21)) rfl rfl rfl <| ?_
   obtain ⟨b22, e23, hm⟩ := letv_some hm
   refine WD_pure (fun _ => (Run.eqB (Run_or (O rfl) (Opd.g rfl id)) e23)) rfl rfl rfl rfl <| ?_
   refine WD_nil ?_
   refine At_then ?_
   refine WC_cond (O rfl) (fun hc24 => ?_) (fun hc24 => ?_)
   ·
    replace hm := bif_t hc24 hm
    refine WC_seq <| WC_region ?_
    refine Wo (Run_assign Opd.c) rfl <| ?_
    refine WL_nil <| At_then ?_
    refine WC_ret ?_
    refine At_blk_ret <| At_then_ret <| At_then_ret <| At_blk_ret <| At_then_ret <| ?_
    refine At_r1 rfl (ResIs.t rfl) ?_
    cases hm
    exact ⟨rfl, (hs.re 2 [] rfl)⟩
   ·
    replace hm := bif_f hc24 hm
    refine WC_skip ?_
    refine At_blk_normal ?_
    refine At_then <| WC_region ?_
    refine Wo (Run_move (O rfl)) rfl <| Wo (Run_add (O rfl) Opd.c) rfl <| Wo (Run_assign (O rfl)) rfl <| ?_
    refine WL_nil ?_
    exact At_again (IntKind.i64.wrap (i5 + 1)) () hm (hs.re 2 [0, 1] rfl) rfl
  ·
   replace hm := bif_f hc7 hm
   refine WC_exit ?_
   refine At_then_exit <| At_then_exit <| At_blk_here <| ?_
   refine At_then <| WC_seq <| WC_region ?_
   refine Wo (Run_assign Opd.c) rfl <| ?_
   refine WL_nil <| At_then ?_
   refine WC_ret ?_
   refine At_r1 rfl (ResIs.t rfl) ?_
   cases hm
   exact ⟨rfl, (hs.re 2 [] rfl)⟩
set_option maxRecDepth 100000 in
set_option maxHeartbeats 4000000 in
theorem scrutinyref15_In_ok {Φ : Ctx} {w : World} {m : ((List Str) × (List (Int × Int)) × (List Int) × (List Str) × (List (Int × Ex × (List (Int × Ex)))))} {v11 : (List Int)} {v1 : SLV} {v3 : SLV} {v5 : SLV} {v7 : SLV} {v9 : SLV} {v12 : SLV} {r : Bool} (hs : Sat (imm (RSl RS) [sl v1] m.1 :: imm (RSl (RP (RI .i64) (RI .i64))) [sl v3] m.2.1 :: imm (RSl (RI .i64)) [sl v5] m.2.2.1 :: imm (RSl RS) [sl v7] m.2.2.2.1 :: imm (RSl (RP (RI .i64) (RP RExpr (RSl (RP (RI .i64) RExpr))))) [sl v9] m.2.2.2.2 :: imm (RSl (RI .i64)) [sl v12] v11 :: Φ) w) (hm : scrutinyref15_In m v11 = some r) :
  CallsR Tryd.prog 11 [(.agg #[(sl v1), (sl v3), (sl v5), (sl v7), (sl v9)]), (sl v12)] w (fun v w' => v = (.bool r) ∧ Sat (Φ) w') := by
 refine CallsX_enter Tryd.func11 rfl Tryd.ntmps11 rfl ?_
 unfold scrutinyref15_In at hm
 refine WC_seq <| WC_region ?_
 refine WS_box (zs := [(sl v1), (sl v3), (sl v5), (sl v7), (sl v9)]) hs (O rfl) rfl rfl ?_
 intro b3 w4 hs
 replace hs := Sat.n7 (Γ := Φ) hs rfl
 refine Wo (Run_assign Opd.c) rfl <| ?_
 refine WL_nil <| At_then <| WC_seq <| WC_region ?_
 refine Wo (Run_fieldAddr fo28_1 (O rfl)) rfl <| Wo (Run_load1 (v := (sl v3)) Tryd.underlying25 rfl (O rfl) (fun _ => (hs.box (i := 0) rfl).part 1 rfl)) rfl <| Wo (Run_move (O rfl)) rfl <| ?_
 obtain ⟨r5, hr6, hm⟩ := bind_some' hm
 refine WL_call (f := 26) (first := []) (cap := []) (xs := [(.tmp 6), (.tmp 7)]) (vs := [(sl v3), (sl v12)]) (args := [(sl v3), (sl v12)]) Tryd.call26 Opd.f (.cons (O rfl) (.cons (O rfl) .nil)) rfl rfl (scrutinyref02_In_ok (hs.re 7 [2, 6, 0, 1, 2, 3, 4, 5, 6] rfl) hr6) ?_
 rintro _ w7 ⟨rfl, hs⟩
 replace hs := Sat.n7 (Γ := Φ) hs rfl
 refine Wo (Run_eqI (O rfl) Opd.c) rfl <| Wo (Run_assign (O rfl)) rfl <| ?_
 refine WL_nil <| At_then ?_
 refine WC_ret ?_
 refine At_r1 rfl (ResIs.t rfl) ?_
 cases hm
 exact ⟨rfl, (hs.re 7 [] rfl)⟩
end Go.Proofs.YtjdabjpjafkogaaDoor
namespace Go.Proofs.YtjdabjpjafkogaaDoor
open Go.Proofs
set_option maxRecDepth 100000 in
set_option maxHeartbeats 4000000 in
theorem scrutinyref15_Place_s2_ok {Φ : Ctx} {w : World} {l : (List (List Int))} {v3 : (List Int)} {v1 : SLV} {R : List Nat} {v4 : SLV} {r : Int} (hs : Sat (osl (RSl (RI .i64)) 22 (sl v1) l R :: imm (RSl (RI .i64)) [sl v4] v3 :: Φ) w) (hm : scrutinyref15_Place_s2 l v3 = some r) :
  CallsR Tryd.prog 22 [(sl v1), (sl v4)] w (fun v w' => v = (.int .i64 r) ∧ Sat (osl (RSl (RI .i64)) 22 (sl v1) l R :: Φ) w') := by
 refine CallsX_enter Tryd.func22 rfl Tryd.ntmps22 rfl ?_
 unfold scrutinyref15_Place_s2 at hm
 refine WC_seq <| WC_region ?_
 refine Wo (Run_assign Opd.c) rfl <| ?_
 refine WL_nil <| At_then <| WC_seq <| WC_seq <| WC_region ?_
 refine Wo (Run_assign Opd.c) rfl <| ?_
 refine WL_nil <| At_then ?_
 refine WC_block ?_
 refine WC_loop (σ := Int) (γ := Unit) (F := (scrutinyref15_Place_s2_L1 l v3)) (N := FUEL) (s0 := 0) (r := r) (fun i4 (_ : Unit) w3 => Sat (osl (RSl (RI .i64)) 22 (sl v1) l R :: imm (RSl (RI .i64)) [sl v4] v3 :: Φ) w3) (fun i4 (_ : Unit) => [(0, true, (sl v1)), (1, true, (sl v4)), (5, true, (.int .i64 i4))]) hm () (hs.re 2 [0, 1] rfl) rfl ?_
 rintro again5 i4 _ w3 hm hs
 unfold scrutinyref15_Place_s2_L1 at hm
 refine WC_seq <| WC_seq <| WC_region ?_
 refine Wo (Run_move (O rfl)) rfl <| Wo (Run_move (O rfl)) rfl <| Wo (Run_lenSlG Tryd.underlying37 (O rfl) (fun _ => (hs.own (i := 0) rfl).len)) rfl <| Wo (Run_ltI (O rfl) (O rfl)) rfl <| ?_
 refine WL_nil <| At_then ?_
 refine WC_cond (O rfl) (fun hc6 => ?_) (fun hc6 => ?_)
 ·
  replace hm := bif_t hc6 hm
  refine WC_skip ?_
  refine At_then <| WC_seq ?_
  refine WC_block ?_
  refine WC_seq <| WC_region ?_
  refine Wo (Run_move (O rfl)) rfl <| Wo (Run_move (O rfl)) rfl <| ?_
  obtain ⟨e7, he8, hm⟩ := bind_some' hm
  obtain ⟨v9, hC10, hN11, hR12⟩ := cellsMO22 (g := true) (fun hg => (hs.own (i := 0) rfl)) (fun hg => he8)
  replace hs := hs.addL [imm (RSl (RI .i64)) [sl v9] e7] rfl ⟨⟨_, rfl, hR12 rfl⟩, trivial⟩
  replace hs := Sat.n3 (Γ := Φ) hs rfl
  refine Wo (Run_idxAddr (p := (elA (sl v1) i4 1)) Tryd.underlying37 ti22 (O rfl) (O rfl) (fun hg => (Own.atA (A := (RSl (RI .i64))) (v := (sl v1)) (hs.own (i := 1) rfl) he8).1)) rfl <| Wo (Run_load1 (v := (sl v9)) Tryd.underlying22 rfl (O rfl) (fun hg => (hC10 hg).sub 0 rfl)) rfl <| Wo (Run_move (O rfl)) rfl <| ?_
  obtain ⟨r13, hr14, hm⟩ := bind_some' hm
  refine WL_call (f := 16) (first := []) (cap := []) (xs := [(.tmp 16), (.tmp 17)]) (vs := [(sl v9), (sl v4)]) (args := [(sl v9), (sl v4)]) Tryd.call16 Opd.f (.cons (O rfl) (.cons (O rfl) .nil)) rfl rfl (scrutinyref02_Vec_ok (hs.re 3 [0, 2, 0, 1, 2] rfl) hr14) ?_
  rintro _ w15 ⟨rfl, hs⟩
  replace hs := Sat.n3 (Γ := Φ) hs rfl
  refine Wo (Run_assign (O rfl)) rfl <| ?_
  refine WL_nil <| At_then <| WC_seq <| WC_region ?_
  refine Wo (Run_move (O rfl)) rfl <| ?_
  refine WL_nil <| At_then ?_
  refine WC_cond (O rfl) (fun hc16 => ?_) (fun hc16 => ?_)
  ·
   replace hm := bif_t hc16 hm
   refine WC_seq <| WC_region ?_
   refine Wo (Run_move (O rfl)) rfl <| Wo (Run_assign (O rfl)) rfl <| ?_
   refine WL_nil <| At_then ?_
   refine WC_ret ?_
   refine At_blk_ret <| At_then_ret <| At_then_ret <| At_blk_ret <| At_then_ret <| ?_
   refine At_r1 rfl (ResIs.t rfl) ?_
   cases hm
   exact ⟨rfl, (hs.re 3 [1] rfl)⟩
  ·
   replace hm := bif_f hc16 hm
   refine WC_skip ?_
   refine At_blk_normal ?_
   refine At_then <| WC_region ?_
   refine Wo (Run_move (O rfl)) rfl <| Wo (Run_add (O rfl) Opd.c) rfl <| Wo (Run_assign (O rfl)) rfl <| ?_
   refine WL_nil ?_
   exact At_again (IntKind.i64.wrap (i4 + 1)) () hm (hs.re 3 [1, 2] rfl) rfl
 ·
  replace hm := bif_f hc6 hm
  refine WC_exit ?_
  refine At_then_exit <| At_then_exit <| At_blk_here <| ?_
  refine At_then <| WC_seq <| WC_region ?_
  refine Wo (Run_assign Opd.c) rfl <| ?_
  refine WL_nil <| At_then ?_
  refine WC_ret ?_
  refine At_r1 rfl (ResIs.t rfl) ?_
  cases hm
  exact ⟨rfl, (hs.re 2 [0] rfl)⟩
end Go.Proofs.YtjdabjpjafkogaaDoor
namespace Go.Proofs.YtjdabjpjafkogaaDoor
open Go.Proofs
set_option maxRecDepth 100000 in
set_option maxHeartbeats 4000000 in
theorem scrutinylaw15_StepJoins_ok {Φ : Ctx} {w : World} {text : Str} {v1 : (List Int)} {cut : Int} {v2 : SLV} {r : Bool} (hs : Sat (imm (RSl (RI .i64)) [sl v2] v1 :: gl 0 (pow10L.map (Value.int .u64)) :: Φ) w) (hm : scrutinylaw15_StepJoins text v1 cut = some r) :
  CallsR Tryd.prog 8 [(S text), (sl v2), (.int .u8 cut)] w (fun v w' => v = (.bool r) ∧ Sat (Φ) w') := by
 refine CallsX_enter Tryd.func8 rfl Tryd.ntmps8 rfl ?_
 unfold scrutinylaw15_StepJoins at hm
 refine WC_seq <| WC_region ?_
 refine Wo (Run_assign Opd.c) rfl <| ?_
 refine WL_nil <| At_then <| WC_seq <| WC_region ?_
 obtain ⟨r3, hr4, hm⟩ := bind_some' hm
 refine WL_call (f := 9) (first := []) (cap := []) (xs := []) (vs := []) (args := []) Tryd.call9 Opd.f .nil rfl rfl (scrutinylaw15_shown_ok (hs.re 2 [1, 0, 1] rfl) hr4) ?_
 rintro _ w5 ⟨rfl, hs⟩
 replace hs := Sat.n2 (Γ := Φ) hs rfl
 refine Wo (Run_assign (O rfl)) rfl <| ?_
 refine WL_nil <| At_then <| WC_seq <| WC_region ?_
 refine Wo (Run_move (O rfl)) rfl <| ?_
 obtain ⟨r6, hr7, hm⟩ := bind_some' hm
 refine WL_call (f := 10) (first := []) (cap := []) (xs := [(.tmp 27)]) (vs := [(S text)]) (args := [(S text)]) Tryd.call10 Opd.f (.cons (O rfl) .nil) rfl rfl (scrutinyref15_Of_ok (hs.re 2 [0, 1] rfl) hr7) ?_
 rintro _ w18 ⟨v8, R9, v10, R11, v12, R13, v14, R15, v16, R17, rfl, hs⟩
 replace hs := Sat.n7 (Γ := Φ) hs rfl
 refine Wo (Run_move (O rfl)) rfl <| Wo (Run_extract (vs := [(.agg #[(sl v8), (sl v10), (sl v12), (sl v14), (sl v16)]), (.bool r6.2)]) (O rfl) rfl) rfl <| Wo (Run_extract (vs := [(.agg #[(sl v8), (sl v10), (sl v12), (sl v14), (sl v16)]), (.bool r6.2)]) (O rfl) rfl) rfl <| ?_
 refine WS_alloc (zs := [(sl (none, 0, 0)), (sl (none, 0, 0)), (sl (none, 0, 0)), (sl (none, 0, 0)), (sl (none, 0, 0))]) hs ti28 rfl rfl ?_
 intro b19 w20 hs
 replace hs := Sat.n8 (Γ := Φ) hs rfl
 refine WS_store (us := [(sl v8), (sl v10), (sl v12), (sl v14), (sl v16)]) (vs' := [(sl v8), (sl v10), (sl v12), (sl v14), (sl v16)]) hs 0 rfl ti28 (O rfl) (O rfl) rfl rfl rfl rfl rfl ?_
 intro w21 hs
 replace hs := Sat.n8 (Γ := Φ) hs rfl
 refine Wo (Run_assign (O rfl)) rfl <| ?_
 refine WL_nil <| At_then <| WC_seq <| WC_seq <| WC_region ?_
 refine Wo (Run_move (O rfl)) rfl <| ?_
 obtain ⟨b22, e23, hm⟩ := letv_some hm
 refine Wo (Run.eqB (Run_notB (O rfl)) e23) rfl <| Wo (Run_move (O rfl)) rfl <| Wg rfl guard_neg (Run_loadA (vs := [(sl v8), (sl v10), (sl v12), (sl v14), (sl v16)]) Tryd.underlying28 rfl ti28 (O rfl) (fun _ => (hs.box (i := 0) rfl).part 0 rfl) rfl) rfl <| Wg rfl guard_neg (Run_move (O rfl)) rfl <| ?_
 replace hs := hs.freeze (i := 1) rfl
 replace hs := hs.freeze (i := 2) rfl
 replace hs := hs.freeze (i := 3) rfl
 replace hs := hs.freeze (i := 4) rfl
 replace hs := hs.freeze (i := 5) rfl
 obtain ⟨r24, hr25, -, hm⟩ := callG_some hm
 refine WL_callG rfl rfl rfl guard_neg (f := 11) (first := []) (cap := []) (xs := [(.tmp 34), (.tmp 35)]) (vs := [(.agg #[(sl v8), (sl v10), (sl v12), (sl v14), (sl v16)]), (sl v2)]) (args := [(.agg #[(sl v8), (sl v10), (sl v12), (sl v14), (sl v16)]), (sl v2)]) Tryd.call11 Opd.f (.cons (Opd.g rfl id) (.cons (Opd.g rfl id) .nil)) rfl rfl (fun hg => scrutinyref15_In_ok (hs.re 8 [1, 2, 3, 4, 5, 6, 0, 1, 2, 3, 4, 5, 6, 7] rfl) (hr25 hg)) ?_
 intro v27 w26 hv28 hz29
 replace hs := Sat.ofG (fun hg => (hv28 hg).2.re 8 [0, 1, 2, 3, 4, 5, 6, 7] rfl) hz29 hs
 refine WL_sub1 (v := (.bool r24)) (fun hg => (hv28 hg).1) ?_
 replace hs := Sat.n8 (Γ := Φ) hs rfl
 obtain ⟨b30, e31, hm⟩ := letv_some hm
 refine Wg rfl guard_neg (Run.eqB (Run_notB (Opd.g rfl id)) e31) rfl <| ?_
 obtain ⟨b32, e33, hm⟩ := letv_some hm
 refine Wo (Run.eqB (Run_or (O rfl) (Opd.g rfl id)) e33) rfl <| ?_
 refine WL_nil <| At_then ?_
 refine WC_cond (O rfl) (fun hc34 => ?_) (fun hc34 => ?_)
 ·
  replace hm := bif_t hc34 hm
  refine WC_seq <| WC_region ?_
  refine Wo (Run_move (O rfl)) rfl <| Wo (Run_assign (O rfl)) rfl <| ?_
  refine WL_nil <| At_then ?_
  refine WC_ret ?_
  refine At_then_ret <| ?_
  refine At_r1 rfl (ResIs.t rfl) ?_
  cases hm
  exact ⟨rfl, (hs.re 8 [] rfl)⟩
 ·
  replace hm := bif_f hc34 hm
  refine WC_skip ?_
  refine At_then <| WC_seq <| WC_region ?_
  refine Wo (Run_move (O rfl)) rfl <| Wo (Run_conv Tryd.underlying5 Tryd.underlying3 (O rfl)) rfl <| Wo (Run_fieldAddr fo28_4 (O rfl)) rfl <| Wo (Run_load1 (v := (sl v16)) Tryd.underlying26 rfl (O rfl) (fun _ => (hs.box (i := 0) rfl).part 4 rfl)) rfl <| Wo (Run_lenSlG Tryd.underlying26 (O rfl) (fun hg => (hs.sl (i := 5) rfl).len)) rfl <| Wo (Run_add (O rfl) Opd.c) rfl <| ?_
  obtain ⟨k35, hm⟩ := chk_some hm
  refine Wo (Run_rem (O rfl) (O rfl) (by simpa using k35)) rfl <| Wo (Run_assign (O rfl)) rfl <| ?_
  refine WL_nil <| At_then <| WC_seq <| WC_region ?_
  refine Wo (Run_loadA (vs := [(sl v8), (sl v10), (sl v12), (sl v14), (sl v16)]) Tryd.underlying28 rfl ti28 (O rfl) (fun _ => (hs.box (i := 0) rfl).part 0 rfl) rfl) rfl <| ?_
  refine WS_alloc (zs := [(sl (none, 0, 0)), (sl (none, 0, 0)), (sl (none, 0, 0)), (sl (none, 0, 0)), (sl (none, 0, 0))]) hs ti28 rfl rfl ?_
  intro b36 w37 hs
  replace hs := Sat.n9 (Γ := Φ) hs rfl
  refine WS_store (us := [(sl v8), (sl v10), (sl v12), (sl v14), (sl v16)]) (vs' := [(sl v8), (sl v10), (sl v12), (sl v14), (sl v16)]) hs 0 rfl ti28 (O rfl) (O rfl) rfl rfl rfl rfl rfl ?_
  intro w38 hs
  replace hs := Sat.n9 (Γ := Φ) hs rfl
  refine WL_nil <| At_then <| WC_seq <| WC_region ?_
  refine Wo (Run_fieldAddr fo28_4 (O rfl)) rfl <| Wo (Run_load1 (v := (sl v16)) Tryd.underlying26 rfl (O rfl) (fun _ => (hs.box (i := 1) rfl).part 4 rfl)) rfl <| Wo (Run_move (O rfl)) rfl <| ?_
  obtain ⟨k42, hm⟩ := chk_some hm
  obtain ⟨v40, hv39, h41⟩ := SRd.cutS (A := (RP (RI .i64) (RP RExpr (RSl (RP (RI .i64) RExpr))))) (M := Ctx.M _) (fun _ => hs.sl (i := 6) rfl) (fun _ => k42)
  refine Wo (Run_cutSl (lo := none) (hi := (some (.tmp 50))) Tryd.underlying26 ti60 (O rfl) (fun hg => (hs.sl (i := 6) rfl).len) rfl ⟨_, (O rfl)⟩ hv39) rfl <| ?_
  replace hs := hs.addS (h41 rfl)
  refine Wo (Run_fieldAddr fo28_4 (O rfl)) rfl <| ?_
  refine WS_store (us := [(sl v40)]) (vs' := [(sl v8), (sl v10), (sl v12), (sl v14), (sl v40)]) hs 1 rfl ti26 (O rfl) (O rfl) rfl rfl rfl rfl rfl ?_
  intro w43 hs
  replace hs := Sat.n10 (Γ := Φ) hs rfl
  refine WL_nil <| At_then <| WC_seq <| WC_region ?_
  refine Wo (Run_loadA (vs := [(sl v8), (sl v10), (sl v12), (sl v14), (sl v16)]) Tryd.underlying28 rfl ti28 (O rfl) (fun _ => (hs.box (i := 2) rfl).part 0 rfl) rfl) rfl <| ?_
  refine WS_alloc (zs := [(sl (none, 0, 0)), (sl (none, 0, 0)), (sl (none, 0, 0)), (sl (none, 0, 0)), (sl (none, 0, 0))]) hs ti28 rfl rfl ?_
  intro b44 w45 hs
  replace hs := Sat.n11 (Γ := Φ) hs rfl
  refine WS_store (us := [(sl v8), (sl v10), (sl v12), (sl v14), (sl v16)]) (vs' := [(sl v8), (sl v10), (sl v12), (sl v14), (sl v16)]) hs 0 rfl ti28 (O rfl) (O rfl) rfl rfl rfl rfl rfl ?_
  intro w46 hs
  replace hs := Sat.n11 (Γ := Φ) hs rfl
  refine WL_nil <| At_then <| WC_seq <| WC_region ?_
  refine Wo (Run_fieldAddr fo28_4 (O rfl)) rfl <| Wo (Run_load1 (v := (sl v16)) Tryd.underlying26 rfl (O rfl) (fun _ => (hs.box (i := 3) rfl).part 4 rfl)) rfl <| Wo (Run_move (O rfl)) rfl <| ?_
  obtain ⟨k50, hm⟩ := chk_some hm
  obtain ⟨v48, hv47, h49⟩ := SRd.cutS (A := (RP (RI .i64) (RP RExpr (RSl (RP (RI .i64) RExpr))))) (M := Ctx.M _) (fun _ => hs.sl (i := 8) rfl) (fun _ => k50)
  refine Wo (Run_cutSl (lo := (some (.tmp 56))) (hi := none) Tryd.underlying26 ti60 (O rfl) (fun hg => (hs.sl (i := 8) rfl).len) ⟨_, (O rfl)⟩ rfl hv47) rfl <| ?_
  replace hs := hs.addS (h49 rfl)
  refine Wo (Run_fieldAddr fo28_4 (O rfl)) rfl <| ?_
  refine WS_store (us := [(sl v48)]) (vs' := [(sl v8), (sl v10), (sl v12), (sl v14), (sl v48)]) hs 1 rfl ti26 (O rfl) (O rfl) rfl rfl rfl rfl rfl ?_
  intro w51 hs
  replace hs := Sat.n12 (Γ := Φ) hs rfl
  refine WL_nil <| At_then <| WC_seq <| WC_region ?_
  refine Wo (Run_loadA (vs := [(sl v8), (sl v10), (sl v12), (sl v14), (sl v40)]) Tryd.underlying28 rfl ti28 (O rfl) (fun _ => (hs.box (i := 3) rfl).part 0 rfl) rfl) rfl <| Wo (Run_move (O rfl)) rfl <| ?_
  obtain ⟨r52, hr53, hm⟩ := bind_some' hm
  refine WL_call (f := 14) (first := []) (cap := []) (xs := [(.tmp 60), (.tmp 61)]) (vs := [(.agg #[(sl v8), (sl v10), (sl v12), (sl v14), (sl v40)]), (sl v2)]) (args := [(.agg #[(sl v8), (sl v10), (sl v12), (sl v14), (sl v40)]), (sl v2)]) Tryd.call14 Opd.f (.cons (O rfl) (.cons (O rfl) .nil)) rfl rfl (step_Next_ok (m := (r6.1.1, r6.1.2.1, r6.1.2.2.1, r6.1.2.2.2.1, (cutL r6.1.2.2.2.2 0 (Int.tmod (IntKind.i64.wrap cut) (IntKind.i64.wrap ((List.length r6.1.2.2.2.2 : Int) + 1)))))) (hs.re 12 [5, 6, 7, 8, 2, 10, 11, 0, 1, 2, 3, 4, 5, 6, 7, 8, 9, 10, 11] rfl) hr53) ?_
  rintro _ w56 ⟨v54, R55, rfl, hs⟩
  replace hs := Sat.n13 (Γ := Φ) hs rfl
  refine Wo (Run_move (O rfl)) rfl <| Wo (Run_extract (vs := [(sl v54), (.int .i64 r52.2)]) (O rfl) rfl) rfl <| Wo (Run_extract (vs := [(sl v54), (.int .i64 r52.2)]) (O rfl) rfl) rfl <| Wo (Run_assign (O rfl)) rfl <| Wo (Run_assign (O rfl)) rfl <| ?_
  refine WL_nil <| At_then <| WC_seq <| WC_region ?_
  refine Wo (Run_loadA (vs := [(sl v8), (sl v10), (sl v12), (sl v14), (sl v48)]) Tryd.underlying28 rfl ti28 (O rfl) (fun _ => (hs.box (i := 2) rfl).part 0 rfl) rfl) rfl <| Wo (Run_move (O rfl)) rfl <| ?_
  obtain ⟨r57, hr58, hm⟩ := bind_some' hm
  refine WL_call (f := 14) (first := []) (cap := []) (xs := [(.tmp 66), (.tmp 67)]) (vs := [(.agg #[(sl v8), (sl v10), (sl v12), (sl v14), (sl v48)]), (sl v2)]) (args := [(.agg #[(sl v8), (sl v10), (sl v12), (sl v14), (sl v48)]), (sl v2)]) Tryd.call14 Opd.f (.cons (O rfl) (.cons (O rfl) .nil)) rfl rfl (step_Next_ok (m := (r6.1.1, r6.1.2.1, r6.1.2.2.1, r6.1.2.2.2.1, (cutL r6.1.2.2.2.2 (Int.tmod (IntKind.i64.wrap cut) (IntKind.i64.wrap ((List.length r6.1.2.2.2.2 : Int) + 1))) ((List.length r6.1.2.2.2.2) : Int)))) (hs.re 13 [6, 7, 8, 9, 1, 11, 12, 0, 1, 2, 3, 4, 5, 6, 7, 8, 9, 10, 11, 12] rfl) hr58) ?_
  rintro _ w61 ⟨v59, R60, rfl, hs⟩
  replace hs := Sat.n14 (Γ := Φ) hs rfl
  refine Wo (Run_move (O rfl)) rfl <| Wo (Run_extract (vs := [(sl v59), (.int .i64 r57.2)]) (O rfl) rfl) rfl <| Wo (Run_extract (vs := [(sl v59), (.int .i64 r57.2)]) (O rfl) rfl) rfl <| Wo (Run_assign (O rfl)) rfl <| Wo (Run_assign (O rfl)) rfl <| ?_
  refine WL_nil <| At_then <| WC_seq <| WC_region ?_
  refine Wo (Run_loadA (vs := [(sl v8), (sl v10), (sl v12), (sl v14), (sl v16)]) Tryd.underlying28 rfl ti28 (O rfl) (fun _ => (hs.box (i := 6) rfl).part 0 rfl) rfl) rfl <| Wo (Run_move (O rfl)) rfl <| ?_
  obtain ⟨r62, hr63, hm⟩ := bind_some' hm
  refine WL_call (f := 14) (first := []) (cap := []) (xs := [(.tmp 72), (.tmp 73)]) (vs := [(.agg #[(sl v8), (sl v10), (sl v12), (sl v14), (sl v16)]), (sl v2)]) (args := [(.agg #[(sl v8), (sl v10), (sl v12), (sl v14), (sl v16)]), (sl v2)]) Tryd.call14 Opd.f (.cons (O rfl) (.cons (O rfl) .nil)) rfl rfl (step_Next_ok (hs.re 14 [7, 8, 9, 10, 11, 12, 13, 0, 1, 2, 3, 4, 5, 6, 7, 8, 9, 10, 11, 12, 13] rfl) hr63) ?_
  rintro _ w66 ⟨v64, R65, rfl, hs⟩
  replace hs := Sat.n15 (Γ := Φ) hs rfl
  refine Wo (Run_move (O rfl)) rfl <| Wo (Run_extract (vs := [(sl v64), (.int .i64 r62.2)]) (O rfl) rfl) rfl <| Wo (Run_extract (vs := [(sl v64), (.int .i64 r62.2)]) (O rfl) rfl) rfl <| Wo (Run_assign (O rfl)) rfl <| Wo (Run_assign (O rfl)) rfl <| ?_
  refine WL_nil <| At_then <| WC_seq <| WC_seq <| WC_region ?_
  refine Wo (Run_move (O rfl)) rfl <| ?_
  obtain ⟨b67, e68, hm⟩ := letv_some hm
  refine Wo (Run.eqB (Run_neI (O rfl) Opd.c) e68) rfl <| Wo (Run_move (O rfl)) rfl <| Wg rfl guard_neg (Run_move (O rfl)) rfl <| ?_
  obtain ⟨b69, e70, hm⟩ := letv_some hm
  refine Wg rfl guard_neg (Run.eqB (Run_neI (Opd.g rfl id) Opd.c) e70) rfl <| ?_
  obtain ⟨b71, e72, hm⟩ := letv_some hm
  refine Wo (Run.eqB (Run_or (O rfl) (Opd.g rfl id)) e72) rfl <| ?_
  refine WL_nil <| At_then ?_
  refine WC_cond (O rfl) (fun hc73 => ?_) (fun hc73 => ?_)
  ·
   replace hm := bif_t hc73 hm
   refine WC_seq <| WC_region ?_
   refine Wo (Run_move (O rfl)) rfl <| Wo (Run_move (O rfl)) rfl <| WL_opG rfl rfl rfl rfl guard_pos (Run_move (O rfl)) rfl rfl rfl <| ?_
   obtain ⟨b74, e75, hm⟩ := letv_some hm
   refine WL_opG rfl rfl rfl rfl guard_pos (Run.eqB (Run_eqI (Opd.g rfl id) Opd.c) e75) rfl rfl rfl <| ?_
   obtain ⟨b76, e77, hm⟩ := letv_some hm
   refine Wo (Run.eqB (Run_and (O rfl) (Opd.g rfl id)) e77) rfl <| Wo (Run_assign (O rfl)) rfl <| ?_
   refine WL_nil <| At_then ?_
   refine WC_ret ?_
   refine At_then_ret <| ?_
   refine At_r1 rfl (ResIs.t rfl) ?_
   cases hm
   exact ⟨rfl, (hs.re 15 [] rfl)⟩
  ·
   replace hm := bif_f hc73 hm
   refine WC_skip ?_
   refine At_then <| WC_seq <| WC_region ?_
   refine Wo (Run_loadA (vs := [(sl v8), (sl v10), (sl v12), (sl v14), (sl v40)]) Tryd.underlying28 rfl ti28 (O rfl) (fun _ => (hs.box (i := 6) rfl).part 0 rfl) rfl) rfl <| Wo (Run_move (O rfl)) rfl <| ?_
   obtain ⟨r78, hr79, hm⟩ := bind_some' hm
   refine WL_call (f := 17) (first := []) (cap := []) (xs := [(.tmp 88), (.tmp 89)]) (vs := [(.agg #[(sl v8), (sl v10), (sl v12), (sl v14), (sl v40)]), (sl v2)]) (args := [(.agg #[(sl v8), (sl v10), (sl v12), (sl v14), (sl v40)]), (sl v2)]) Tryd.call17 Opd.f (.cons (O rfl) (.cons (O rfl) .nil)) rfl rfl (step_Enabled_ok (m := (r6.1.1, r6.1.2.1, r6.1.2.2.1, r6.1.2.2.2.1, (cutL r6.1.2.2.2.2 0 (Int.tmod (IntKind.i64.wrap cut) (IntKind.i64.wrap ((List.length r6.1.2.2.2.2 : Int) + 1)))))) (hs.re 15 [8, 9, 10, 11, 5, 13, 0, 1, 2, 3, 4, 5, 6, 7, 8, 9, 10, 11, 12, 13, 14] rfl) hr79) ?_
   rintro _ w82 ⟨v80, R81, rfl, hs⟩
   replace hs := Sat.n16 (Γ := Φ) hs rfl
   refine Wo (Run_assign (O rfl)) rfl <| ?_
   refine WL_nil <| At_then <| WC_seq <| WC_region ?_
   refine Wo (Run_loadA (vs := [(sl v8), (sl v10), (sl v12), (sl v14), (sl v48)]) Tryd.underlying28 rfl ti28 (O rfl) (fun _ => (hs.box (i := 5) rfl).part 0 rfl) rfl) rfl <| Wo (Run_move (O rfl)) rfl <| ?_
   obtain ⟨r83, hr84, hm⟩ := bind_some' hm
   refine WL_call (f := 17) (first := []) (cap := []) (xs := [(.tmp 91), (.tmp 92)]) (vs := [(.agg #[(sl v8), (sl v10), (sl v12), (sl v14), (sl v48)]), (sl v2)]) (args := [(.agg #[(sl v8), (sl v10), (sl v12), (sl v14), (sl v48)]), (sl v2)]) Tryd.call17 Opd.f (.cons (O rfl) (.cons (O rfl) .nil)) rfl rfl (step_Enabled_ok (m := (r6.1.1, r6.1.2.1, r6.1.2.2.1, r6.1.2.2.2.1, (cutL r6.1.2.2.2.2 (Int.tmod (IntKind.i64.wrap cut) (IntKind.i64.wrap ((List.length r6.1.2.2.2.2 : Int) + 1))) ((List.length r6.1.2.2.2.2) : Int)))) (hs.re 16 [9, 10, 11, 12, 4, 14, 0, 1, 2, 3, 4, 5, 6, 7, 8, 9, 10, 11, 12, 13, 14, 15] rfl) hr84) ?_
   rintro _ w87 ⟨v85, R86, rfl, hs⟩
   replace hs := Sat.n17 (Γ := Φ) hs rfl
   refine Wo (Run_assign (O rfl)) rfl <| ?_
   refine WL_nil <| At_then <| WC_seq <| WC_seq <| WC_region ?_
   refine Wo (Run_move (O rfl)) rfl <| ?_
   obtain ⟨b88, e89, hm⟩ := letv_some hm
   refine Wo (Run.eqB (Run_neI (O rfl) Opd.c) e89) rfl <| Wo (Run_move (O rfl)) rfl <| Wg rfl guard_neg (Run_loadA (vs := [(sl v8), (sl v10), (sl v12), (sl v14), (sl v16)]) Tryd.underlying28 rfl ti28 (O rfl) (fun _ => (hs.box (i := 9) rfl).part 0 rfl) rfl) rfl <| Wg rfl guard_neg (Run_move (O rfl)) rfl <| ?_
   obtain ⟨r90, hr91, -, hm⟩ := callG_some hm
   refine WL_callG rfl rfl rfl guard_neg (f := 17) (first := []) (cap := []) (xs := [(.tmp 97), (.tmp 98)]) (vs := [(.agg #[(sl v8), (sl v10), (sl v12), (sl v14), (sl v16)]), (sl v2)]) (args := [(.agg #[(sl v8), (sl v10), (sl v12), (sl v14), (sl v16)]), (sl v2)]) Tryd.call17 Opd.f (.cons (Opd.g rfl id) (.cons (Opd.g rfl id) .nil)) rfl rfl (fun hg => step_Enabled_ok (hs.re 17 [10, 11, 12, 13, 14, 15, 0, 1, 2, 3, 4, 5, 6, 7, 8, 9, 10, 11, 12, 13, 14, 15, 16] rfl) (hr91 hg)) ?_
   intro v95 w94 hv96 hz97
   obtain ⟨v92, hw98, hs⟩ : ∃ v92 : SLV, ((!b88) = true → v95 = (sl v92)) ∧ Sat (immG (!b88) (RSl (RI .i64)) [sl v92] r90 :: osl (RI .i64) 3 (sl v85) r83 R86 :: osl (RI .i64) 3 (sl v80) r78 R81 :: osl (RSl (RI .i64)) 22 (sl v64) r62.1 R65 :: osl (RSl (RI .i64)) 22 (sl v59) r57.1 R60 :: osl (RSl (RI .i64)) 22 (sl v54) r52.1 R55 :: imm (RSl (RP (RI .i64) (RP RExpr (RSl (RP (RI .i64) RExpr))))) [sl v48] (cutL r6.1.2.2.2.2 (Int.tmod (IntKind.i64.wrap cut) (IntKind.i64.wrap ((List.length r6.1.2.2.2.2 : Int) + 1))) ((List.length r6.1.2.2.2.2) : Int)) :: box b44 28 [(sl v8), (sl v10), (sl v12), (sl v14), (sl v48)] :: imm (RSl (RP (RI .i64) (RP RExpr (RSl (RP (RI .i64) RExpr))))) [sl v40] (cutL r6.1.2.2.2.2 0 (Int.tmod (IntKind.i64.wrap cut) (IntKind.i64.wrap ((List.length r6.1.2.2.2.2 : Int) + 1)))) :: box b36 28 [(sl v8), (sl v10), (sl v12), (sl v14), (sl v40)] :: box b19 28 [(sl v8), (sl v10), (sl v12), (sl v14), (sl v16)] :: imm (RSl RS) [sl v8] r6.1.1 :: imm (RSl (RP (RI .i64) (RI .i64))) [sl v10] r6.1.2.1 :: imm (RSl (RI .i64)) [sl v12] r6.1.2.2.1 :: imm (RSl RS) [sl v14] r6.1.2.2.2.1 :: imm (RSl (RP (RI .i64) (RP RExpr (RSl (RP (RI .i64) RExpr))))) [sl v16] r6.1.2.2.2.2 :: imm (RSl (RI .i64)) [sl v2] v1 :: gl 0 (pow10L.map (Value.int .u64)) :: Φ) w94 := by
    cases hg : (!b88)
    ·rw [hz97 hg]; exact ⟨(none, 0, 0), (fun h => by cases h), (sat_addG0 hs rfl)⟩
    ·obtain ⟨v92, R93, hq, hs⟩ := hv96 hg
     replace hs := hs.freeze (i := 0) rfl
     replace hs := hs.re 18 [0, 1, 2, 3, 4, 5, 6, 7, 8, 9, 10, 11, 12, 13, 14, 15, 16, 17] rfl
     replace hs := sat_gate hs (i := 0) rfl true
     exact ⟨v92, (fun _ => hq), hs⟩
   refine WL_sub1 (v := (sl v92)) hw98 ?_
   refine Wg rfl guard_neg (Run_lenSlG Tryd.underlying22 (Opd.g rfl id) (fun hg => ((hs.slG (i := 0) rfl) hg).len)) rfl <| Wg rfl guard_neg (Run_move (O rfl)) rfl <| Wg rfl guard_neg (Run_lenSlG Tryd.underlying22 (Opd.g rfl id) (fun _ => (hs.own (i := 2) rfl).len)) rfl <| Wg rfl guard_neg (Run_move (O rfl)) rfl <| Wg rfl guard_neg (Run_lenSlG Tryd.underlying22 (Opd.g rfl id) (fun _ => (hs.own (i := 1) rfl).len)) rfl <| Wg rfl guard_neg (Run_add (Opd.g rfl id) (Opd.g rfl id)) rfl <| ?_
   obtain ⟨b99, e100, hm⟩ := letv_some hm
   refine Wg rfl guard_neg (Run.eqB (Run_neI (Opd.g rfl id) (Opd.g rfl id)) e100) rfl <| ?_
   obtain ⟨b101, e102, hm⟩ := letv_some hm
   refine Wo (Run.eqB (Run_or (O rfl) (Opd.g rfl id)) e102) rfl <| ?_
   refine WL_nil <| At_then ?_
   refine WC_cond (O rfl) (fun hc103 => ?_) (fun hc103 => ?_)
   ·
    replace hm := bif_t hc103 hm
    refine WC_seq <| WC_region ?_
    refine Wo (Run_assign Opd.c) rfl <| ?_
    refine WL_nil <| At_then ?_
    refine WC_ret ?_
    refine At_then_ret <| ?_
    refine At_r1 rfl (ResIs.t rfl) ?_
    cases hm
    exact ⟨rfl, (hs.re 18 [] rfl)⟩
   ·
    replace hm := bif_f hc103 hm
    refine WC_skip ?_
    refine At_then <| WC_seq <| WC_region ?_
    refine Wo (Run_assign Opd.c) rfl <| ?_
    refine WL_nil <| At_then <| WC_seq <| WC_seq <| WC_region ?_
    refine Wo (Run_assign Opd.c) rfl <| ?_
    refine WL_nil <| At_then ?_
    refine WC_block ?_
    refine WC_loop (σ := Int × Int) (γ := Unit) (F := (scrutinylaw15_StepJoins_L1 r3 r52 r57 r62 r78 r83)) (N := FUEL) (s0 := (0, 0)) (r := r) (fun ⟨n105, i106⟩ (_ : Unit) w104 => Sat (osl (RSl (RI .i64)) 22 (sl v54) r52.1 R55 :: osl (RSl (RI .i64)) 22 (sl v59) r57.1 R60 :: osl (RSl (RI .i64)) 22 (sl v64) r62.1 R65 :: osl (RI .i64) 3 (sl v80) r78 R81 :: osl (RI .i64) 3 (sl v85) r83 R86 :: gl 0 (pow10L.map (Value.int .u64)) :: Φ) w104) (fun ⟨n105, i106⟩ (_ : Unit) => [(7, true, (.bool r3)), (13, true, (sl v54)), (15, true, (sl v59)), (17, true, (sl v64)), (19, true, (sl v80)), (20, true, (sl v85)), (21, true, (.int .i64 n105)), (22, true, (.int .i64 i106))]) hm () (hs.re 18 [5, 4, 3, 2, 1, 17] rfl) rfl ?_
    rintro again107 ⟨n105, i106⟩ _ w104 hm hs
    unfold scrutinylaw15_StepJoins_L1 at hm
    dsimp only at hm
    refine WC_seq <| WC_seq <| WC_region ?_
    refine Wo (Run_move (O rfl)) rfl <| Wo (Run_move (O rfl)) rfl <| Wo (Run_lenSlG Tryd.underlying37 (O rfl) (fun _ => (hs.own (i := 2) rfl).len)) rfl <| Wo (Run_ltI (O rfl) (O rfl)) rfl <| ?_
    refine WL_nil <| At_then ?_
    refine WC_cond (O rfl) (fun hc108 => ?_) (fun hc108 => ?_)
    ·
     replace hm := bif_t hc108 hm
     refine WC_skip ?_
     refine At_then <| WC_seq ?_
     refine WC_block ?_
     refine WC_seq <| WC_region ?_
     refine Wo (Run_move (O rfl)) rfl <| Wo (Run_lenSlG Tryd.underlying22 (O rfl) (fun _ => (hs.own (i := 3) rfl).len)) rfl <| ?_
     obtain ⟨b109, e110, hm⟩ := letv_some hm
     refine Wo (Run.eqB (Run_gtI (O rfl) Opd.c) e110) rfl <| Wo (Run_move (O rfl)) rfl <| WL_opG rfl rfl rfl rfl guard_pos (Run_move (O rfl)) rfl rfl rfl <| WL_opG rfl rfl rfl rfl guard_pos (Run_move (O rfl)) rfl rfl rfl <| WL_opG rfl rfl rfl rfl guard_pos (Run_move (O rfl)) rfl rfl rfl <| ?_
     obtain ⟨e111, he112, -, hm⟩ := callG_some hm
     obtain ⟨v113, hC114, hN115, hR116⟩ := cellsMO22 (g := b109) (fun hg => (hs.own (i := 2) rfl)) (fun hg => (he112 hg))
     replace hs := hs.addL [immG b109 (RSl (RI .i64)) [sl v113] e111] rfl ⟨fun hg => ⟨_, rfl, hR116 hg⟩, trivial⟩
     replace hs := Sat.n7 (Γ := Φ) hs rfl
     refine WL_opG rfl rfl rfl rfl guard_pos (Run_idxAddr (p := (elA (sl v64) i106 1)) Tryd.underlying37 ti22 (Opd.g rfl id) (Opd.g rfl id) (fun hg => (Own.atA (A := (RSl (RI .i64))) (v := (sl v64)) (hs.own (i := 3) rfl) (he112 hg)).1)) rfl rfl rfl <| WL_opG rfl rfl rfl rfl guard_pos (Run_load1 (v := (sl v113)) Tryd.underlying22 rfl (Opd.g rfl id) (fun hg => (hC114 hg).sub 0 rfl)) rfl rfl rfl <| ?_
     obtain ⟨r117, hr118, -, hm⟩ := callG_some hm
     refine WL_callG rfl rfl rfl guard_pos (f := 22) (first := []) (cap := []) (xs := [(.tmp 118), (.tmp 122)]) (vs := [(sl v54), (sl v113)]) (args := [(sl v54), (sl v113)]) Tryd.call22 Opd.f (.cons (Opd.g rfl id) (.cons (Opd.g rfl id) .nil)) rfl rfl (fun hg => scrutinyref15_Place_s2_ok ((hs.dupS (i := 0) rfl hg).re 8 [2, 0, 1, 3, 4, 5, 6, 7] rfl) (hr118 hg)) ?_
     intro v120 w119 hv121 hz122
     replace hs := Sat.ofG (fun hg => (hv121 hg).2.re 7 [1, 0, 2, 3, 4, 5, 6] rfl) hz122 hs
     refine WL_sub1 (v := (.int .i64 r117)) (fun hg => (hv121 hg).1) ?_
     replace hs := Sat.n7 (Γ := Φ) hs rfl
     obtain ⟨b123, e124, hm⟩ := letv_some hm
     refine WL_opG rfl rfl rfl rfl guard_pos (Run.eqB (Run_geI (Opd.g rfl id) Opd.c) e124) rfl rfl rfl <| ?_
     obtain ⟨b125, e126, hm⟩ := letv_some hm
     refine Wo (Run.eqB (Run_and (O rfl) (Opd.g rfl id)) e126) rfl <| Wo (Run_assign (O rfl)) rfl <| ?_
     refine WL_nil <| At_then <| WC_seq <| WC_region ?_
     refine Wo (Run_move (O rfl)) rfl <| Wo (Run_lenSlG Tryd.underlying22 (O rfl) (fun _ => (hs.own (i := 5) rfl).len)) rfl <| ?_
     obtain ⟨b127, e128, hm⟩ := letv_some hm
     refine Wo (Run.eqB (Run_gtI (O rfl) Opd.c) e128) rfl <| Wo (Run_move (O rfl)) rfl <| WL_opG rfl rfl rfl rfl guard_pos (Run_move (O rfl)) rfl rfl rfl <| WL_opG rfl rfl rfl rfl guard_pos (Run_move (O rfl)) rfl rfl rfl <| WL_opG rfl rfl rfl rfl guard_pos (Run_move (O rfl)) rfl rfl rfl <| ?_
     obtain ⟨e129, he130, -, hm⟩ := callG_some hm
     obtain ⟨v131, hC132, hN133, hR134⟩ := cellsMO22 (g := b127) (fun hg => (hs.own (i := 3) rfl)) (fun hg => (he130 hg))
     replace hs := hs.addL [immG b127 (RSl (RI .i64)) [sl v131] e129] rfl ⟨fun hg => ⟨_, rfl, hR134 hg⟩, trivial⟩
     replace hs := Sat.n8 (Γ := Φ) hs rfl
     refine WL_opG rfl rfl rfl rfl guard_pos (Run_idxAddr (p := (elA (sl v64) i106 1)) Tryd.underlying37 ti22 (Opd.g rfl id) (Opd.g rfl id) (fun hg => (Own.atA (A := (RSl (RI .i64))) (v := (sl v64)) (hs.own (i := 4) rfl) (he130 hg)).1)) rfl rfl rfl <| WL_opG rfl rfl rfl rfl guard_pos (Run_load1 (v := (sl v131)) Tryd.underlying22 rfl (Opd.g rfl id) (fun hg => (hC132 hg).sub 0 rfl)) rfl rfl rfl <| ?_
     obtain ⟨r135, hr136, -, hm⟩ := callG_some hm
     refine WL_callG rfl rfl rfl guard_pos (f := 22) (first := []) (cap := []) (xs := [(.tmp 130), (.tmp 134)]) (vs := [(sl v59), (sl v131)]) (args := [(sl v59), (sl v131)]) Tryd.call22 Opd.f (.cons (Opd.g rfl id) (.cons (Opd.g rfl id) .nil)) rfl rfl (fun hg => scrutinyref15_Place_s2_ok ((hs.dupS (i := 0) rfl hg).re 9 [4, 0, 1, 2, 3, 5, 6, 7, 8] rfl) (hr136 hg)) ?_
     intro v138 w137 hv139 hz140
     replace hs := Sat.ofG (fun hg => (hv139 hg).2.re 8 [1, 2, 3, 0, 4, 5, 6, 7] rfl) hz140 hs
     refine WL_sub1 (v := (.int .i64 r135)) (fun hg => (hv139 hg).1) ?_
     replace hs := Sat.n8 (Γ := Φ) hs rfl
     obtain ⟨b141, e142, hm⟩ := letv_some hm
     refine WL_opG rfl rfl rfl rfl guard_pos (Run.eqB (Run_geI (Opd.g rfl id) Opd.c) e142) rfl rfl rfl <| ?_
     obtain ⟨b143, e144, hm⟩ := letv_some hm
     refine Wo (Run.eqB (Run_and (O rfl) (Opd.g rfl id)) e144) rfl <| Wo (Run_assign (O rfl)) rfl <| ?_
     refine WL_nil <| At_then <| WC_seq <| WC_seq <| WC_region ?_
     refine Wo (Run_move (O rfl)) rfl <| Wo (Run_lenSlG Tryd.underlying22 (O rfl) (fun _ => (hs.own (i := 5) rfl).len)) rfl <| Wo (Run_move (O rfl)) rfl <| Wo (Run_lenSlG Tryd.underlying22 (O rfl) (fun _ => (hs.own (i := 6) rfl).len)) rfl <| Wo (Run_add (O rfl) (O rfl)) rfl <| ?_
     obtain ⟨b145, e146, hm⟩ := letv_some hm
     refine Wo (Run.eqB (Run_gtI (O rfl) Opd.c) e146) rfl <| Wo (Run_move (O rfl)) rfl <| WL_opG rfl rfl rfl rfl guard_pos (Run_move (O rfl)) rfl rfl rfl <| ?_
     obtain ⟨b147, e148, hm⟩ := letv_some hm
     refine WL_opG rfl rfl rfl rfl guard_pos (Run.eqB (Run_notB (Opd.g rfl id)) e148) rfl rfl rfl <| ?_
     obtain ⟨b149, e150, hm⟩ := letv_some hm
     refine Wo (Run.eqB (Run_and (O rfl) (Opd.g rfl id)) e150) rfl <| Wo (Run_move (O rfl)) rfl <| WL_opG rfl rfl rfl rfl guard_pos (Run_move (O rfl)) rfl rfl rfl <| ?_
     obtain ⟨b151, e152, hm⟩ := letv_some hm
     refine WL_opG rfl rfl rfl rfl guard_pos (Run.eqB (Run_notB (Opd.g rfl id)) e152) rfl rfl rfl <| ?_
     obtain ⟨b153, e154, hm⟩ := letv_some hm
     refine Wo (Run.eqB (Run_and (O rfl) (Opd.g rfl id)) e154) rfl <| ?_
     refine WL_nil <| At_then ?_
     refine WC_cond (O rfl) (fun hc155 => ?_) (fun hc155 => ?_)
     ·
      replace hm := bif_t hc155 hm
      refine WC_seq <| WC_region ?_
      refine Wo (Run_assign Opd.c) rfl <| ?_
      refine WL_nil <| At_then ?_
      refine WC_ret ?_
      refine At_then_ret <| At_blk_ret <| At_then_ret <| At_then_ret <| At_blk_ret <| At_then_ret <| ?_
      refine At_r1 rfl (ResIs.t rfl) ?_
      cases hm
      exact ⟨rfl, (hs.re 8 [] rfl)⟩
     ·
      replace hm := bif_f hc155 hm
      refine WC_skip ?_
      refine At_then <| WC_seq <| WC_region ?_
      refine Wo (Run_move (O rfl)) rfl <| ?_
      refine WL_nil <| At_then ?_
      refine WC_cond (O rfl) (fun hc156 => ?_) (fun hc156 => ?_)
      ·
       replace hm := bif_t hc156 hm
       refine WC_region ?_
       refine Wo (Run_move (O rfl)) rfl <| Wo (Run_add (O rfl) Opd.c) rfl <| Wo (Run_assign (O rfl)) rfl <| ?_
       refine WL_nil ?_
       refine At_blk_normal ?_
       refine At_then <| WC_region ?_
       refine Wo (Run_move (O rfl)) rfl <| Wo (Run_add (O rfl) Opd.c) rfl <| Wo (Run_assign (O rfl)) rfl <| ?_
       refine WL_nil ?_
       exact At_again ((IntKind.i64.wrap (n105 + 1)), (IntKind.i64.wrap (i106 + 1))) () hm (hs.re 8 [2, 3, 4, 5, 6, 7] rfl) rfl
      ·
       replace hm := bif_f hc156 hm
       refine WC_skip ?_
       refine At_blk_normal ?_
       refine At_then <| WC_region ?_
       refine Wo (Run_move (O rfl)) rfl <| Wo (Run_add (O rfl) Opd.c) rfl <| Wo (Run_assign (O rfl)) rfl <| ?_
       refine WL_nil ?_
       exact At_again (n105, (IntKind.i64.wrap (i106 + 1))) () hm (hs.re 8 [2, 3, 4, 5, 6, 7] rfl) rfl
    ·
     replace hm := bif_f hc108 hm
     refine WC_exit ?_
     refine At_then_exit <| At_then_exit <| At_blk_here <| ?_
     refine At_then <| WC_seq <| WC_region ?_
     refine Wo (Run_move (O rfl)) rfl <| Wo (Run_move (O rfl)) rfl <| WL_opG rfl rfl rfl rfl guard_pos (Run_move (O rfl)) rfl rfl rfl <| WL_opG rfl rfl rfl rfl guard_pos (Run_lenSlG Tryd.underlying22 (Opd.g rfl id) (fun _ => (hs.own (i := 3) rfl).len)) rfl rfl rfl <| ?_
     obtain ⟨b157, e158, hm⟩ := letv_some hm
     refine WL_opG rfl rfl rfl rfl guard_pos (Run.eqB (Run_eqI (Opd.g rfl id) Opd.c) e158) rfl rfl rfl <| WL_opG rfl rfl rfl rfl guard_pos (Run_move (Opd.g rfl id)) rfl rfl rfl <| WL_opG rfl rfl rfl rfl guard_neg' (Run_move (O rfl)) rfl rfl rfl <| WL_opG rfl rfl rfl rfl guard_neg' (Run_move (O rfl)) rfl rfl rfl <| WL_opG rfl rfl rfl rfl guard_neg' (Run_lenSlG Tryd.underlying37 (Opd.g rfl id) (fun _ => (hs.own (i := 0) rfl).len)) rfl rfl rfl <| ?_
     obtain ⟨b159, e160, hm⟩ := letv_some hm
     refine WL_opG rfl rfl rfl rfl guard_neg' (Run.eqB (Run_eqI (Opd.g rfl id) (Opd.g rfl id)) e160) rfl rfl rfl <| ?_
     obtain ⟨b161, e162, hm⟩ := letv_some hm
     refine WL_opG rfl rfl rfl rfl guard_pos (Run.eqB (Run_or (Opd.g rfl id) (Opd.g rfl id)) e162) rfl rfl rfl <| ?_
     obtain ⟨b163, e164, hm⟩ := letv_some hm
     refine Wo (Run.eqB (Run_and (O rfl) (Opd.g rfl id)) e164) rfl <| Wo (Run_assign (O rfl)) rfl <| ?_
     refine WL_nil <| At_then ?_
     refine WC_ret ?_
     refine At_r1 rfl (ResIs.t rfl) ?_
     cases hm
     exact ⟨rfl, (hs.re 6 [] rfl)⟩
end Go.Proofs.YtjdabjpjafkogaaDoor
namespace Go.Proofs.YtjdabjpjafkogaaDoor
mutual
def Ex.sz : Ex → Nat
 | .mk _ _ _ l => szL l + 1
def szL : List Ex → Nat
 | [] => 0
 | x :: r => Ex.sz x + szL r
end
theorem Ex.sz_l (e : Ex) : e.sz = szL e.l + 1 := by cases e; simp only [Ex.sz, Ex.l]
theorem sz_pos (e : Ex) : 1 ≤ e.sz := by rw [Ex.sz_l]; omega
theorem sz_mem {x : Ex} : ∀ {l : List Ex}, x ∈ l → x.sz ≤ szL l
 | y :: l, h => by
  simp only [szL]
  rcases List.mem_cons.1 h with rfl | h
  ·omega
  ·have := sz_mem h; omega
theorem szL_len : ∀ (l : List Ex), l.length ≤ szL l
 | [] => Nat.le_refl _
 | x :: l => by have := szL_len l; have := sz_pos x; simp only [szL, List.length_cons]; omega
theorem sz_lt {e x : Ex} (h : x ∈ e.l) : x.sz < e.sz := by have := sz_mem h; rw [Ex.sz_l e]; omega
theorem len_lt (e : Ex) : e.l.length < e.sz := by have := szL_len e.l; rw [Ex.sz_l e]; omega
theorem bind_s {α ρ : Type} (x : α) (k : α → Option ρ) : (some x).bind k = k x := rfl
theorem letv_e {α ρ : Type} (x : α) (k : α → Option ρ) : letv x k = k x := rfl
theorem callG_tt {α ρ : Type} (d : α) (m : Option α) (k : α → Option ρ) : callG true d m k = m.bind k := rfl
theorem callG_ff {α ρ : Type} (d : α) (m : Option α) (k : α → Option ρ) : callG false d m k = k d := rfl
theorem idx_mid {l pre r : List Ex} {x : Ex} (h : l = pre ++ x :: r) : idx l (pre.length : Int) = some x := by subst h; simp [idx]
theorem next_ix {n : Nat} (h : n < 4611686018427387904) : IntKind.i64.wrap ((n : Int) + 1) = ((n + 1 : Nat) : Int) := by rw [w64 (by omega)]; omega
theorem lt_t {l pre r : List Ex} {x : Ex} (h : l = pre ++ x :: r) : decide ((pre.length : Int) < (List.length l : Int)) = true := by subst h; simp; omega
theorem lt_f {l pre : List Ex} (h : l = pre ++ []) : decide ((pre.length : Int) < (List.length l : Int)) = false := by subst h; simp
def tyFin (op a : Int) (i b t : Bool) : Int × Int × Int :=
 bif decide (op ≤ 6) && i then (1, 0, 0)
 else bif decide (6 < op) && decide (op ≤ 12) && i || op == 13 || op == 14 || decide (15 ≤ op) && decide (op ≤ 19) && b then (2, 0, 0)
 else bif decide (15 ≤ op) && t then (3, 0, 0) else (0, 4, a)
mutual
def ty : Ex → Int × Int × Int
 | .mk op _ a l => tyA op a l true true true
def tyA (op a : Int) : List Ex → Bool → Bool → Bool → Int × Int × Int
 | [], i, b, t => tyFin op a i b t
 | x :: r, i, b, t => bif (ty x).2.1 != 0 then (0, (ty x).2.1, (ty x).2.2) else tyA op a r (i && (ty x).1 == 1) (b && (ty x).1 == 2) (t && (ty x).1 != 1)
end
def wantOf (op : Int) : Int := bif op == 1 || op == 2 || op == 13 || op == 14 then 0 else bif op == 6 || op == 15 || op == 20 || op == 21 || op == 22 then 1 else 2
def mayH (op n len want vars : Int) : Bool :=
 !(decide (op < 1) || decide (24 < op) || len != want) && !((op == 1) && (decide (n < 0) || decide (1073741824 < n)) || (op == 2) && (decide (n < 0) || decide (vars ≤ n)) || decide (2 < op) && n != 0)
mutual
def mayE (vars : Int) : Ex → Bool
 | .mk op n _ l => mayH op n (l.length : Int) (wantOf op) vars && mayL vars l
def mayL (vars : Int) : List Ex → Bool
 | [] => true
 | x :: r => mayE vars x && mayL vars r
end
theorem mayE_eq (vars : Int) (e : Ex) : mayE vars e = (mayH e.op e.n (e.l.length : Int) (wantOf e.op) vars && mayL vars e.l) := by cases e; simp only [mayE, Ex.op, Ex.n, Ex.l]
def tr (b : Bool) : Int := bif b then 1 else 0
def evF (op n : Int) (v : List Int) (a b : Int) : Int :=
 bif op == 1 then n else bif op == 2 then (bif decide (n < 0) || decide ((List.length v : Int) ≤ n) then 0 else v.getD n.toNat 0)
 else bif op == 3 then IntKind.i64.wrap (a + b) else bif op == 5 then IntKind.i64.wrap (a * b) else bif op == 6 then IntKind.i64.wrap (0 - a) else bif op == 4 then IntKind.i64.wrap (a - b)
 else bif op == 8 then tr ((a == b) != true) else bif op == 7 then tr ((a == b) != false) else bif op == 19 then tr ((a == b) != false)
 else bif op == 12 then tr (decide (a < b) != true) else bif op == 9 then tr (decide (a < b) != false) else bif op == 11 then tr (decide (a ≤ b) != true) else bif op == 10 then tr (decide (a ≤ b) != false)
 else bif op == 13 then 1 else bif op == 15 then IntKind.i64.wrap (1 - a) else bif op == 16 then IntKind.i64.wrap (a * b) else bif op == 17 then max a b else bif op == 18 then max (IntKind.i64.wrap (1 - a)) b else 0
mutual
def ev (v : List Int) : Ex → Int
 | .mk op n _ l => evF op n v (ev0 v l) (ev1 v l)
def ev0 (v : List Int) : List Ex → Int
 | [] => 0
 | x :: _ => ev v x
def ev1 (v : List Int) : List Ex → Int
 | [] => 0
 | _ :: r => ev0 v r
end
theorem ev_eq (v : List Int) (e : Ex) : ev v e = evF e.op e.n v (ev0 v e.l) (ev1 v e.l) := by cases e; simp only [ev, Ex.op, Ex.n, Ex.l]
def rtFin (op a len i b t : Int) : Int × Int × Int :=
 bif decide (op ≤ 6) && (i == len) then (1, 0, 0)
 else bif decide (7 ≤ op) && decide (op ≤ 12) && (i == len) || op == 13 || op == 14 then (2, 0, 0)
 else bif decide (15 ≤ op) && decide (op ≤ 19) && (b == len) then (2, 0, 0)
 else bif decide (15 ≤ op) && (b + t == len) then (3, 0, 0) else (0, 4, a)
mutual
def rt : Ex → Int × Int × Int
 | .mk op _ a l => rtA op a (l.length : Int) l 0 0 0
def rtA (op a len : Int) : List Ex → Int → Int → Int → Int × Int × Int
 | [], i, b, t => rtFin op a len i b t
 | x :: r, i, b, t => bif (rt x).2.1 != 0 then (0, (rt x).2.1, (rt x).2.2) else rtA op a len r (bif (rt x).1 == 1 then i + 1 else i) (bif (rt x).1 == 2 then b + 1 else b) (bif (rt x).1 == 3 then t + 1 else t)
end
theorem rt_eq (e : Ex) : rt e = rtA e.op e.at_ (e.l.length : Int) e.l 0 0 0 := by cases e; simp only [rt, Ex.op, Ex.at_, Ex.l]
theorem callG_v {α ρ : Type} (g : Bool) (d v : α) (k : α → Option ρ) : callG g d (some v) k = k (bif g then v else d) := by cases g <;> rfl
theorem may_facts {vars : Int} {e : Ex} (h : mayE vars e = true) : (1 ≤ e.op ∧ e.op ≤ 24) ∧ (e.l.length : Int) = wantOf e.op ∧ (e.op = 1 → 0 ≤ e.n ∧ e.n ≤ 1073741824) ∧ (e.op = 2 → 0 ≤ e.n ∧ e.n < vars) ∧ ∀ x ∈ e.l, mayE vars x = true := by
 rw [mayE_eq] at h
 simp only [mayH, Bool.and_eq_true, Bool.not_eq_true', Bool.or_eq_false_iff, decide_eq_false_iff_not, bne_eq_false_iff_eq, Bool.and_eq_false_imp, beq_iff_eq] at h
 obtain ⟨⟨⟨⟨h1, h2⟩, h3⟩, ⟨h4, h5⟩, _⟩, h6⟩ := h
 refine ⟨by omega, h3, fun h => by have := h4 h; omega, fun h => by have := h5 h; omega, ?_⟩
 have : ∀ (l : List Ex), mayL vars l = true → ∀ x ∈ l, mayE vars x = true := fun l => by
  induction l with
  | nil => intro _ x hx; cases hx
  | cons y r ih =>
   intro h x hx
   simp only [mayL, Bool.and_eq_true] at h
   rcases List.mem_cons.1 hx with rfl | hx
   ·exact h.1
   ·exact ih h.2 x hx
 exact this _ h6
end Go.Proofs.YtjdabjpjafkogaaDoor
namespace Go.Proofs.YtjdabjpjafkogaaDoor
def keysT : List Str := [[116, 114, 117, 101], [102, 97, 108, 115, 101], [88], [70], [71], [85], [82], [118, 97, 114], [112, 114, 111, 99]]
def textsT : List Str := [[], [], [], [43], [45], [42], [45], [61, 61], [33, 61], [60], [60, 61], [62], [62, 61], [116, 114, 117, 101], [102, 97, 108, 115, 101], [33], [38], [124], [45, 62], [60, 45, 62], [88], [70], [71], [85], [82]]
def txtT (op : Int) : Str := textsT.getD op.toNat []
namespace Pa
abbrev Tok := Int × Str × Int × Int
abbrev Out := Except (Int × Int) (Ex × List Tok)
def key (s : Str) : Bool := keysT.contains s
def sgn (t : Tok) : Bool := t.1 == 3 || (t.1 == 1 && key t.2.1)
def ops : Nat → List Int
 | 1 => [19]
 | 2 => [18]
 | 3 => [17]
 | 4 => [16]
 | 5 => [23, 24]
 | 6 => [15, 20, 21, 22]
 | 7 => [7, 8, 9, 10, 11, 12]
 | 8 => [3, 4]
 | 9 => [5]
 | 10 => [6]
 | 11 => [13, 14]
 | _ => []
def fnd (l : List Int) (t : Tok) : Option Int := bif sgn t then l.find? (fun o => txtT o == t.2.1) else none
def opOf (s : Nat) (t : Tok) : Option Int := fnd (ops s) t
def kd : Nat → Nat
 | 6 => 0
 | 10 => 0
 | 1 => 1
 | 2 => 1
 | 5 => 1
 | 7 => 1
 | 3 => 2
 | 4 => 2
 | 8 => 2
 | 9 => 2
 | 11 => 3
 | _ => 4
def counted (s : Nat) : Bool := s == 1 || s == 2 || s == 5 || s == 6 || s == 10
def dn (s : Nat) (d : Int) : Int := bif counted s then d + 1 else d
def deepB (s : Nat) (d : Int) : Bool := counted s && decide (320 ≤ d)
def nx (s : Nat) : Nat := bif s == 7 then 8 else s
def at_ (names : List Str) (v : Str) : Option Nat := names.findIdx? (fun x => v == x)
def open_ (t : Tok) : Bool := t.1 == 3 && t.2.1 == [40]
def close_ (t : Tok) : Bool := t.1 == 3 && t.2.1 == [41]
def name_ (t : Tok) : Bool := t.1 == 1 && !key t.2.1
def one' (k : Int) (a : Int) (r : Out) : Out := r.map fun p => (.mk k 0 a [p.1], p.2)
def two' (k : Int) (a : Int) (x : Ex) (r : Out) : Out := r.map fun p => (.mk k 0 a [x, p.1], p.2)
inductive Job where
 | line (s : Nat)
 | loop (s : Nat) (a : Ex)
open Job
inductive P (names : List Str) : Job → Int → List Tok → Out → Prop
 | big {s d t ts} : deepB s d = true → P names (line s) d (t :: ts) (.error (9, t.2.2.2))
 | pre {s d t ts k r} : kd s = 0 → deepB s d = false → opOf s t = some k → P names (line s) (dn s d) ts r → P names (line s) d (t :: ts) (one' k t.2.2.2 r)
 | other {s d t ts r} : kd s = 0 → deepB s d = false → opOf s t = none → P names (line (s + 1)) (dn s d) (t :: ts) r → P names (line s) d (t :: ts) r
 | rErr {s d ts e} : kd s = 1 → deepB s d = false → P names (line (s + 1)) (dn s d) ts (.error e) → P names (line s) d ts (.error e)
 | rOne {s d ts a t ts'} : kd s = 1 → deepB s d = false → P names (line (s + 1)) (dn s d) ts (.ok (a, t :: ts')) → opOf s t = none → P names (line s) d ts (.ok (a, t :: ts'))
 | rTwo {s d ts a t ts' k r} : kd s = 1 → deepB s d = false → P names (line (s + 1)) (dn s d) ts (.ok (a, t :: ts')) → opOf s t = some k → P names (line (nx s)) (dn s d) ts' r → P names (line s) d ts (two' k t.2.2.2 a r)
 | lErr {s d ts e} : kd s = 2 → P names (line (s + 1)) d ts (.error e) → P names (line s) d ts (.error e)
 | lGo {s d ts a ts' r} : kd s = 2 → P names (line (s + 1)) d ts (.ok (a, ts')) → P names (loop s a) d ts' r → P names (line s) d ts r
 | lpEnd {s a d t ts} : opOf s t = none → P names (loop s a) d (t :: ts) (.ok (a, t :: ts))
 | lpErr {s a d t ts k e} : opOf s t = some k → P names (line (s + 1)) d ts (.error e) → P names (loop s a) d (t :: ts) (.error e)
 | lpGo {s a d t ts k b ts' r} : opOf s t = some k → P names (line (s + 1)) d ts (.ok (b, ts')) → P names (loop s (.mk k 0 t.2.2.2 [a, b])) d ts' r → P names (loop s a) d (t :: ts) r
 | oWord {s d t ts k} : kd s = 3 → opOf s t = some k → P names (line s) d (t :: ts) (.ok (.mk k 0 t.2.2.2 [], ts))
 | oNum {s d t ts} : kd s = 3 → opOf s t = none → (t.1 == 2) = true → P names (line s) d (t :: ts) (.ok (.mk 1 t.2.2.1 t.2.2.2 [], ts))
 | oVar {s d t ts i} : kd s = 3 → opOf s t = none → (t.1 == 2) = false → name_ t = true → at_ names t.2.1 = some i → P names (line s) d (t :: ts) (.ok (.mk 2 (i : Int) t.2.2.2 [], ts))
 | oName {s d t ts} : kd s = 3 → opOf s t = none → (t.1 == 2) = false → name_ t = true → at_ names t.2.1 = none → P names (line s) d (t :: ts) (.error (3, t.2.2.2))
 | oOpen {s d t ts a c ts'} : kd s = 3 → opOf s t = none → (t.1 == 2) = false → name_ t = false → open_ t = true → P names (line 1) d ts (.ok (a, c :: ts')) → close_ c = true → P names (line s) d (t :: ts) (.ok (a, ts'))
 | oErr {s d t ts e} : kd s = 3 → opOf s t = none → (t.1 == 2) = false → name_ t = false → open_ t = true → P names (line 1) d ts (.error e) → P names (line s) d (t :: ts) (.error e)
 | oClose {s d t ts a c ts'} : kd s = 3 → opOf s t = none → (t.1 == 2) = false → name_ t = false → open_ t = true → P names (line 1) d ts (.ok (a, c :: ts')) → close_ c = false → P names (line s) d (t :: ts) (.error (2, c.2.2.2))
 | oForm {s d t ts} : kd s = 3 → opOf s t = none → (t.1 == 2) = false → name_ t = false → open_ t = false → P names (line s) d (t :: ts) (.error (2, t.2.2.2))
theorem deep_kd {s : Nat} {d : Int} (h : deepB s d = true) : kd s = 0 ∨ kd s = 1 := by
 unfold deepB counted at h
 simp only [Bool.and_eq_true, Bool.or_eq_true, beq_iff_eq] at h
 rcases h.1 with (((rfl | rfl) | rfl) | rfl) | rfl <;> simp [kd]
theorem P.det {names : List Str} {j : Job} {d : Int} {ts : List Tok} {r r' : Out} (h : P names j d ts r) (h' : P names j d ts r') : r = r' := by
 induction h generalizing r' with
 | big h0 => have := deep_kd h0; cases h' <;> simp_all
 | pre h0 h1 h2 h3 ih => cases h' <;> simp_all <;> (rename_i h4; rw [ih h4])
 | other h0 h1 h2 h3 ih =>
  cases h' with
  | other _ _ _ h => exact ih h
  | _ => simp_all
 | rErr h0 h1 h2 ih =>
  cases h' with
  | rErr _ _ h => exact ih h
  | rOne _ _ h => cases ih h
  | rTwo _ _ h => cases ih h
  | _ => simp_all
 | rOne h0 h1 h2 h3 ih =>
  cases h' with
  | rErr _ _ h => cases ih h
  | rOne _ _ h => exact ih h
  | rTwo _ _ h h4 => cases ih h; simp_all
  | _ => simp_all
 | rTwo h0 h1 h2 h3 h4 ih ih2 =>
  cases h' with
  | rErr _ _ h => cases ih h
  | rOne _ _ h => cases ih h; simp_all
  | rTwo _ _ h h5 h6 => cases ih h; rw [h3] at h5; cases h5; rw [ih2 h6]
  | _ => simp_all
 | lErr h0 h1 ih =>
  cases h' with
  | lErr _ h => exact ih h
  | lGo _ h => cases ih h
  | big h => have := deep_kd h; simp_all
  | _ => simp_all
 | lGo h0 h1 h2 ih ih2 =>
  cases h' with
  | lErr _ h => cases ih h
  | lGo _ h h3 => cases ih h; exact ih2 h3
  | big h => have := deep_kd h; simp_all
  | _ => simp_all
 | lpEnd h0 => cases h' <;> simp_all
 | lpErr h0 h1 ih =>
  cases h' with
  | lpErr _ h => exact ih h
  | lpGo _ h => cases ih h
  | _ => simp_all
 | lpGo h0 h1 h2 ih ih2 =>
  cases h' with
  | lpErr _ h => cases ih h
  | lpGo h4 h h3 => cases ih h; rw [h0] at h4; cases h4; exact ih2 h3
  | _ => simp_all
 | oOpen h0 h1 h2 h3 h4 h5 h6 ih =>
  cases h' with
  | oOpen _ _ _ _ _ h _ => cases ih h; rfl
  | oErr _ _ _ _ _ h => cases ih h
  | oClose _ _ _ _ _ h h7 => cases ih h; simp_all
  | big h => have := deep_kd h; simp_all
  | _ => simp_all
 | oErr h0 h1 h2 h3 h4 h5 ih =>
  cases h' with
  | oOpen _ _ _ _ _ h _ => cases ih h
  | oErr _ _ _ _ _ h => exact ih h
  | oClose _ _ _ _ _ h h7 => cases ih h
  | big h => have := deep_kd h; simp_all
  | _ => simp_all
 | oClose h0 h1 h2 h3 h4 h5 h6 ih =>
  cases h' with
  | oOpen _ _ _ _ _ h _ => cases ih h; simp_all
  | oErr _ _ _ _ _ h => cases ih h
  | oClose _ _ _ _ _ h h7 => cases ih h; rfl
  | big h => have := deep_kd h; simp_all
  | _ => simp_all
 | oWord h0 h1 => cases h' <;> first | (rename_i h; have := deep_kd h; simp_all; done) | simp_all
 | oNum h0 h1 h2 => cases h' <;> first | (rename_i h; have := deep_kd h; simp_all; done) | simp_all
 | oVar h0 h1 h2 h3 h4 => cases h' <;> first | (rename_i h; have := deep_kd h; simp_all; done) | simp_all
 | oName h0 h1 h2 h3 h4 => cases h' <;> first | (rename_i h; have := deep_kd h; simp_all; done) | simp_all
 | oForm h0 h1 h2 h3 h4 => cases h' <;> first | (rename_i h; have := deep_kd h; simp_all; done) | simp_all
def Ends : List Tok → Prop
 | [] => False
 | t :: ts => Ends ts ∨ (ts = [] ∧ t.1 = 4)
theorem Ends.tail {t : Tok} {ts : List Tok} (h : Ends (t :: ts)) (h4 : t.1 ≠ 4) : Ends ts := by
 rcases h with h | ⟨_, h⟩
 ·exact h
 ·exact absurd h h4
theorem Ends.ne {ts : List Tok} (h : Ends ts) : ∃ t r, ts = t :: r := by
 cases ts with
 | nil => exact h.elim
 | cons t r => exact ⟨t, r, rfl⟩
theorem sgn_ne {t : Tok} (h : sgn t = true) : t.1 ≠ 4 := by
 unfold sgn at h
 intro h4
 rw [h4] at h; simp at h
theorem fnd_sgn {l : List Int} {t : Tok} {k : Int} (h : fnd l t = some k) : sgn t = true := by
 unfold fnd at h
 cases hs : sgn t
 ·rw [hs] at h; cases h
 ·rfl
theorem fnd_ne {l : List Int} {t : Tok} {k : Int} (h : fnd l t = some k) : t.1 ≠ 4 := sgn_ne (fnd_sgn h)
theorem op_ne {s : Nat} {t : Tok} {k : Int} (h : opOf s t = some k) : t.1 ≠ 4 := fnd_ne h
def shorter : Job → Nat → Nat → Prop
 | line _, a, b => a < b
 | loop _ _, a, b => a ≤ b
theorem P.ends {names : List Str} {j : Job} {d : Int} {ts : List Tok} {r : Out} (h : P names j d ts r) : Ends ts → ∀ p, r = .ok p → Ends p.2 ∧ shorter j p.2.length ts.length := by
 induction h with
 | big => intro _ p h; cases h
 | @pre s d t ts k r h0 h1 h2 h3 ih =>
  intro he p h
  cases r with
  | error e => cases h
  | ok q =>
   obtain ⟨i1, i2⟩ := ih (he.tail (op_ne h2)) q rfl
   cases h
   refine ⟨i1, ?_⟩
   simp only [shorter, List.length_cons] at *; omega
 | other h0 h1 h2 h3 ih => intro he p h; exact ih he p h
 | rErr => intro _ p h; cases h
 | rOne h0 h1 h2 h3 ih => intro he p h; exact ih he p h
 | @rTwo s d ts a t ts' k r h0 h1 h2 h3 h4 ih ih2 =>
  intro he p h
  cases r with
  | error e => cases h
  | ok q =>
   obtain ⟨i1, i2⟩ := ih he _ rfl
   obtain ⟨i3, i4⟩ := ih2 (i1.tail (op_ne h3)) q rfl
   cases h
   refine ⟨i3, ?_⟩
   simp only [shorter, List.length_cons] at *; omega
 | lErr => intro _ p h; cases h
 | lGo h0 h1 h2 ih ih2 =>
  intro he p h
  obtain ⟨i1, i2⟩ := ih he _ rfl
  obtain ⟨i3, i4⟩ := ih2 i1 p h
  refine ⟨i3, ?_⟩
  simp only [shorter] at *; omega
 | lpEnd h0 => intro he p h; cases h; exact ⟨he, Nat.le_refl _⟩
 | lpErr => intro _ p h; cases h
 | lpGo h0 h1 h2 ih ih2 =>
  intro he p h
  obtain ⟨i1, i2⟩ := ih (he.tail (op_ne h0)) _ rfl
  obtain ⟨i3, i4⟩ := ih2 i1 p h
  refine ⟨i3, ?_⟩
  simp only [shorter, List.length_cons] at *; omega
 | oWord h0 h1 => intro he p h; cases h; exact ⟨he.tail (op_ne h1), Nat.lt_succ_self _⟩
 | oNum h0 h1 h2 => intro he p h; cases h; exact ⟨he.tail (by have := beq_iff_eq.1 h2; omega), Nat.lt_succ_self _⟩
 | oVar h0 h1 h2 h3 h4 => intro he p h; cases h; exact ⟨he.tail (by unfold name_ at h3; simp only [Bool.and_eq_true, beq_iff_eq] at h3; omega), Nat.lt_succ_self _⟩
 | oName => intro _ p h; cases h
 | oOpen h0 h1 h2 h3 h4 h5 h6 ih =>
  intro he p h
  cases h
  obtain ⟨i1, i2⟩ := ih (he.tail (by unfold open_ at h4; simp only [Bool.and_eq_true, beq_iff_eq] at h4; omega)) _ rfl
  refine ⟨i1.tail (by unfold close_ at h6; simp only [Bool.and_eq_true, beq_iff_eq] at h6; omega), ?_⟩
  simp only [shorter, List.length_cons] at *; omega
 | oErr => intro _ p h; cases h
 | oClose => intro _ p h; cases h
 | oForm => intro _ p h; cases h
theorem P.err {names : List Str} {j : Job} {d : Int} {ts : List Tok} {r : Out} (h : P names j d ts r) : ∀ e, r = .error e → e.1 = 9 ∨ e.1 = 2 ∨ e.1 = 3 := by
 induction h with
 | big => intro e h; cases h; exact .inl rfl
 | @pre s d t ts k r h0 h1 h2 h3 ih =>
  intro e h
  cases r with
  | error e' => cases h; exact ih _ rfl
  | ok q => cases h
 | other h0 h1 h2 h3 ih => exact ih
 | rErr _ _ _ ih => exact ih
 | rOne => intro e h; cases h
 | @rTwo s d ts a t ts' k r h0 h1 h2 h3 h4 ih ih2 =>
  intro e h
  cases r with
  | error e' => cases h; exact ih2 _ rfl
  | ok q => cases h
 | lErr _ _ ih => exact ih
 | lGo _ _ _ _ ih => exact ih
 | lpEnd => intro e h; cases h
 | lpErr _ _ ih => exact ih
 | lpGo _ _ _ _ ih => exact ih
 | oWord => intro e h; cases h
 | oNum => intro e h; cases h
 | oVar => intro e h; cases h
 | oName => intro e h; cases h; exact .inr (.inr rfl)
 | oOpen => intro e h; cases h
 | oErr _ _ _ _ _ _ ih => exact ih
 | oClose => intro e h; cases h; exact .inr (.inl rfl)
 | oForm => intro e h; cases h; exact .inr (.inl rfl)
end Pa
end Go.Proofs.YtjdabjpjafkogaaDoor
namespace Go.Proofs.YtjdabjpjafkogaaDoor
namespace Sy
open Pa
abbrev Cmd := Int × Ex × List (Int × Ex)
abbrev Mdl := List Str × List (Int × Int) × List Int × List Str × List Cmd
abbrev Err := Int × Int
noncomputable def readE (names : List Str) (ts : List Tok) : Out :=
 open Classical in if h : ∃ r, P names (.line 1) 0 ts r then Classical.choose h else .error (2, 0)
theorem readE_eq {names : List Str} {ts : List Tok} {r : Out} (h : P names (.line 1) 0 ts r) : readE names ts = r := by
 unfold readE
 rw [dif_pos ⟨r, h⟩]
 exact (Classical.choose_spec (⟨r, h⟩ : ∃ r, P names (.line 1) 0 ts r)).det h
theorem readE_ok {names : List Str} {ts : List Tok} {p : Ex × List Tok} (h : readE names ts = .ok p) : P names (.line 1) 0 ts (.ok p) := by
 unfold readE at h
 split at h
 ·rename_i hx
  have := Classical.choose_spec hx
  rw [h] at this; exact this
 ·cases h
def isT (k : Int) (x : Str) (t : Tok) : Bool := (t.1 == k) && (t.2.1 == x)
def headP : List Tok → Int
 | [] => 0
 | t :: _ => t.2.2.2
def isH (k : Int) (x : Str) : List Tok → Bool
 | [] => false
 | t :: _ => isT k x t
def sSign (x : Str) (ts : List Tok) : Except Err (List Tok) := match ts with
 | [] => .error (2, 0)
 | t :: r => bif isT 3 x t then .ok r else .error (2, t.2.2.2)
def sName (full : Bool) (names procs : List Str) (ts : List Tok) : Except Err (Str × List Tok) := match ts with
 | [] => .error (2, 0)
 | t :: r => bif t.1 != 1 then .error (2, t.2.2.2) else bif key t.2.1 || names.contains t.2.1 || procs.contains t.2.1 then .error (3, t.2.2.2) else bif full then .error (9, t.2.2.2) else .ok (t.2.1, r)
def sNum1 (neg : Bool) (ts : List Tok) : Except Err (Int × List Tok) := match ts with
 | [] => .error (2, 0)
 | t :: r => bif t.1 != 2 then .error (2, t.2.2.2) else .ok (bif neg then IntKind.i64.wrap (0 - t.2.2.1) else t.2.2.1, r)
def sNum (ts : List Tok) : Except Err (Int × List Tok) := bif isH 3 [45] ts then sNum1 true ts.tail else sNum1 false ts
def rightB (lo hi : Int) : Bool := !(decide (hi < lo)) && !(decide (lo < -1073741824)) && !(decide (1073741824 < hi)) && !(decide (65535 < IntKind.i64.wrap (hi - lo)))
def sVar (m : Mdl) (ts : List Tok) : Except Err (Mdl × List Tok) :=
 match sName (decide (16 ≤ (m.1.length : Int))) m.1 m.2.2.2.1 ts with
 | .error e => .error e
 | .ok (name, ts1) => match sNum ts1 with
  | .error e => .error e
  | .ok (lo, ts2) => match sNum ts2 with
   | .error e => .error e
   | .ok (hi, ts3) => match sNum ts3 with
    | .error e => .error e
    | .ok (first, ts4) => match sSign [59] ts4 with
     | .error e => .error e
     | .ok ts5 => bif !(rightB lo hi) || decide (first < lo) || decide (hi < first) then .error (5, headP ts1) else .ok ((m.1 ++ [name], m.2.1 ++ [(lo, hi)], m.2.2.1 ++ [first], m.2.2.2.1, m.2.2.2.2), ts5)
noncomputable def sExpr (want : Int) (names : List Str) (ts : List Tok) : Except Err (Ex × List Tok) :=
 match readE names ts with
 | .error e => .error e
 | .ok (x, r) => bif (rt x).2.1 != 0 then .error ((rt x).2.1, (rt x).2.2) else bif (rt x).1 != want then .error (4, x.at_) else .ok (x, r)
def idxI (names : List Str) (v : Str) : Int := match at_ names v with
 | some i => (i : Int)
 | none => -1
def twice (acc : List (Int × Ex)) (i : Int) : Bool := acc.any (fun s => s.1 == i)
noncomputable def sSets (names : List Str) : Nat → List (Int × Ex) → List Tok → Except Err (List (Int × Ex) × List Tok)
 | 0, _, _ => .error (2, 0)
 | f + 1, acc, ts => match ts with
  | [] => .error (2, 0)
  | t :: r => bif t.1 != 1 then .error (2, t.2.2.2) else bif decide (idxI names t.2.1 < 0) || twice acc (idxI names t.2.1) then .error (3, t.2.2.2) else
   match sSign [61] r with
   | .error e => .error e
   | .ok r1 => match sExpr 1 names r1 with
    | .error e => .error e
    | .ok (x, r2) => bif isH 3 [44] r2 then sSets names f (acc ++ [(idxI names t.2.1, x)]) r2.tail else .ok (acc ++ [(idxI names t.2.1, x)], r2)
noncomputable def sCmd (m : Mdl) (ts : List Tok) : Except Err (Mdl × List Tok) :=
 bif decide (256 ≤ (m.2.2.2.2.length : Int)) then .error (9, headP ts) else
 match sExpr 2 m.1 ts with
 | .error e => .error e
 | .ok (g, r1) => match sSign [58] r1 with
  | .error e => .error e
  | .ok r2 => match sSets m.1 (r2.length + 1) [] r2 with
   | .error e => .error e
   | .ok (sets, r3) => match sSign [59] r3 with
    | .error e => .error e
    | .ok r4 => .ok ((m.1, m.2.1, m.2.2.1, m.2.2.2.1, m.2.2.2.2 ++ [(IntKind.i64.wrap ((m.2.2.2.1.length : Int) - 1), g, sets)]), r4)
noncomputable def sCmds : Nat → Mdl → List Tok → Except Err (Mdl × List Tok)
 | 0, _, _ => .error (2, 0)
 | f + 1, m, ts => bif isH 3 [125] ts then .ok (m, ts.tail) else match sCmd m ts with
  | .error e => .error e
  | .ok (m', r) => sCmds f m' r
noncomputable def sProc (m : Mdl) (ts : List Tok) : Except Err (Mdl × List Tok) :=
 match sName false m.1 m.2.2.2.1 ts with
 | .error e => .error e
 | .ok (name, r1) => match sSign [123] r1 with
  | .error e => .error e
  | .ok r2 => sCmds (r2.length + 1) (m.1, m.2.1, m.2.2.1, m.2.2.2.1 ++ [name], m.2.2.2.2) r2
noncomputable def sItems : Nat → Mdl → List Tok → Except Err Mdl
 | 0, _, _ => .error (2, 0)
 | f + 1, m, ts => match ts with
  | [] => .error (2, 0)
  | t :: r => bif t.1 == 4 then (bif m.1.isEmpty then .error (2, t.2.2.2) else .ok m)
   else bif isT 1 [118, 97, 114] t then (match sVar m r with
    | .error e => .error e
    | .ok (m', r') => sItems f m' r')
   else bif isT 1 [112, 114, 111, 99] t then (match sProc m r with
    | .error e => .error e
    | .ok (m', r') => sItems f m' r')
   else .error (2, t.2.2.2)
noncomputable def sys (l : List Tok) : Except Err Mdl := sItems (l.length + 1) ([], [], [], [], []) l
def outS : Except Err Mdl → Mdl × Int × Int
 | .ok m => (m, 0, 0)
 | .error e => (([], [], [], [], []), e.1, e.2)
/-! what is read is shorter, and ends as it ended -/
def Shorter (ts ts' : List Tok) : Prop := Pa.Ends ts' ∧ ts'.length < ts.length
theorem isT_ne {k : Int} {x : Str} {t : Tok} (h : isT k x t = true) (hk : k ≠ 4) : t.1 ≠ 4 := by
 unfold isT at h
 simp only [Bool.and_eq_true, beq_iff_eq] at h
 omega
theorem sSign_ok {x : Str} {ts r : List Tok} (he : Pa.Ends ts) (h : sSign x ts = .ok r) : Shorter ts r := by
 obtain ⟨t, ts', rfl⟩ := he.ne
 simp only [sSign] at h
 cases hc : isT 3 x t
 ·rw [hc] at h; cases h
 ·rw [hc] at h; cases h
  exact ⟨he.tail (isT_ne hc (by decide)), Nat.lt_succ_self _⟩
theorem sName_ok {full : Bool} {names procs : List Str} {ts : List Tok} {p : Str × List Tok} (he : Pa.Ends ts) (h : sName full names procs ts = .ok p) :
  Shorter ts p.2 ∧ key p.1 = false ∧ names.contains p.1 = false ∧ procs.contains p.1 = false ∧ full = false := by
 obtain ⟨t, ts', rfl⟩ := he.ne
 simp only [sName] at h
 cases h1 : (t.1 != 1)
 ·rw [h1] at h
  simp only [cond_false] at h
  cases h2 : (key t.2.1 || names.contains t.2.1 || procs.contains t.2.1)
  ·rw [h2] at h
   simp only [cond_false] at h
   cases full
   ·cases h
    simp only [Bool.or_eq_false_iff] at h2
    have : t.1 = 1 := by simpa using h1
    exact ⟨⟨he.tail (by omega), Nat.lt_succ_self _⟩, h2.1.1, h2.1.2, h2.2, rfl⟩
   ·cases h
  ·rw [h2] at h; cases h
 ·rw [h1] at h; cases h
theorem sNum1_ok {neg : Bool} {ts : List Tok} {p : Int × List Tok} (he : Pa.Ends ts) (h : sNum1 neg ts = .ok p) : Shorter ts p.2 := by
 obtain ⟨t, ts', rfl⟩ := he.ne
 simp only [sNum1] at h
 cases h1 : (t.1 != 2)
 ·rw [h1] at h
  cases h
  have : t.1 = 2 := by simpa using h1
  exact ⟨he.tail (by omega), Nat.lt_succ_self _⟩
 ·rw [h1] at h; cases h
theorem isH_ends {k : Int} {x : Str} {ts : List Tok} (he : Pa.Ends ts) (hk : k ≠ 4) (h : isH k x ts = true) : Pa.Ends ts.tail ∧ ts.tail.length + 1 = ts.length := by
 obtain ⟨t, ts', rfl⟩ := he.ne
 exact ⟨he.tail (isT_ne h hk), rfl⟩
theorem sNum_ok {ts : List Tok} {p : Int × List Tok} (he : Pa.Ends ts) (h : sNum ts = .ok p) : Shorter ts p.2 := by
 unfold sNum at h
 cases hc : isH 3 [45] ts
 ·rw [hc] at h; exact sNum1_ok he h
 ·rw [hc] at h
  obtain ⟨h1, h2⟩ := isH_ends he (by decide) hc
  obtain ⟨h3, h4⟩ := sNum1_ok h1 h
  exact ⟨h3, by omega⟩
theorem sExpr_ok {want : Int} {names : List Str} {ts : List Tok} {p : Ex × List Tok} (he : Pa.Ends ts) (h : sExpr want names ts = .ok p) :
  Shorter ts p.2 ∧ P names (.line 1) 0 ts (.ok p) ∧ (rt p.1).2.1 = 0 ∧ (rt p.1).1 = want := by
 unfold sExpr at h
 cases hr : readE names ts with
 | error e => rw [hr] at h; cases h
 | ok q =>
  obtain ⟨x, r⟩ := q
  rw [hr] at h
  simp only at h
  cases h1 : ((rt x).2.1 != 0)
  ·rw [h1] at h
   simp only [cond_false] at h
   cases h2 : ((rt x).1 != want)
   ·rw [h2] at h
    cases h
    have hp := readE_ok hr
    exact ⟨hp.ends he _ rfl, hp, by simpa using h1, by simpa using h2⟩
   ·rw [h2] at h; cases h
  ·rw [h1] at h; cases h
theorem Shorter.trans {a b c : List Tok} (h : Shorter a b) (k : Shorter b c) : Shorter a c := ⟨k.1, Nat.lt_trans k.2 h.2⟩
theorem sSets_ok {names : List Str} : ∀ (f : Nat) (acc : List (Int × Ex)) (ts : List Tok) (p : List (Int × Ex) × List Tok), Pa.Ends ts → sSets names f acc ts = .ok p → Shorter ts p.2 := by
 intro f
 induction f with
 | zero => intro _ _ _ _ h; simp [sSets] at h
 | succ f ih =>
  intro acc ts p he h
  obtain ⟨t, r, rfl⟩ := he.ne
  simp only [sSets] at h
  cases h1 : (t.1 != 1)
  case true => rw [h1] at h; cases h
  rw [h1] at h
  simp only [cond_false] at h
  cases h2 : (decide (idxI names t.2.1 < 0) || twice acc (idxI names t.2.1))
  case true => rw [h2] at h; cases h
  rw [h2] at h
  simp only [cond_false] at h
  have ht : t.1 = 1 := by simpa using h1
  have he1 := he.tail (by omega)
  cases h3 : sSign [61] r with
  | error e => rw [h3] at h; cases h
  | ok r1 =>
   rw [h3] at h
   simp only at h
   have s1 := sSign_ok he1 h3
   cases h4 : sExpr 1 names r1 with
   | error e => rw [h4] at h; cases h
   | ok q =>
    obtain ⟨x, r2⟩ := q
    rw [h4] at h
    simp only at h
    have s2 : Shorter r1 r2 := (sExpr_ok s1.1 h4).1
    have s12 : Shorter (t :: r) r2 := ⟨s2.1, by have := s1.2; have := s2.2; simp only [List.length_cons]; omega⟩
    cases h5 : isH 3 [44] r2
    ·rw [h5] at h
     cases h
     exact s12
    ·rw [h5] at h
     simp only [cond_true] at h
     obtain ⟨e1, e2⟩ := isH_ends s2.1 (by decide) h5
     have := ih _ _ _ e1 h
     exact ⟨this.1, by have := this.2; have := s12.2; omega⟩
theorem sVar_ok {m : Mdl} {ts : List Tok} {p : Mdl × List Tok} (he : Pa.Ends ts) (h : sVar m ts = .ok p) : Shorter ts p.2 ∧
  ∃ name lo hi first, p.1 = (m.1 ++ [name], m.2.1 ++ [(lo, hi)], m.2.2.1 ++ [first], m.2.2.2.1, m.2.2.2.2) ∧ rightB lo hi = true ∧ lo ≤ first ∧ first ≤ hi ∧ m.1.length < 16 ∧ m.1.contains name = false := by
 unfold sVar at h
 cases h1 : sName (decide (16 ≤ (m.1.length : Int))) m.1 m.2.2.2.1 ts with
 | error e => rw [h1] at h; cases h
 | ok q1 =>
  obtain ⟨name, ts1⟩ := q1
  rw [h1] at h
  simp only at h
  obtain ⟨s1, _, hnm, _, hfull⟩ := sName_ok he h1
  cases h2 : sNum ts1 with
  | error e => rw [h2] at h; cases h
  | ok q2 =>
   obtain ⟨lo, ts2⟩ := q2
   rw [h2] at h
   simp only at h
   have s2 := sNum_ok s1.1 h2
   cases h3 : sNum ts2 with
   | error e => rw [h3] at h; cases h
   | ok q3 =>
    obtain ⟨hi, ts3⟩ := q3
    rw [h3] at h
    simp only at h
    have s3 := sNum_ok s2.1 h3
    cases h4 : sNum ts3 with
    | error e => rw [h4] at h; cases h
    | ok q4 =>
     obtain ⟨first, ts4⟩ := q4
     rw [h4] at h
     simp only at h
     have s4 := sNum_ok s3.1 h4
     cases h5 : sSign [59] ts4 with
     | error e => rw [h5] at h; cases h
     | ok ts5 =>
      rw [h5] at h
      simp only at h
      have s5 := sSign_ok s4.1 h5
      cases h6 : (!(rightB lo hi) || decide (first < lo) || decide (hi < first))
      ·rw [h6] at h
       cases h
       simp only [Bool.or_eq_false_iff, decide_eq_false_iff_not, Bool.not_eq_false'] at h6
       simp only [decide_eq_false_iff_not] at hfull
       exact ⟨(((s1.trans s2).trans s3).trans s4).trans s5, name, lo, hi, first, rfl, h6.1.1, by omega, by omega, by omega, hnm⟩
      ·rw [h6] at h; cases h
theorem sCmd_ok {m : Mdl} {ts : List Tok} {p : Mdl × List Tok} (he : Pa.Ends ts) (h : sCmd m ts = .ok p) : Shorter ts p.2 ∧
  ∃ g r1 r2 sets r3, m.2.2.2.2.length < 256 ∧ sExpr 2 m.1 ts = .ok (g, r1) ∧ Pa.Ends r2 ∧ sSets m.1 (r2.length + 1) [] r2 = .ok (sets, r3) ∧
   p.1 = (m.1, m.2.1, m.2.2.1, m.2.2.2.1, m.2.2.2.2 ++ [(IntKind.i64.wrap ((m.2.2.2.1.length : Int) - 1), g, sets)]) ∧ sSign [58] r1 = .ok r2 ∧ sSign [59] r3 = .ok p.2 := by
 unfold sCmd at h
 cases h0 : decide (256 ≤ (m.2.2.2.2.length : Int))
 case true => rw [h0] at h; cases h
 rw [h0] at h
 simp only [cond_false] at h
 simp only [decide_eq_false_iff_not] at h0
 cases h1 : sExpr 2 m.1 ts with
 | error e => rw [h1] at h; cases h
 | ok q1 =>
  obtain ⟨g, r1⟩ := q1
  rw [h1] at h
  simp only at h
  have s1 := (sExpr_ok he h1).1
  cases h2 : sSign [58] r1 with
  | error e => rw [h2] at h; cases h
  | ok r2 =>
   rw [h2] at h
   simp only at h
   have s2 := sSign_ok s1.1 h2
   cases h3 : sSets m.1 (r2.length + 1) [] r2 with
   | error e => rw [h3] at h; cases h
   | ok q3 =>
    obtain ⟨sets, r3⟩ := q3
    rw [h3] at h
    simp only at h
    have s3 := sSets_ok _ _ _ _ s2.1 h3
    cases h4 : sSign [59] r3 with
    | error e => rw [h4] at h; cases h
    | ok r4 =>
     rw [h4] at h
     cases h
     have s4 := sSign_ok s3.1 h4
     exact ⟨((s1.trans s2).trans s3).trans s4, g, r1, r2, sets, r3, by omega, rfl, s2.1, h3, rfl, h2, h4⟩
end Sy
end Go.Proofs.YtjdabjpjafkogaaDoor
namespace Go.Proofs.YtjdabjpjafkogaaDoor
namespace Pa
open Job
def szJ : Job → Nat
 | line _ => 0
 | loop _ a => a.sz
theorem sz_mk0 (k n a : Int) : (Ex.mk k n a []).sz = 1 := by simp [Ex.sz, szL]
theorem sz_mk1 (k n a : Int) (x : Ex) : (Ex.mk k n a [x]).sz = x.sz + 1 := by simp [Ex.sz, szL]
theorem sz_mk2 (k n a : Int) (x y : Ex) : (Ex.mk k n a [x, y]).sz = x.sz + y.sz + 1 := by simp [Ex.sz, szL]
theorem P.size {names : List Str} {j : Job} {d : Int} {ts : List Tok} {r : Out} (h : P names j d ts r) : ∀ p, r = .ok p → p.1.sz + p.2.length ≤ ts.length + szJ j := by
 induction h with
 | big => intro p h; cases h
 | @pre s d t ts k r h0 h1 h2 h3 ih =>
  intro p h
  cases r with
  | error e => cases h
  | ok q => have := ih q rfl; cases h; simp only [szJ, sz_mk1, List.length_cons] at *; omega
 | other h0 h1 h2 h3 ih => intro p h; exact ih p h
 | rErr => intro p h; cases h
 | rOne h0 h1 h2 h3 ih => intro p h; exact ih p h
 | @rTwo s d ts a t ts' k r h0 h1 h2 h3 h4 ih ih2 =>
  intro p h
  cases r with
  | error e => cases h
  | ok q => have i1 := ih _ rfl; have i2 := ih2 q rfl; cases h; simp only [szJ, sz_mk2, List.length_cons] at *; omega
 | lErr => intro p h; cases h
 | lGo h0 h1 h2 ih ih2 => intro p h; have i1 := ih _ rfl; have i2 := ih2 p h; simp only [szJ] at *; omega
 | lpEnd h0 => intro p h; cases h; simp only [szJ]; omega
 | lpErr => intro p h; cases h
 | lpGo h0 h1 h2 ih ih2 => intro p h; have i1 := ih _ rfl; have i2 := ih2 p h; simp only [szJ, sz_mk2, List.length_cons] at *; omega
 | oWord h0 h1 => intro p h; cases h; simp only [szJ, sz_mk0, List.length_cons]; omega
 | oNum h0 h1 h2 => intro p h; cases h; simp only [szJ, sz_mk0, List.length_cons]; omega
 | oVar h0 h1 h2 h3 h4 => intro p h; cases h; simp only [szJ, sz_mk0, List.length_cons]; omega
 | oName => intro p h; cases h
 | oOpen h0 h1 h2 h3 h4 h5 h6 ih => intro p h; cases h; have := ih _ rfl; simp only [szJ, List.length_cons] at *; omega
 | oErr => intro p h; cases h
 | oClose => intro p h; cases h
 | oForm => intro p h; cases h
theorem P.suf {names : List Str} {j : Job} {d : Int} {ts : List Tok} {r : Out} (h : P names j d ts r) : ∀ p, r = .ok p → p.2 <:+ ts := by
 induction h with
 | big => intro p h; cases h
 | @pre s d t ts k r h0 h1 h2 h3 ih =>
  intro p h
  cases r with
  | error e => cases h
  | ok q => have := ih q rfl; cases h; exact this.trans (List.suffix_cons _ _)
 | other h0 h1 h2 h3 ih => exact ih
 | rErr => intro p h; cases h
 | rOne h0 h1 h2 h3 ih => exact ih
 | @rTwo s d ts a t ts' k r h0 h1 h2 h3 h4 ih ih2 =>
  intro p h
  cases r with
  | error e => cases h
  | ok q => have i1 := ih _ rfl; have i2 := ih2 q rfl; cases h; exact (i2.trans (List.suffix_cons _ _)).trans i1
 | lErr => intro p h; cases h
 | lGo h0 h1 h2 ih ih2 => intro p h; exact (ih2 p h).trans (ih _ rfl)
 | lpEnd h0 => intro p h; cases h; exact List.suffix_refl _
 | lpErr => intro p h; cases h
 | lpGo h0 h1 h2 ih ih2 => intro p h; exact ((ih2 p h).trans (ih _ rfl)).trans (List.suffix_cons _ _)
 | oWord h0 h1 => intro p h; cases h; exact List.suffix_cons _ _
 | oNum h0 h1 h2 => intro p h; cases h; exact List.suffix_cons _ _
 | oVar h0 h1 h2 h3 h4 => intro p h; cases h; exact List.suffix_cons _ _
 | oName => intro p h; cases h
 | oOpen h0 h1 h2 h3 h4 h5 h6 ih => intro p h; cases h; exact ((List.suffix_cons _ _).trans (ih _ rfl)).trans (List.suffix_cons _ _)
 | oErr => intro p h; cases h
 | oClose => intro p h; cases h
 | oForm => intro p h; cases h
def NumOk (t : Tok) : Prop := t.1 = 2 → 0 ≤ t.2.2.1 ∧ t.2.2.1 ≤ 1073741824
theorem opOf_mem {s : Nat} {t : Tok} {k : Int} (h : opOf s t = some k) : k ∈ ops s := by
 unfold opOf fnd at h
 cases hs : sgn t
 ·rw [hs] at h; cases h
 ·rw [hs] at h; exact List.mem_of_find?_eq_some h
theorem one_may {s : Nat} (hk : kd s = 0) {k : Int} (h : k ∈ ops s) (vars : Int) : mayH k 0 1 (wantOf k) vars = true := by
 have : s = 6 ∨ s = 10 := by
  unfold kd at hk
  split at hk <;> first | (cases hk; done) | simp
 rcases this with rfl | rfl
 ·simp only [ops, List.mem_cons, List.not_mem_nil, or_false] at h
  rcases h with rfl | rfl | rfl | rfl <;> rfl
 ·simp only [ops, List.mem_cons, List.not_mem_nil, or_false] at h
  subst h; rfl
theorem two_may {s : Nat} (hk : kd s = 1 ∨ kd s = 2) {k : Int} (h : k ∈ ops s) (vars : Int) : mayH k 0 2 (wantOf k) vars = true := by
 have : s = 1 ∨ s = 2 ∨ s = 3 ∨ s = 4 ∨ s = 5 ∨ s = 7 ∨ s = 8 ∨ s = 9 := by
  unfold kd at hk
  split at hk <;> first | (rcases hk with hk | hk <;> cases hk; done) | simp
 rcases this with rfl | rfl | rfl | rfl | rfl | rfl | rfl | rfl <;> simp only [ops, List.mem_cons, List.not_mem_nil, or_false] at h
 ·subst h; rfl
 ·subst h; rfl
 ·subst h; rfl
 ·subst h; rfl
 ·rcases h with rfl | rfl <;> rfl
 ·rcases h with rfl | rfl | rfl | rfl | rfl | rfl <;> rfl
 ·rcases h with rfl | rfl <;> rfl
 ·subst h; rfl
theorem word_may {s : Nat} (hk : kd s = 3) {k : Int} (h : k ∈ ops s) (vars : Int) : mayH k 0 0 (wantOf k) vars = true := by
 have : s = 11 := by
  unfold kd at hk
  split at hk <;> first | (cases hk; done) | simp
 subst this
 simp only [ops, List.mem_cons, List.not_mem_nil, or_false] at h
 rcases h with rfl | rfl <;> rfl
theorem may_mk0 {vars k n a : Int} (h : mayH k n 0 (wantOf k) vars = true) : mayE vars (.mk k n a []) = true := by
 simp only [mayE, mayL, List.length_nil]; rw [show ((0 : Nat) : Int) = 0 from rfl, h]; rfl
theorem may_mk1 {vars k a : Int} {x : Ex} (h : mayH k 0 1 (wantOf k) vars = true) (hx : mayE vars x = true) : mayE vars (.mk k 0 a [x]) = true := by
 simp only [mayE, mayL, List.length_cons, List.length_nil]; rw [show ((0 + 1 : Nat) : Int) = 1 from rfl, h, hx]; rfl
theorem may_mk2 {vars k a : Int} {x y : Ex} (h : mayH k 0 2 (wantOf k) vars = true) (hx : mayE vars x = true) (hy : mayE vars y = true) : mayE vars (.mk k 0 a [x, y]) = true := by
 simp only [mayE, mayL, List.length_cons, List.length_nil]; rw [show ((0 + 1 + 1 : Nat) : Int) = 2 from rfl, h, hx, hy]; rfl
def mayJ (vars : Int) : Job → Bool
 | line _ => true
 | loop _ a => mayE vars a
def okJ : Job → Prop
 | line _ => True
 | loop s _ => kd s = 2
theorem at_lt {names : List Str} {v : Str} {i : Nat} (h : at_ names v = some i) : i < names.length := by
 unfold at_ at h
 have := List.findIdx?_eq_some_iff_getElem.1 h
 exact this.1
theorem P.may {names : List Str} {j : Job} {d : Int} {ts : List Tok} {r : Out} (h : P names j d ts r) : okJ j → (∀ t ∈ ts, NumOk t) → mayJ names.length j = true → ∀ p, r = .ok p → mayE names.length p.1 = true := by
 induction h with
 | big => intro _ _ _ p h; cases h
 | @pre s d t ts k r h0 h1 h2 h3 ih =>
  intro _ hq _ p h
  cases r with
  | error e => cases h
  | ok q => have := ih trivial (fun t ht => hq t (List.mem_cons_of_mem _ ht)) rfl q rfl; cases h; exact may_mk1 (one_may h0 (opOf_mem h2) _) this
 | other h0 h1 h2 h3 ih => intro _ hq hj p h; exact ih trivial hq rfl p h
 | rErr => intro _ _ _ p h; cases h
 | rOne h0 h1 h2 h3 ih => intro _ hq hj p h; exact ih trivial hq rfl _ h
 | @rTwo s d ts a t ts' k r h0 h1 h2 h3 h4 ih ih2 =>
  intro _ hq _ p h
  cases r with
  | error e => cases h
  | ok q =>
   have i1 := ih trivial hq rfl _ rfl
   have hs := h2.suf _ rfl
   have i2 := ih2 trivial (fun t ht => hq t (hs.mem (List.mem_cons_of_mem _ ht))) rfl q rfl
   cases h
   exact may_mk2 (two_may (.inl h0) (opOf_mem h3) _) i1 i2
 | lErr => intro _ _ _ p h; cases h
 | lGo h0 h1 h2 ih ih2 =>
  intro _ hq _ p h
  have i1 := ih trivial hq rfl _ rfl
  have hs := h1.suf _ rfl
  exact ih2 h0 (fun t ht => hq t (hs.mem ht)) i1 p h
 | lpEnd h0 => intro _ hq hj p h; cases h; exact hj
 | lpErr => intro _ _ _ p h; cases h
 | @lpGo s a d t ts k b ts' r h0 h1 h2 ih ih2 =>
  intro ho hq hj p h
  have i1 := ih trivial (fun t ht => hq t (List.mem_cons_of_mem _ ht)) rfl _ rfl
  have hs := h1.suf _ rfl
  exact ih2 ho (fun t ht => hq t (List.mem_cons_of_mem _ (hs.mem ht))) (may_mk2 (a := t.2.2.2) (two_may (.inr ho) (opOf_mem h0) _) hj i1) p h
 | oWord h0 h1 => intro _ hq _ p h; cases h; exact may_mk0 (word_may h0 (opOf_mem h1) _)
 | @oNum s d t ts h0 h1 h2 =>
  intro _ hq _ p h
  cases h
  obtain ⟨n0, n1⟩ := hq t (List.mem_cons_self ..) (beq_iff_eq.1 h2)
  refine may_mk0 ?_
  simp only [mayH, wantOf]
  have e1 : decide (t.2.2.1 < 0) = false := decide_eq_false (by omega)
  have e2 : decide (1073741824 < t.2.2.1) = false := decide_eq_false (by omega)
  rw [e1, e2]; rfl
 | @oVar s d t ts i h0 h1 h2 h3 h4 =>
  intro _ hq _ p h
  cases h
  have hlt := at_lt h4
  refine may_mk0 ?_
  simp only [mayH, wantOf]
  have e1 : decide ((i : Int) < 0) = false := decide_eq_false (by omega)
  have e2 : decide ((names.length : Int) ≤ (i : Int)) = false := decide_eq_false (by omega)
  rw [e1, e2]; rfl
 | oName => intro _ _ _ p h; cases h
 | @oOpen s d t ts a c ts' h0 h1 h2 h3 h4 h5 h6 ih => intro _ hq _ p h; cases h; exact ih trivial (fun t ht => hq t (List.mem_cons_of_mem _ ht)) rfl (a, c :: ts') rfl
 | oErr => intro _ _ _ p h; cases h
 | oClose => intro _ _ _ p h; cases h
 | oForm => intro _ _ _ p h; cases h
end Pa
end Go.Proofs.YtjdabjpjafkogaaDoor
namespace Go.Proofs.YtjdabjpjafkogaaDoor
theorem RKey_eq (name : Str) : scrutinyref13_Key name = some (keysT.contains name) := by
 unfold scrutinyref13_Key scrutinyref13_Key_K1 keysT
 simp only [List.contains_cons, List.contains_nil, Bool.or_false]
 cases (name == [116, 114, 117, 101])
 case true => rfl
 cases (name == [102, 97, 108, 115, 101])
 case true => rfl
 cases (name == [88])
 case true => rfl
 cases (name == [70])
 case true => rfl
 cases (name == [71])
 case true => rfl
 cases (name == [85])
 case true => rfl
 cases (name == [82])
 case true => rfl
 cases (name == [118, 97, 114])
 case true => rfl
 cases (name == [112, 114, 111, 99]) <;> rfl
end Go.Proofs.YtjdabjpjafkogaaDoor
namespace Go.Proofs.YtjdabjpjafkogaaDoor
namespace Pa
open Job
def isLet (c : UInt8) : Bool := (decide (97 ≤ c) && decide (c ≤ 122)) || (decide (65 ≤ c) && decide (c ≤ 90)) || c == 95
def TokOk (t : Tok) : Prop := (t.1 = 1 ∧ ∃ c s, t.2.1 = c :: s ∧ isLet c = true) ∨ t.1 = 2 ∨ (t.1 = 3 ∧ ∀ c s, t.2.1 = c :: s → isLet c = false) ∨ t.1 = 4
def goodT (w : Bool) (x : Str) : Bool := match x with
 | [] => false
 | c :: _ => isLet c == w && keysT.contains x == w
theorem hitL {t : Tok} (h : TokOk t) {x : Str} (hx : goodT true x = true) : (sgn t && (x == t.2.1)) = ((t.1 == 1) && (t.2.1 == x)) := by
 obtain ⟨k, y, n, p⟩ := t
 simp only [TokOk] at h
 simp only [sgn, key]
 by_cases he : y = x
 ·subst he
  rcases h with ⟨rfl, c, s, hy, hc⟩ | rfl | ⟨rfl, h3⟩ | rfl
  ·subst hy
   simp only [goodT, Bool.and_eq_true, beq_iff_eq] at hx
   rw [hx.2]; simp
  ·simp
  ·cases y with
   | nil => cases hx
   | cons c s =>
    simp only [goodT, Bool.and_eq_true, beq_iff_eq] at hx
    rw [h3 c s rfl] at hx; cases hx.1
  ·simp
 ·have e1 : (x == y) = false := beq_eq_false_iff_ne.2 (fun e => he e.symm)
  have e2 : (y == x) = false := beq_eq_false_iff_ne.2 he
  rw [e1, e2]; simp
theorem hitS {t : Tok} (h : TokOk t) {x : Str} (hx : goodT false x = true) : (sgn t && (x == t.2.1)) = ((t.1 == 3) && (t.2.1 == x)) := by
 obtain ⟨k, y, n, p⟩ := t
 simp only [TokOk] at h
 simp only [sgn, key]
 by_cases he : y = x
 ·subst he
  rcases h with ⟨rfl, c, s, hy, hc⟩ | rfl | ⟨rfl, h3⟩ | rfl
  ·subst hy
   simp only [goodT, Bool.and_eq_true, beq_iff_eq] at hx
   rw [hx.1] at hc; cases hc
  ·simp
  ·simp
  ·simp
 ·have e1 : (x == y) = false := beq_eq_false_iff_ne.2 (fun e => he e.symm)
  have e2 : (y == x) = false := beq_eq_false_iff_ne.2 he
  rw [e1, e2]; simp
def may24 (t : Tok) : Bool := (t.1 != 2) && (t.1 != 4)
theorem hit {t : Tok} (h : TokOk t) {x : Str} {w : Bool} (hx : goodT w x = true) : (sgn t && (x == t.2.1)) = (may24 t && (t.2.1 == x)) := by
 by_cases he : t.2.1 = x
 ·rcases h with ⟨h1, c, s, hy, hc⟩ | h2 | ⟨h3, h4⟩ | h4
  ·rw [he] at hy
   have hk : keysT.contains x = true := by
    subst hy
    simp only [goodT, Bool.and_eq_true, beq_iff_eq] at hx
    rw [hx.2, ← hx.1]; exact hc
   have hm : x ∈ keysT := by simpa using hk
   simp [sgn, key, may24, h1, he, hm]
  ·simp [sgn, may24, h2]
  ·simp [sgn, may24, h3, he]
  ·simp [sgn, may24, h4]
 ·have e1 : (x == t.2.1) = false := beq_eq_false_iff_ne.2 (fun e => he e.symm)
  have e2 : (t.2.1 == x) = false := beq_eq_false_iff_ne.2 he
  rw [e1, e2]; simp
theorem fnd_nil (t : Tok) : fnd [] t = none := by unfold fnd; cases sgn t <;> rfl
theorem fnd_cons (o : Int) (l : List Int) (t : Tok) : fnd (o :: l) t = bif (sgn t && (txtT o == t.2.1)) then some o else fnd l t := by
 unfold fnd
 cases sgn t
 ·rfl
 ·simp only [cond_true, List.find?_cons, Bool.true_and]
  cases txtT o == t.2.1 <;> rfl
def opt (o : Option Int) : Int := o.getD 0
theorem op_1 {t : Tok} (h : TokOk t) : scrutinyref13_op t 1 = some (opt (opOf 1 t)) := by
 have e := hit h (x := txtT 19) (w := false) rfl
 simp only [opOf, ops, fnd_cons, fnd_nil, e]
 show (bif may24 t then (bif (t.2.1 == txtT 19) then some 19 else some 0) else some 0) = _
 cases may24 t <;> cases (t.2.1 == txtT 19) <;> rfl
theorem op_2 {t : Tok} (h : TokOk t) : scrutinyref13_op t 2 = some (opt (opOf 2 t)) := by
 have e := hit h (x := txtT 18) (w := false) rfl
 simp only [opOf, ops, fnd_cons, fnd_nil, e]
 show (bif may24 t then (bif (t.2.1 == txtT 18) then some 18 else some 0) else some 0) = _
 cases may24 t <;> cases (t.2.1 == txtT 18) <;> rfl
theorem op_3 {t : Tok} (h : TokOk t) : scrutinyref13_op t 3 = some (opt (opOf 3 t)) := by
 have e := hit h (x := txtT 17) (w := false) rfl
 simp only [opOf, ops, fnd_cons, fnd_nil, e]
 show (bif may24 t then (bif (t.2.1 == txtT 17) then some 17 else some 0) else some 0) = _
 cases may24 t <;> cases (t.2.1 == txtT 17) <;> rfl
theorem op_4 {t : Tok} (h : TokOk t) : scrutinyref13_op t 4 = some (opt (opOf 4 t)) := by
 have e := hit h (x := txtT 16) (w := false) rfl
 simp only [opOf, ops, fnd_cons, fnd_nil, e]
 show (bif may24 t then (bif (t.2.1 == txtT 16) then some 16 else some 0) else some 0) = _
 cases may24 t <;> cases (t.2.1 == txtT 16) <;> rfl
theorem op_5 {t : Tok} (h : TokOk t) : scrutinyref13_op t 5 = some (opt (opOf 5 t)) := by
 have e := hit h (x := txtT 23) (w := true) rfl
 have e2 := hit h (x := txtT 24) (w := true) rfl
 simp only [opOf, ops, fnd_cons, fnd_nil, e, e2]
 show (bif may24 t then (bif (t.2.1 == txtT 23) then some 23 else (bif (t.2.1 == txtT 24) then some 24 else some 0)) else some 0) = _
 cases may24 t <;> cases (t.2.1 == txtT 23) <;> cases (t.2.1 == txtT 24) <;> rfl
theorem op_8 {t : Tok} (h : TokOk t) : scrutinyref13_op t 8 = some (opt (opOf 8 t)) := by
 have e := hit h (x := txtT 3) (w := false) rfl
 have e2 := hit h (x := txtT 4) (w := false) rfl
 simp only [opOf, ops, fnd_cons, fnd_nil, e, e2]
 show (bif may24 t then (bif (t.2.1 == txtT 3) then some 3 else (bif (t.2.1 == txtT 4) then some 4 else some 0)) else some 0) = _
 cases may24 t <;> cases (t.2.1 == txtT 3) <;> cases (t.2.1 == txtT 4) <;> rfl
theorem op_9 {t : Tok} (h : TokOk t) : scrutinyref13_op t 9 = some (opt (opOf 9 t)) := by
 have e := hit h (x := txtT 5) (w := false) rfl
 simp only [opOf, ops, fnd_cons, fnd_nil, e]
 show (bif may24 t then (bif (t.2.1 == txtT 5) then some 5 else some 0) else some 0) = _
 cases may24 t <;> cases (t.2.1 == txtT 5) <;> rfl
theorem op_7 {t : Tok} (h : TokOk t) : scrutinyref13_op t 7 = some (opt (opOf 7 t)) := by
 have e1 := hit h (x := txtT 7) (w := false) rfl
 have e2 := hit h (x := txtT 8) (w := false) rfl
 have e3 := hit h (x := txtT 9) (w := false) rfl
 have e4 := hit h (x := txtT 10) (w := false) rfl
 have e5 := hit h (x := txtT 11) (w := false) rfl
 have e6 := hit h (x := txtT 12) (w := false) rfl
 simp only [opOf, ops, fnd_cons, fnd_nil, e1, e2, e3, e4, e5, e6]
 obtain ⟨m, hm⟩ : ∃ m, FUEL = m + 7 := ⟨18446744073709551609, rfl⟩
 unfold scrutinyref13_op
 rw [hm]
 clear hm
 have hq : (letv (t.1 != 2) fun b5 => letv (t.1 != 4) fun b7 => letv (b5 && b7) fun b9 => bif b9 then fixN (scrutinyref13_op_L1 t) (m + 7) 0 else some 0) = (bif may24 t then fixN (scrutinyref13_op_L1 t) (m + 7) 0 else some 0) := rfl
 refine Eq.trans (b := bif may24 t then fixN (scrutinyref13_op_L1 t) (m + 7) 0 else some 0) rfl ?_
 clear hq
 have s0 : fixN (scrutinyref13_op_L1 t) (m + 7) 0 = bif (t.2.1 == txtT 7) then some 7 else fixN (scrutinyref13_op_L1 t) (m + 6) 1 := rfl
 have s1 : fixN (scrutinyref13_op_L1 t) (m + 6) 1 = bif (t.2.1 == txtT 8) then some 8 else fixN (scrutinyref13_op_L1 t) (m + 5) 2 := rfl
 have s2 : fixN (scrutinyref13_op_L1 t) (m + 5) 2 = bif (t.2.1 == txtT 9) then some 9 else fixN (scrutinyref13_op_L1 t) (m + 4) 3 := rfl
 have s3 : fixN (scrutinyref13_op_L1 t) (m + 4) 3 = bif (t.2.1 == txtT 10) then some 10 else fixN (scrutinyref13_op_L1 t) (m + 3) 4 := rfl
 have s4 : fixN (scrutinyref13_op_L1 t) (m + 3) 4 = bif (t.2.1 == txtT 11) then some 11 else fixN (scrutinyref13_op_L1 t) (m + 2) 5 := rfl
 have s5 : fixN (scrutinyref13_op_L1 t) (m + 2) 5 = bif (t.2.1 == txtT 12) then some 12 else fixN (scrutinyref13_op_L1 t) (m + 1) 6 := rfl
 have s6 : fixN (scrutinyref13_op_L1 t) (m + 1) 6 = some 0 := rfl
 rw [s0, s1, s2, s3, s4, s5, s6]
 cases may24 t
 ·rfl
 cases (t.2.1 == txtT 7)
 case true => rfl
 cases (t.2.1 == txtT 8)
 case true => rfl
 cases (t.2.1 == txtT 9)
 case true => rfl
 cases (t.2.1 == txtT 10)
 case true => rfl
 cases (t.2.1 == txtT 11)
 case true => rfl
 cases (t.2.1 == txtT 12) <;> rfl
theorem op_eq {t : Tok} (h : TokOk t) {s : Nat} (h1 : 1 ≤ s) (h9 : s ≤ 9) (h6 : s ≠ 6) : scrutinyref13_op t (s : Int) = some (opt (opOf s t)) := by
 have : s = 1 ∨ s = 2 ∨ s = 3 ∨ s = 4 ∨ s = 5 ∨ s = 7 ∨ s = 8 ∨ s = 9 := by omega
 rcases this with rfl | rfl | rfl | rfl | rfl | rfl | rfl | rfl
 ·exact op_1 h
 ·exact op_2 h
 ·exact op_3 h
 ·exact op_4 h
 ·exact op_5 h
 ·exact op_7 h
 ·exact op_8 h
 ·exact op_9 h
theorem opOf_pos {s : Nat} {t : Tok} {k : Int} (h : opOf s t = some k) : (k == 0) = false := by
 have key : ∀ l : List Int, (l.all fun o => o != 0) = true → fnd l t = some k → (k == 0) = false := fun l hl h => by
  unfold fnd at h
  cases hs : sgn t
  ·rw [hs] at h; cases h
  ·rw [hs] at h
   have := List.mem_of_find?_eq_some h
   have := List.all_eq_true.1 hl k this
   simpa using this
 refine key (ops s) ?_ h
 match s with
 | 0 => rfl
 | 1 => rfl
 | 2 => rfl
 | 3 => rfl
 | 4 => rfl
 | 5 => rfl
 | 6 => rfl
 | 7 => rfl
 | 8 => rfl
 | 9 => rfl
 | 10 => rfl
 | 11 => rfl
 | n + 12 => rfl
/-! what the parser hands back -/
abbrev R4 := Ex × Int × Int × Int
abbrev LF := (Int × Int × List Tok × Int × List Str × Int × Int) → Option R4
def RR (l : List Tok) (r : Out) (m : Option R4) : Prop := match r with
 | .ok (x, ts) => ∃ a : Nat, l.drop a = ts ∧ m = some (x, (a : Int), 0, 0)
 | .error (b, p) => ∃ x a, m = some (x, a, b, p)
theorem err_ne0 {names : List Str} {j : Job} {d : Int} {ts : List Tok} {b p : Int} (h : P names j d ts (.error (b, p))) : (b != 0) = true := by
 rcases h.err _ rfl with h | h | h <;> (simp only at h; subst h; rfl)
theorem drop_at {l : List Tok} {a : Nat} {t : Tok} {ts : List Tok} (h : l.drop a = t :: ts) : idx l (a : Int) = some t ∧ l.drop (a + 1) = ts ∧ a < l.length ∧ t ∈ l := by
 have hlt : a < l.length := by
  rcases Nat.lt_or_ge a l.length with h1 | h1
  ·exact h1
  ·rw [List.drop_of_length_le h1] at h; cases h
 rw [List.drop_eq_getElem_cons hlt] at h
 simp only [List.cons.injEq] at h
 refine ⟨by simp [idx, List.getElem?_eq_getElem hlt, h.1], h.2, hlt, by rw [← h.1]; exact List.getElem_mem ..⟩
theorem wrap1 {a : Nat} (h : a < 4611686018427387904) : IntKind.i64.wrap ((a : Int) + 1) = ((a + 1 : Nat) : Int) := by rw [w64 (by omega)]; omega
theorem fail0 {l : List Tok} {a : Nat} {t : Tok} (h : idx l (a : Int) = some t) (b : Int) (names : List Str) (p : Int) : scrutinyref13_look_fail_s3 b l (a : Int) names 0 p = some (.mk 0 0 0 [], b, t.2.2.2) := by
 unfold scrutinyref13_look_fail_s3
 rw [h]; rfl
def atFrom (names : List Str) (v : Str) (i : Nat) : Option Nat := ((names.drop i).findIdx? (fun x => v == x)).map (· + i)
theorem atFrom_zero (names : List Str) (v : Str) : atFrom names v 0 = at_ names v := by
 unfold atFrom at_
 simp
theorem one_loop {l : List Tok} {a : Nat} {t : Tok} {names : List Str} (hn : names.length < 4611686018427387904) (ha : a < 4611686018427387904) (ht : idx l (a : Int) = some t) :
  ∀ (m i M : Nat), names.length - i ≤ m → i ≤ names.length → m < M →
   fixN (scrutinyref13_look_one_s3_L1 l (a : Int) names 0 0 t) M (i : Int) =
    match atFrom names t.2.1 i with
    | some j => some (.mk 2 (j : Int) t.2.2.2 [], ((a + 1 : Nat) : Int), 0, 0)
    | none => some (.mk 0 0 0 [], (a : Int), 3, t.2.2.2) := by
 intro m
 induction m with
 | zero =>
  intro i M h1 h2 h3
  obtain ⟨M, rfl⟩ : ∃ k, M = k + 1 := ⟨M - 1, by omega⟩
  have hi : i = names.length := by omega
  subst hi
  rw [fixN_succ]
  have e : atFrom names t.2.1 names.length = none := by unfold atFrom; simp
  rw [e]
  simp only [scrutinyref13_look_one_s3_L1, decide_eq_false (show ¬ ((names.length : Int) < (List.length names : Int)) by omega), cond_false, fail0 ht, bind_s]
 | succ m ih =>
  intro i M h1 h2 h3
  obtain ⟨M, rfl⟩ : ∃ k, M = k + 1 := ⟨M - 1, by omega⟩
  rw [fixN_succ]
  by_cases hi : i < names.length
  ·have hd : names.drop i = names[i] :: names.drop (i + 1) := List.drop_eq_getElem_cons hi
   have hx : idx names (i : Int) = some names[i] := by simp [idx, List.getElem?_eq_getElem hi]
   simp only [scrutinyref13_look_one_s3_L1, decide_eq_true (show ((i : Nat) : Int) < (List.length names : Int) by omega), cond_true, hx, bind_s, wrap1 ha, wrap1 (show i < 4611686018427387904 by omega)]
   have e : atFrom names t.2.1 i = bif (names[i] == t.2.1) then some i else atFrom names t.2.1 (i + 1) := by
    unfold atFrom
    rw [hd, List.findIdx?_cons]
    have : (t.2.1 == names[i]) = (names[i] == t.2.1) := by
     by_cases h : t.2.1 = names[i]
     ·rw [h]
     ·rw [beq_eq_false_iff_ne.2 h, beq_eq_false_iff_ne.2 (fun e => h e.symm)]
    rw [this]
    cases (names[i] == t.2.1)
    ·simp only [cond_false, Bool.false_eq_true, if_false, Option.map_map]
     congr 1
     funext x
     simp only [Function.comp]; omega
    ·simp
   rw [e]
   cases (names[i] == t.2.1)
   ·simp only [cond_false]
    exact ih (i + 1) M (by omega) (by omega) (by omega)
   ·rfl
  ·have hi : i = names.length := by omega
   subst hi
   have e : atFrom names t.2.1 names.length = none := by unfold atFrom; simp
   rw [e]
   simp only [scrutinyref13_look_one_s3_L1, decide_eq_false (show ¬ ((names.length : Int) < (List.length names : Int)) by omega), cond_false, fail0 ht, bind_s]
def SR (names : List Str) (l : List Tok) (k : LF) (s : Nat) (d : Int) (a : Nat) : Prop := ∃ r, P names (line s) d (l.drop a) r ∧ RR l r (k ((s : Int), d, l, (a : Int), names, 0, 0))
theorem one_ok {names : List Str} (hn : names.length < 4611686018427387904) {l : List Tok} (hl : l.length < 4611686018427387904) (htok : ∀ t ∈ l, TokOk t) {k : LF} {d : Int} {a : Nat} (he : Ends (l.drop a))
  (hk : Ends (l.drop (a + 1)) → SR names l k 1 d (a + 1)) : ∃ r, P names (line 11) d (l.drop a) r ∧ RR l r (scrutinyref13_look_one_s3 k d l (a : Int) names 0 0) := by
 obtain ⟨t, ts, hts⟩ := he.ne
 obtain ⟨hx, hd1, hlt, hmem⟩ := drop_at hts
 have hok := htok t hmem
 have ha : a < 4611686018427387904 := by omega
 have eT := hitL hok (x := txtT 13) rfl
 have eF := hitL hok (x := txtT 14) rfl
 have h11 : opOf 11 t = bif ((t.1 == 1) && (t.2.1 == txtT 13)) then some 13 else bif ((t.1 == 1) && (t.2.1 == txtT 14)) then some 14 else none := by
  simp only [opOf, ops, fnd_cons, fnd_nil, eT, eF]
 rw [hts]
 unfold scrutinyref13_look_one_s3
 simp only [hx, bind_s, letv_e, RKey_eq, wrap1 ha]
 cases h2 : (t.1 == 2)
 case true =>
  have h1 : (t.1 == 1) = false := by have := beq_iff_eq.1 h2; rw [this]; rfl
  exact ⟨_, .oNum rfl (by rw [h11, h1]; rfl) h2, a + 1, hd1, rfl⟩
 simp only [cond_false]
 cases hT : ((t.1 == 1) && (t.2.1 == txtT 13))
 case true =>
  rw [show ((t.1 == 1) && (t.2.1 == [116, 114, 117, 101])) = true from hT]
  exact ⟨_, .oWord rfl (by rw [h11, hT]; rfl), a + 1, hd1, rfl⟩
 rw [show ((t.1 == 1) && (t.2.1 == [116, 114, 117, 101])) = false from hT]
 simp only [cond_false]
 cases hF : ((t.1 == 1) && (t.2.1 == txtT 14))
 case true =>
  rw [show ((t.1 == 1) && (t.2.1 == [102, 97, 108, 115, 101])) = true from hF]
  exact ⟨_, .oWord rfl (by rw [h11, hT, hF]; rfl), a + 1, hd1, rfl⟩
 rw [show ((t.1 == 1) && (t.2.1 == [102, 97, 108, 115, 101])) = false from hF]
 simp only [cond_false]
 have hno : opOf 11 t = none := by rw [h11, hT, hF]; rfl
 cases hN : ((t.1 == 1) && !(keysT.contains t.2.1))
 case true =>
  have hname : name_ t = true := hN
  simp only [cond_true]
  have := one_loop hn ha hx names.length 0 FUEL (by omega) (by omega) (by show names.length < 2 ^ 64; omega)
  rw [show ((0 : Nat) : Int) = 0 from rfl, atFrom_zero] at this
  rw [this]
  cases hat : at_ names t.2.1 with
  | some j => exact ⟨_, .oVar rfl hno h2 hname hat, a + 1, hd1, rfl⟩
  | none => exact ⟨_, .oName rfl hno h2 hname hat, _, _, rfl⟩
 have hname : name_ t = false := hN
 simp only [cond_false]
 cases hO : (((t.1 != 3) || (t.2.1 != [40])) : Bool)
 case true =>
  have hop : open_ t = false := by
   unfold open_
   simp only [Bool.or_eq_true, bne_iff_ne] at hO
   rcases hO with h | h
   ·rw [beq_eq_false_iff_ne.2 h]; rfl
   ·rw [beq_eq_false_iff_ne.2 h, Bool.and_false]
  simp only [cond_true, fail0 hx, bind_s]
  exact ⟨_, .oForm rfl hno h2 hname hop, _, _, rfl⟩
 have h3 : t.1 = 3 ∧ t.2.1 = [40] := by
  simp only [Bool.or_eq_false_iff, bne_eq_false_iff_eq] at hO
  exact hO
 have hop : open_ t = true := by unfold open_; rw [h3.1, h3.2]; rfl
 have he1 : Ends ts := by rw [hts] at he; exact he.tail (by rw [h3.1]; decide)
 obtain ⟨r, hr, hm⟩ := hk (by rw [hd1]; exact he1)
 rw [hd1] at hr
 simp only [cond_false]
 match r, hr, hm with
 | .error (b, p), hr, ⟨x, a', hm⟩ =>
  have hb := err_ne0 hr
  rw [show ((1 : Nat) : Int) = 1 from rfl] at hm
  rw [hm, bind_s]
  simp only [hb, cond_true]
  exact ⟨_, .oErr rfl hno h2 hname hop hr, _, _, rfl⟩
 | .ok (x, ts'), hr, ⟨a', ha', hm⟩ =>
  rw [show ((1 : Nat) : Int) = 1 from rfl] at hm
  obtain ⟨he', hsh⟩ := hr.ends he1 _ rfl
  obtain ⟨c, ts2, hc⟩ := he'.ne
  simp only at hc
  subst hc
  obtain ⟨hxc, hdc, hltc, hmemc⟩ := drop_at ha'
  rw [hm, bind_s]
  simp only [bne_self_eq_false, cond_false, hxc, bind_s, wrap1 (show a' < 4611686018427387904 by omega)]
  by_cases hc3 : c.1 = 3
  ·have e3 : (c.1 != 3) = false := by rw [hc3]; rfl
   simp only [e3, Bool.not_false, callG_tt, bind_s, Bool.false_or]
   cases hcl : (c.2.1 != [41])
   ·have : close_ c = true := by
     unfold close_
     rw [hc3, bne_eq_false_iff_eq.1 hcl]; rfl
    exact ⟨_, .oOpen rfl hno h2 hname hop hr this, a' + 1, hdc, rfl⟩
   ·have : close_ c = false := by
     unfold close_
     rw [beq_eq_false_iff_ne.2 (bne_iff_ne.1 hcl), Bool.and_false]
    simp only [cond_true, fail0 hxc, bind_s]
    exact ⟨_, .oClose rfl hno h2 hname hop hr this, _, _, rfl⟩
  ·have e3 : (c.1 != 3) = true := bne_iff_ne.2 hc3
   have : close_ c = false := by
    unfold close_
    rw [beq_eq_false_iff_ne.2 hc3]; rfl
   simp only [e3, Bool.not_true, callG_ff, Bool.true_or, cond_true, fail0 hxc, bind_s]
   exact ⟨_, .oClose rfl hno h2 hname hop hr this, _, _, rfl⟩
end Pa
end Go.Proofs.YtjdabjpjafkogaaDoor
namespace Go.Proofs.YtjdabjpjafkogaaDoor
namespace Pa
open Job
theorem ex_eta (e : Ex) : Ex.mk e.op e.n e.at_ e.l = e := by cases e; rfl
theorem bind_r4 (m : Option R4) : (m.bind fun r => some (r.1, r.2.1, r.2.2.1, r.2.2.2)) = m := by cases m <;> rfl
theorem RR.one {l : List Tok} {r : Out} {m : Option R4} (h : RR l r m) (ko pl : Int) : RR l (one' ko pl r) (m.bind fun r => some (.mk ko 0 pl [r.1], r.2.1, r.2.2.1, r.2.2.2)) := by
 match r, h with
 | .ok (x, ts), ⟨a, h1, h2⟩ => subst h2; exact ⟨a, h1, rfl⟩
 | .error (b, p), ⟨x, a, h2⟩ => subst h2; exact ⟨_, _, rfl⟩
theorem RR.two {l : List Tok} {r : Out} {m : Option R4} (h : RR l r m) (ko pl : Int) (y : Ex) : RR l (two' ko pl y r) (m.bind fun r => some (.mk ko 0 pl [y, r.1], r.2.1, r.2.2.1, r.2.2.2)) := by
 match r, h with
 | .ok (x, ts), ⟨a, h1, h2⟩ => subst h2; exact ⟨a, h1, rfl⟩
 | .error (b, p), ⟨x, a, h2⟩ => subst h2; exact ⟨_, _, rfl⟩
theorem counts_eq {s : Nat} (h1 : 1 ≤ s) (h : s ≤ 10) : scrutinyref13_counts (s : Int) = some (counted s) := by
 have : s = 1 ∨ s = 2 ∨ s = 3 ∨ s = 4 ∨ s = 5 ∨ s = 6 ∨ s = 7 ∨ s = 8 ∨ s = 9 ∨ s = 10 := by omega
 rcases this with rfl | rfl | rfl | rfl | rfl | rfl | rfl | rfl | rfl | rfl <;> rfl
theorem F_eq {k : LF} {s : Nat} (h1 : 1 ≤ s) (h : s ≤ 10) {d : Int} (h0 : 0 ≤ d) (h3 : d ≤ 320) (l : List Tok) (a : Int) (names : List Str) :
  scrutinyref13_look_line_s3_F k (s : Int) d l a names 0 0 = scrutinyref13_look_line_s3_K1 k (s : Int) l a names 0 0 (counted s) (dn s d) := by
 unfold scrutinyref13_look_line_s3_F
 simp only [bne_self_eq_false, cond_false, counts_eq h1 h, bind_s]
 have hw : IntKind.i64.wrap (d + 1) = d + 1 := w64 (by omega)
 unfold dn
 rw [hw]
 cases counted s <;> rfl
theorem deep_eq (s : Nat) (d : Int) : (counted s && decide (320 < dn s d)) = deepB s d := by
 unfold deepB dn
 cases counted s
 ·rfl
 ·simp only [cond_true, Bool.true_and]
  by_cases h : 320 ≤ d
  ·rw [decide_eq_true h, decide_eq_true (by omega)]
  ·rw [decide_eq_false h, decide_eq_false (by omega)]
theorem dn_ok {s : Nat} {d : Int} (h0 : 0 ≤ d) (h3 : d ≤ 320) (hd : deepB s d = false) : 0 ≤ dn s d ∧ dn s d ≤ 320 := by
 unfold deepB at hd
 unfold dn
 cases hc : counted s
 ·simpa using ⟨h0, h3⟩
 ·rw [hc] at hd
  simp only [Bool.true_and, decide_eq_false_iff_not] at hd
  simp only [cond_true]; omega
section
variable {names : List Str} {l : List Tok} {k : LF} {N : Nat}
variable (hn : names.length < 4611686018427387904) (hl : l.length < 4611686018427387904) (htok : ∀ t ∈ l, TokOk t)
variable (hk : ∀ (s : Nat) (d : Int) (a : Nat), 1 ≤ s → s ≤ 10 → 0 ≤ d → d ≤ 320 → Ends (l.drop a) → 12 * (l.drop a).length + (11 - s) < N → SR names l k s d a)
include hn hl htok hk
theorem pre6 {d : Int} {a : Nat} {t : Tok} {ts : List Tok} (hts : l.drop a = t :: ts) (he : Ends (t :: ts)) (h0 : 0 ≤ dn 6 d) (h3 : dn 6 d ≤ 320) (hd : deepB 6 d = false) (hN : 12 * (l.drop a).length + 5 < N + 1) :
  ∃ r, P names (line 6) d (t :: ts) r ∧ RR l r (scrutinyref13_look_line_s3_K2 k l (a : Int) names 0 0 (dn 6 d) t (bif ((t.1 == 3) && (t.2.1 == [33])) then 15 else 0)) := by
 have _ := hn
 obtain ⟨hx, hd1, hlt, hmem⟩ := drop_at hts
 have hok := htok t hmem
 have e15 := hitS hok (x := txtT 15) rfl
 have e20 := hitL hok (x := txtT 20) rfl
 have e21 := hitL hok (x := txtT 21) rfl
 have e22 := hitL hok (x := txtT 22) rfl
 have hop : opOf 6 t = bif ((t.1 == 3) && (t.2.1 == txtT 15)) then some 15 else bif ((t.1 == 1) && (t.2.1 == txtT 20)) then some 20 else bif ((t.1 == 1) && (t.2.1 == txtT 21)) then some 21 else bif ((t.1 == 1) && (t.2.1 == txtT 22)) then some 22 else none := by
  simp only [opOf, ops, fnd_cons, fnd_nil, e15, e20, e21, e22]
 have hK : scrutinyref13_look_line_s3_K2 k l (a : Int) names 0 0 (dn 6 d) t (bif ((t.1 == 3) && (t.2.1 == [33])) then 15 else 0) = scrutinyref13_look_line_s3_K5 k l (a : Int) names 0 0 (dn 6 d) t (opt (opOf 6 t)) := by
  rw [hop]
  unfold scrutinyref13_look_line_s3_K2 scrutinyref13_look_line_s3_K3 scrutinyref13_look_line_s3_K4
  simp only [letv_e]
  rw [show txtT 15 = [33] from rfl, show txtT 20 = [88] from rfl, show txtT 21 = [70] from rfl, show txtT 22 = [71] from rfl]
  by_cases q1 : t.1 = 1
  ·rw [q1]
   by_cases q : t.2.1 = [88]
   ·rw [q]; rfl
   ·by_cases q2 : t.2.1 = [70]
    ·rw [q2]; rfl
    ·by_cases q3 : t.2.1 = [71]
     ·rw [q3]; rfl
     ·rw [beq_eq_false_iff_ne.2 q, beq_eq_false_iff_ne.2 q2, beq_eq_false_iff_ne.2 q3]; rfl
  ·rw [beq_eq_false_iff_ne.2 q1]
   cases ((t.1 == 3) && (t.2.1 == [33])) <;> rfl
 rw [hK]
 unfold scrutinyref13_look_line_s3_K5
 have hlen : (l.drop a).length = ts.length + 1 := by rw [hts]; rfl
 cases ho : opOf 6 t with
 | none =>
  obtain ⟨r, hr, hm⟩ := hk 7 (dn 6 d) a (by omega) (by omega) h0 h3 (by rw [hts]; exact he) (by omega)
  rw [hts] at hr
  refine ⟨r, .other rfl hd ho hr, ?_⟩
  show RR l r ((k (7, dn 6 d, l, (a : Int), names, 0, 0)).bind fun r45 => some (r45.1, r45.2.1, r45.2.2.1, r45.2.2.2))
  rw [bind_r4]
  exact hm
 | some ko =>
  have hke := opOf_pos ho
  have he1 : Ends ts := he.tail (op_ne ho)
  obtain ⟨r, hr, hm⟩ := hk 6 (dn 6 d) (a + 1) (by omega) (by omega) h0 h3 (by rw [hd1]; exact he1) (by rw [hd1]; omega)
  rw [hd1] at hr
  refine ⟨_, .pre rfl hd ho hr, ?_⟩
  simp only [opt, Option.getD_some, hke, cond_false, wrap1 (show a < 4611686018427387904 by omega)]
  exact hm.one ko t.2.2.2
theorem pre10 {d : Int} {a : Nat} {t : Tok} {ts : List Tok} (hts : l.drop a = t :: ts) (he : Ends (t :: ts)) (h0 : 0 ≤ dn 10 d) (h3 : dn 10 d ≤ 320) (hd : deepB 10 d = false) (hN : 12 * (l.drop a).length + 1 < N + 1) :
  ∃ r, P names (line 10) d (t :: ts) r ∧ RR l r (bif ((t.1 != 3) || (t.2.1 != [45])) then ((scrutinyref13_look_one_s3 k (dn 10 d) l (a : Int) names 0 0).bind fun r99 => some (r99.1, r99.2.1, r99.2.2.1, r99.2.2.2))
   else ((k (10, dn 10 d, l, (IntKind.i64.wrap ((a : Int) + 1)), names, 0, 0)).bind fun r106 => some ((Ex.mk 6 0 t.2.2.2 ([r106.1] : List Ex)), r106.2.1, r106.2.2.1, r106.2.2.2))) := by
 obtain ⟨hx, hd1, hlt, hmem⟩ := drop_at hts
 have hok := htok t hmem
 have e6 := hitS hok (x := txtT 6) rfl
 have hop : opOf 10 t = bif ((t.1 == 3) && (t.2.1 == txtT 6)) then some 6 else none := by
  simp only [opOf, ops, fnd_cons, fnd_nil, e6]
 have hlen : (l.drop a).length = ts.length + 1 := by rw [hts]; rfl
 have hb : ((t.1 != 3) || (t.2.1 != [45])) = !((t.1 == 3) && (t.2.1 == txtT 6)) := by
  show ((!(t.1 == 3)) || (!(t.2.1 == [45]))) = _
  rw [show txtT 6 = [45] from rfl, Bool.not_and]
 rw [hb]
 cases ho : ((t.1 == 3) && (t.2.1 == txtT 6))
 ·rw [ho] at hop
  simp only [Bool.not_false, cond_true, bind_r4]
  obtain ⟨r, hr, hm⟩ := one_ok hn hl htok (k := k) (d := dn 10 d) (a := a) (by rw [hts]; exact he) (fun he1 => hk 1 (dn 10 d) (a + 1) (by omega) (by omega) h0 h3 he1 (by rw [hd1]; omega))
  rw [hts] at hr
  exact ⟨r, .other rfl hd hop hr, hm⟩
 ·rw [ho] at hop
  have hop : opOf 10 t = some 6 := hop
  have he1 : Ends ts := he.tail (op_ne hop)
  simp only [Bool.not_true, cond_false, wrap1 (show a < 4611686018427387904 by omega)]
  obtain ⟨r, hr, hm⟩ := hk 10 (dn 10 d) (a + 1) (by omega) (by omega) h0 h3 (by rw [hd1]; exact he1) (by rw [hd1]; omega)
  rw [hd1] at hr
  exact ⟨_, .pre rfl hd hop hr, hm.one 6 t.2.2.2⟩
theorem left_loop {s : Nat} (h1 : 1 ≤ s) (h9 : s ≤ 9) (h6 : s ≠ 6) (_hkd : kd s = 2) {D : Int} (h0 : 0 ≤ D) (h3 : D ≤ 320) (hq : ((((s : Int) == 1) || ((s : Int) == 2)) || ((s : Int) == 5)) = false) (hq7 : ((s : Int) == 7) = false) :
  ∀ (n a M : Nat) (x : Ex), (l.drop a).length ≤ n → n < M → Ends (l.drop a) → 12 * (l.drop a).length ≤ N →
   ∃ r, P names (loop s x) D (l.drop a) r ∧ RR l r (fixN (scrutinyref13_look_line_s3_L6 k (s : Int) l names D) M ((a : Int), 0, 0, x.op, x.n, x.at_, x.l)) := by
 have _ := hn
 intro n
 induction n with
 | zero =>
  intro a M x h1 h2 he _
  obtain ⟨t, ts, hts⟩ := he.ne
  rw [hts] at h1; simp at h1
 | succ n ih =>
  intro a M x hln hM he hN
  obtain ⟨M, rfl⟩ : ∃ m, M = m + 1 := ⟨M - 1, by omega⟩
  obtain ⟨t, ts, hts⟩ := he.ne
  obtain ⟨hx, hd1, hlt, hmem⟩ := drop_at hts
  have hok := htok t hmem
  have hlen : (l.drop a).length = ts.length + 1 := by rw [hts]; rfl
  rw [fixN_succ]
  simp only [scrutinyref13_look_line_s3_L6, beq_self_eq_true, cond_true, hx, bind_s, op_eq hok h1 h9 h6, letv_e, hq, cond_false, hq7]
  cases ho : opOf s t with
  | none =>
   refine ⟨.ok (x, l.drop a), by rw [hts]; exact .lpEnd ho, a, rfl, ?_⟩
   simp only [opt, Option.getD_none, beq_self_eq_true, cond_true, ex_eta]
  | some ko =>
   have hke := opOf_pos ho
   have he1 : Ends ts := by rw [hts] at he; exact he.tail (op_ne ho)
   have hs1 : IntKind.i64.wrap ((s : Int) + 1) = ((s + 1 : Nat) : Int) := by rw [w64 (by omega)]; omega
   simp only [opt, Option.getD_some, hke, cond_false, wrap1 (show a < 4611686018427387904 by omega), hs1]
   obtain ⟨r, hr, hm⟩ := hk (s + 1) D (a + 1) (by omega) (by omega) h0 h3 (by rw [hd1]; exact he1) (by rw [hd1]; omega)
   rw [hd1] at hr
   match r, hr, hm with
   | .error (b, p), hr, ⟨y, a', hm⟩ =>
    have hb := err_ne0 hr
    have hb0 : (b == 0) = false := by simpa using hb
    rw [hm, bind_s]
    have hpos : 0 < M := by
     have := hN
     have : 1 ≤ (l.drop a).length := by omega
     omega
    obtain ⟨M, rfl⟩ : ∃ m, M = m + 1 := ⟨M - 1, by omega⟩
    rw [fixN_succ]
    simp only [scrutinyref13_look_line_s3_L6, hb0, cond_false]
    rw [hts]
    exact ⟨_, .lpErr ho hr, _, _, rfl⟩
   | .ok (y, ts'), hr, ⟨a', ha', hm⟩ =>
    obtain ⟨he', hsh⟩ := hr.ends he1 _ rfl
    simp only [shorter] at hsh he'
    rw [hm, bind_s]
    obtain ⟨r2, hr2, hm2⟩ := ih a' M (.mk ko 0 t.2.2.2 [x, y]) (by rw [ha']; omega) (by omega) (by rw [ha']; exact he') (by rw [ha']; omega)
    rw [ha'] at hr2
    refine ⟨r2, by rw [hts]; exact .lpGo ho hr hr2, ?_⟩
    simp only [ex_eta]
    exact hm2
theorem line_step {s : Nat} (h1 : 1 ≤ s) (h10 : s ≤ 10) {d : Int} (h0 : 0 ≤ d) (h3 : d ≤ 320) {a : Nat} (he : Ends (l.drop a)) (hN : 12 * (l.drop a).length + (11 - s) < N + 1) :
  ∃ r, P names (line s) d (l.drop a) r ∧ RR l r (scrutinyref13_look_line_s3_F k (s : Int) d l (a : Int) names 0 0) := by
 obtain ⟨t, ts, hts⟩ := he.ne
 obtain ⟨hx, hd1, hlt, hmem⟩ := drop_at hts
 rw [F_eq h1 h10 h0 h3]
 unfold scrutinyref13_look_line_s3_K1
 simp only [letv_e, deep_eq]
 cases hd : deepB s d
 case true =>
  rw [hts]
  simp only [cond_true, fail0 hx, bind_s]
  exact ⟨_, .big hd, _, _, rfl⟩
 obtain ⟨hD0, hD3⟩ := dn_ok h0 h3 hd
 simp only [cond_false, hx, bind_s]
 rw [hts] at he
 by_cases h6 : s = 6
 ·subst h6
  have := pre6 hn hl htok hk hts he hD0 hD3 hd (by omega)
  rw [hts]
  obtain ⟨r, hr, hm⟩ := this
  refine ⟨r, hr, ?_⟩
  show RR l r (bif ((t.1 == 3) && (t.2.1 == [33])) then scrutinyref13_look_line_s3_K2 k l (a : Int) names 0 0 (dn 6 d) t 15 else scrutinyref13_look_line_s3_K2 k l (a : Int) names 0 0 (dn 6 d) t 0)
  cases hb : ((t.1 == 3) && (t.2.1 == [33])) <;> rw [hb] at hm <;> exact hm
 by_cases hs10 : s = 10
 ·subst hs10
  obtain ⟨r, hr, hm⟩ := pre10 hn hl htok hk hts he hD0 hD3 hd (by omega)
  rw [hts]
  exact ⟨r, hr, hm⟩
 have b6 : ((s : Int) == 6) = false := beq_eq_false_iff_ne.2 (by omega)
 have b10 : ((s : Int) == 10) = false := beq_eq_false_iff_ne.2 (by omega)
 have hs1 : IntKind.i64.wrap ((s : Int) + 1) = ((s + 1 : Nat) : Int) := by rw [w64 (by omega)]; omega
 simp only [b6, b10, cond_false, hs1]
 obtain ⟨r, hr, hm⟩ := hk (s + 1) (dn s d) a (by omega) (by omega) hD0 hD3 (by rw [hts]; exact he) (by omega)
 have hlen : (l.drop a).length = ts.length + 1 := by rw [hts]; rfl
 have hkd : kd s = 1 ∨ kd s = 2 := by
  have : s = 1 ∨ s = 2 ∨ s = 3 ∨ s = 4 ∨ s = 5 ∨ s = 7 ∨ s = 8 ∨ s = 9 := by omega
  rcases this with rfl | rfl | rfl | rfl | rfl | rfl | rfl | rfl <;> simp [kd]
 match r, hr, hm with
 | .error (b, p), hr, ⟨y, a', hm⟩ =>
  have hb := err_ne0 hr
  have hb0 : (b == 0) = false := by simpa using hb
  rw [hm, bind_s]
  obtain ⟨m, hF⟩ : ∃ m, FUEL = m + 1 := ⟨18446744073709551615, rfl⟩
  rw [hF, fixN_succ]
  simp only [scrutinyref13_look_line_s3_L6, hb0, cond_false]
  rcases hkd with h | h
  ·exact ⟨_, .rErr h hd hr, _, _, rfl⟩
  ·refine ⟨.error (b, p), .lErr h (d := d) ?_, _, _, rfl⟩
   have : dn s d = d := by
    have : s = 3 ∨ s = 4 ∨ s = 8 ∨ s = 9 := by
     have : s = 1 ∨ s = 2 ∨ s = 3 ∨ s = 4 ∨ s = 5 ∨ s = 7 ∨ s = 8 ∨ s = 9 := by omega
     rcases this with rfl | rfl | rfl | rfl | rfl | rfl | rfl | rfl <;> simp [kd] at h <;> simp
    rcases this with rfl | rfl | rfl | rfl <;> rfl
   rw [this] at hr; exact hr
 | .ok (x, ts'), hr, ⟨a', ha', hm⟩ =>
  rw [hts] at hr
  obtain ⟨he', hsh⟩ := hr.ends he _ rfl
  simp only [shorter, List.length_cons] at hsh he'
  rw [hm, bind_s]
  rcases hkd with h | h
  · -- once
   obtain ⟨t2, ts2, ht2⟩ := he'.ne
   subst ht2
   obtain ⟨hx2, hd2, hlt2, hmem2⟩ := drop_at ha'
   have hok2 := htok t2 hmem2
   obtain ⟨m, hF⟩ : ∃ m, FUEL = m + 1 := ⟨18446744073709551615, rfl⟩
   rw [hF, fixN_succ, hts]
   simp only [scrutinyref13_look_line_s3_L6, beq_self_eq_true, cond_true, hx2, bind_s, op_eq hok2 h1 (by omega) h6, letv_e]
   cases ho : opOf s t2 with
   | none =>
    refine ⟨_, .rOne h hd hr ho, a', ha', ?_⟩
    simp only [opt, Option.getD_none, beq_self_eq_true, cond_true, ex_eta]
   | some ko =>
    have hke := opOf_pos ho
    have he2 : Ends ts2 := he'.tail (op_ne ho)
    simp only [opt, Option.getD_some, hke, cond_false, wrap1 (show a' < 4611686018427387904 by omega), hs1, ex_eta]
    simp only [List.length_cons] at hsh
    have hc : s = 1 ∨ s = 2 ∨ s = 5 ∨ s = 7 := by
     have : s = 1 ∨ s = 2 ∨ s = 3 ∨ s = 4 ∨ s = 5 ∨ s = 7 ∨ s = 8 ∨ s = 9 := by omega
     rcases this with rfl | rfl | rfl | rfl | rfl | rfl | rfl | rfl <;> simp [kd] at h <;> simp
    by_cases h7 : s = 7
    ·subst h7
     obtain ⟨r2, hr2, hm2⟩ := hk 8 (dn 7 d) (a' + 1) (by omega) (by omega) hD0 hD3 (by rw [hd2]; exact he2) (by rw [hd2]; omega)
     rw [hd2] at hr2
     exact ⟨_, .rTwo h hd hr ho hr2, hm2.two ko t2.2.2.2 x⟩
    ·obtain ⟨r2, hr2, hm2⟩ := hk s (dn s d) (a' + 1) (by omega) (by omega) hD0 hD3 (by rw [hd2]; exact he2) (by rw [hd2]; omega)
     rw [hd2] at hr2
     have hnx : nx s = s := by unfold nx; rw [beq_eq_false_iff_ne.2 h7]; rfl
     refine ⟨_, .rTwo h hd hr ho (by rw [hnx]; exact hr2), ?_⟩
     have hb : ((((s : Int) == 1) || ((s : Int) == 2)) || ((s : Int) == 5)) = true := by
      rcases hc with rfl | rfl | rfl | rfl
      ·rfl
      ·rfl
      ·rfl
      ·exact absurd rfl h7
     rw [hb]
     exact hm2.two ko t2.2.2.2 x
  · -- from the left
   have hc : s = 3 ∨ s = 4 ∨ s = 8 ∨ s = 9 := by
    have : s = 1 ∨ s = 2 ∨ s = 3 ∨ s = 4 ∨ s = 5 ∨ s = 7 ∨ s = 8 ∨ s = 9 := by omega
    rcases this with rfl | rfl | rfl | rfl | rfl | rfl | rfl | rfl <;> simp [kd] at h <;> simp
   have hdn : dn s d = d := by rcases hc with rfl | rfl | rfl | rfl <;> rfl
   have hq : ((((s : Int) == 1) || ((s : Int) == 2)) || ((s : Int) == 5)) = false := by rcases hc with rfl | rfl | rfl | rfl <;> rfl
   have hq7 : ((s : Int) == 7) = false := by rcases hc with rfl | rfl | rfl | rfl <;> rfl
   have hle : (l.drop a').length ≤ l.length := by simp
   obtain ⟨r2, hr2, hm2⟩ := left_loop hn hl htok hk h1 (by omega) h6 h (D := dn s d) hD0 hD3 hq hq7 l.length a' FUEL x hle (by show l.length < 2 ^ 64; omega) (by rw [ha']; exact he') (by rw [ha']; omega)
   rw [ha'] at hr2
   rw [hts]
   rw [hdn] at hr hr2
   exact ⟨r2, .lGo h hr hr2, hm2⟩
end
theorem line_all {names : List Str} {l : List Tok} (hn : names.length < 4611686018427387904) (hl : l.length < 4611686018427387904) (htok : ∀ t ∈ l, TokOk t) :
  ∀ (N : Nat) (s : Nat) (d : Int) (a : Nat), 1 ≤ s → s ≤ 10 → 0 ≤ d → d ≤ 320 → Ends (l.drop a) → 12 * (l.drop a).length + (11 - s) < N →
   SR names l (fixN (fun k (s : (Int × Int × (List (Int × Str × Int × Int)) × Int × (List Str) × Int × Int)) => scrutinyref13_look_line_s3_F k s.1 s.2.1 s.2.2.1 s.2.2.2.1 s.2.2.2.2.1 s.2.2.2.2.2.1 s.2.2.2.2.2.2) N) s d a := by
 intro N
 induction N with
 | zero => intro s d a _ _ _ _ _ h; omega
 | succ N ih =>
  intro s d a h1 h10 h0 h3 he hN
  unfold SR
  rw [fixN_succ]
  exact line_step hn hl htok ih h1 h10 h0 h3 he hN
theorem parse_ref {names : List Str} {l : List Tok} (hn : names.length < 4611686018427387904) (hl : l.length < 1152921504606846976) (htok : ∀ t ∈ l, TokOk t) {a : Nat} (he : Ends (l.drop a)) :
  ∃ r, P names (line 1) 0 (l.drop a) r ∧ match r with
   | .ok (x, ts) => ∃ a' : Nat, l.drop a' = ts ∧ scrutinyref13_Parse_s3 l (a : Int) names = some (x, (a' : Int), 0, 0)
   | .error (b, p) => scrutinyref13_Parse_s3 l (a : Int) names = some (.mk 0 0 0 [], 0, b, p) := by
 have hle : (l.drop a).length ≤ l.length := by simp
 obtain ⟨r, hr, hm⟩ := line_all hn (by omega) htok FUEL 1 0 a (by omega) (by omega) (by omega) (by omega) he (by show _ < 2 ^ 64; omega)
 refine ⟨r, hr, ?_⟩
 unfold scrutinyref13_Parse_s3 scrutinyref13_look_line_s3
 match r, hr, hm with
 | .ok (x, ts), hr, ⟨a', ha', hm⟩ =>
  refine ⟨a', ha', ?_⟩
  rw [show ((1 : Nat) : Int) = 1 from rfl] at hm
  rw [hm]; rfl
 | .error (b, p), hr, ⟨x, a', hm⟩ =>
  have hb := err_ne0 hr
  rw [show ((1 : Nat) : Int) = 1 from rfl] at hm
  rw [hm, bind_s]
  simp only [hb, cond_true]
end Pa
end Go.Proofs.YtjdabjpjafkogaaDoor
namespace Go.Proofs.YtjdabjpjafkogaaDoor
theorem rtype_loop (k : Ex → Option (Int × Int × Int)) (e : Ex) (hk : ∀ x ∈ e.l, k x = some (rt x)) (hl : e.l.length < 1152921504606846976) :
  ∀ (r pre : List Ex), e.l = pre ++ r → ∀ (M : Nat) (i b t : Int), 0 ≤ i ∧ i ≤ pre.length → 0 ≤ b ∧ b ≤ pre.length → 0 ≤ t ∧ t ≤ pre.length → r.length < M →
   fixN (scrutinyref13_Type_L1 k e) M (i, b, t, (pre.length : Int)) = some (rtA e.op e.at_ (e.l.length : Int) r i b t)
 | [], pre, h, M, i, b, t, hi, hb, ht, hM => by
  obtain ⟨m, rfl⟩ : ∃ m, M = m + 1 := ⟨M - 1, by simp at hM; omega⟩
  rw [fixN_succ]
  have hlen : pre.length < 1152921504606846976 := by rw [h] at hl; simp at hl; omega
  have hw : IntKind.i64.wrap (b + t) = b + t := w64 (by omega)
  simp only [scrutinyref13_Type_L1, lt_f h, cond_false, letv_e, rtA, rtFin, hw]
  generalize (decide (e.op ≤ 6) && (i == (e.l.length : Int))) = c1
  generalize (decide (7 ≤ e.op) && decide (e.op ≤ 12) && (i == (e.l.length : Int)) || e.op == 13 || e.op == 14) = c2
  generalize (decide (15 ≤ e.op) && decide (e.op ≤ 19) && (b == (e.l.length : Int))) = c3
  generalize (decide (15 ≤ e.op) && (b + t == (e.l.length : Int))) = c4
  cases c1 <;> cases c2 <;> cases c3 <;> cases c4 <;> rfl
 | x :: r, pre, h, M, i, b, t, hi, hb, ht, hM => by
  obtain ⟨m, rfl⟩ : ∃ m, M = m + 1 := ⟨M - 1, by omega⟩
  rw [fixN_succ]
  have hx : k x = some (rt x) := hk x (by rw [h]; simp)
  have hlen : pre.length < 1152921504606846976 := by rw [h] at hl; simp at hl; omega
  have ih := fun i b t hi hb ht => rtype_loop k e hk hl r (pre ++ [x]) (by rw [h]; simp) m i b t hi hb ht (by simp at hM; omega)
  have hp : ((pre ++ [x]).length : Int) = ((pre.length + 1 : Nat) : Int) := by simp
  rw [hp] at ih
  have wi : IntKind.i64.wrap (i + 1) = i + 1 := w64 (by omega)
  have wb : IntKind.i64.wrap (b + 1) = b + 1 := w64 (by omega)
  have wt : IntKind.i64.wrap (t + 1) = t + 1 := w64 (by omega)
  simp only [scrutinyref13_Type_L1, scrutinyref13_Type_K2, scrutinyref13_Type_K3, lt_t h, cond_true, idx_mid h, bind_s, hx, letv_e, next_ix (show pre.length < 4611686018427387904 by omega), rtA, wi, wb, wt]
  cases (rt x).2.1 != 0
  ·simp only [cond_false]
   cases (rt x).1 == 1 <;> cases (rt x).1 == 2 <;> cases (rt x).1 == 3 <;> simp only [cond_false, cond_true] <;> exact ih _ _ _ (by omega) (by omega) (by omega)
  ·rfl
theorem rtype_some : ∀ (N : Nat) (e : Ex), e.sz ≤ N → e.sz < 1152921504606846976 → fixN (fun k s => scrutinyref13_Type_F k s) N e = some (rt e) := by
 intro N
 induction N with
 | zero => intro e h; have := sz_pos e; omega
 | succ N ih =>
  intro e h hb
  rw [fixN_succ]
  show fixN (scrutinyref13_Type_L1 _ e) FUEL (0, 0, 0, 0) = _
  have hl := len_lt e
  rw [rt_eq]
  exact rtype_loop (fixN (fun k s => scrutinyref13_Type_F k s) N) e (fun x hx => ih x (by have := sz_lt hx; omega) (by have := sz_lt hx; omega)) (by omega) e.l [] rfl FUEL 0 0 0 (by simp) (by simp) (by simp) (by show e.l.length < 2 ^ 64; omega)
theorem RType_eq (e : Ex) (h : e.sz < 1152921504606846976) : scrutinyref13_Type e = some (rt e) := rtype_some FUEL e (by show e.sz ≤ 2 ^ 64; omega) h
end Go.Proofs.YtjdabjpjafkogaaDoor
namespace Go.Proofs.YtjdabjpjafkogaaDoor
namespace Sy
open Pa
theorem len_t {α : Type} {l pre r : List α} {x : α} (h : l = pre ++ x :: r) : decide ((pre.length : Int) < (List.length l : Int)) = true := by subst h; simp; omega
theorem len_f {α : Type} {l pre : List α} (h : l = pre ++ []) : decide ((pre.length : Int) < (List.length l : Int)) = false := by subst h; simp
theorem mid {α : Type} {l pre r : List α} {x : α} (h : l = pre ++ x :: r) : idx l (pre.length : Int) = some x := by subst h; simp [idx]
theorem room_ok {k b : Nat} (h : k * b ≤ 140737488355328) (h2 : k ≤ 9223372036854775807) : roomB k b = true := by
 simp only [roomB, Bool.and_eq_true]; exact ⟨Nat.ble_eq_true_of_le h, Nat.ble_eq_true_of_le h2⟩
theorem chk_t {ρ : Type} {c : Bool} (h : c = true) (k : Option ρ) : chk c k = k := by subst h; rfl
/-! types -/
theorem type_s2 (e : Ex) : scrutinyref13_Type_s2 e = scrutinyref13_Type_F scrutinyref13_Type e := rfl
theorem Type_s2_eq (e : Ex) (h : e.sz < 1152921504606846976) : scrutinyref13_Type_s2 e = some (rt e) := by
 rw [type_s2]
 have hl := len_lt e
 show fixN (scrutinyref13_Type_L1 _ e) FUEL (0, 0, 0, 0) = _
 rw [rt_eq]
 exact rtype_loop scrutinyref13_Type e (fun x hx => RType_eq x (by have := sz_lt hx; omega)) (by omega) e.l [] rfl FUEL 0 0 0 (by simp) (by simp) (by simp) (by show e.l.length < 2 ^ 64; omega)
/-! names -/
theorem index_loop {names : List Str} {v : Str} (hn : names.length < 4611686018427387904) : ∀ (m i M : Nat), names.length - i ≤ m → i ≤ names.length → m < M →
  fixN (scrutinyref14_index_s2_L1 names v) M (i : Int) = some (match atFrom names v i with | some j => (j : Int) | none => -1) := by
 intro m
 induction m with
 | zero =>
  intro i M h1 h2 h3
  obtain ⟨M, rfl⟩ : ∃ k, M = k + 1 := ⟨M - 1, by omega⟩
  have hi : i = names.length := by omega
  subst hi
  rw [fixN_succ]
  have e : atFrom names v names.length = none := by unfold atFrom; simp
  rw [e]
  simp only [scrutinyref14_index_s2_L1, decide_eq_false (show ¬ ((names.length : Int) < (List.length names : Int)) by omega), cond_false]
 | succ m ih =>
  intro i M h1 h2 h3
  obtain ⟨M, rfl⟩ : ∃ k, M = k + 1 := ⟨M - 1, by omega⟩
  rw [fixN_succ]
  by_cases hi : i < names.length
  ·have hd : names.drop i = names[i] :: names.drop (i + 1) := List.drop_eq_getElem_cons hi
   have hx : idx names (i : Int) = some names[i] := by simp [idx, List.getElem?_eq_getElem hi]
   simp only [scrutinyref14_index_s2_L1, decide_eq_true (show ((i : Nat) : Int) < (List.length names : Int) by omega), cond_true, hx, bind_s, wrap1 (show i < 4611686018427387904 by omega)]
   have e : atFrom names v i = bif (names[i] == v) then some i else atFrom names v (i + 1) := by
    unfold atFrom
    rw [hd, List.findIdx?_cons]
    have : (v == names[i]) = (names[i] == v) := by
     by_cases h : v = names[i]
     ·rw [h]
     ·rw [beq_eq_false_iff_ne.2 h, beq_eq_false_iff_ne.2 (fun e => h e.symm)]
    rw [this]
    cases (names[i] == v)
    ·simp only [cond_false, Bool.false_eq_true, if_false, Option.map_map]
     congr 1
     funext x
     simp only [Function.comp]; omega
    ·simp
   rw [e]
   cases (names[i] == v)
   ·simp only [cond_false]
    exact ih (i + 1) M (by omega) (by omega) (by omega)
   ·rfl
  ·have hi : i = names.length := by omega
   subst hi
   have e : atFrom names v names.length = none := by unfold atFrom; simp
   rw [e]
   simp only [scrutinyref14_index_s2_L1, decide_eq_false (show ¬ ((names.length : Int) < (List.length names : Int)) by omega), cond_false]
theorem index_eq {names : List Str} (hn : names.length < 4611686018427387904) (v : Str) : scrutinyref14_index_s2 names v = some (idxI names v) := by
 have := index_loop (v := v) hn names.length 0 FUEL (by omega) (by omega) (by show names.length < 2 ^ 64; omega)
 rw [show ((0 : Nat) : Int) = 0 from rfl, atFrom_zero] at this
 unfold scrutinyref14_index_s2 idxI
 refine this.trans ?_
 cases at_ names v <;> rfl
theorem at_none {names : List Str} {v : Str} : at_ names v = none ↔ names.contains v = false := by
 unfold at_
 rw [List.findIdx?_eq_none_iff]
 constructor
 ·intro h
  cases hc : names.contains v
  ·rfl
  ·have := List.contains_iff_mem.1 hc
   have := h v this
   simp at this
 ·intro h x hx
  cases hv : (v == x)
  ·rfl
  ·have : v = x := by simpa using hv
   subst this
   have : names.contains v = true := List.contains_iff_mem.2 hx
   rw [this] at h; cases h
theorem idxI_contains (names : List Str) (v : Str) : decide (0 ≤ idxI names v) = names.contains v := by
 unfold idxI
 cases h : at_ names v with
 | some i =>
  simp only
  have : names.contains v = true := by
   cases hc : names.contains v
   ·rw [at_none.2 hc] at h; cases h
   ·rfl
  rw [this]; simp
 | none => rw [at_none.1 h]; rfl
/-! the state of the reader -/
def thenT (st : Except Err (List Tok)) (f : List Tok → Except Err (List Tok)) : Except Err (List Tok) := match st with
 | .ok ts => f ts
 | .error e => .error e
def rest {α : Type} : Except Err (α × List Tok) → Except Err (List Tok)
 | .ok p => .ok p.2
 | .error e => .error e
def thenX {α : Type} (st : Except Err (List Tok)) (f : List Tok → Except Err (α × List Tok)) : Except Err (List Tok) := thenT st fun ts => rest (f ts)
def St (l : List Tok) (st : Except Err (List Tok)) (a b p : Int) : Prop := match st with
 | .ok ts => ∃ k : Nat, a = (k : Int) ∧ l.drop k = ts ∧ Pa.Ends ts ∧ b = 0 ∧ p = 0
 | .error e => (∃ t, idx l a = some t) ∧ (e.1 == 0) = false ∧ b = e.1 ∧ p = e.2
def isS (k : Int) (x : Str) : Except Err (List Tok) → Bool
 | .ok ts => isH k x ts
 | .error _ => false
def Val {α : Type} (st : Except Err (List Tok)) (f : List Tok → Except Err (α × List Tok)) (x : α) : Prop := ∀ ts y r, st = .ok ts → f ts = .ok (y, r) → x = y
section
variable {l : List Tok} (hl : l.length < 1099511627776) (htok : ∀ t ∈ l, TokOk t) (hnum : ∀ t ∈ l, NumOk t)
variable {st : Except Err (List Tok)} {a b p : Int} (N : List Str) (S_ : List (Int × Int)) (I : List Int) (Q : List Str) (C : List Cmd)
theorem St.at {st : Except Err (List Tok)} {a b p : Int} (h : St l st a b p) : ∃ t, idx l a = some t := by
 cases st with
 | ok ts =>
  obtain ⟨k, rfl, hd, he, _⟩ := h
  obtain ⟨t, r, rfl⟩ := he.ne
  exact ⟨t, (drop_at hd).1⟩
 | error e => exact h.1
theorem St.ok {ts : List Tok} (h : St l (.ok ts) a b p) : ∃ (k : Nat) (t : Tok) (r : List Tok), a = (k : Int) ∧ ts = t :: r ∧ l.drop k = t :: r ∧ Pa.Ends (t :: r) ∧ b = 0 ∧ p = 0 ∧ idx l a = some t ∧ t ∈ l ∧ l.drop (k + 1) = r ∧ k < l.length := by
 obtain ⟨k, rfl, hd, he, hb, hp⟩ := h
 obtain ⟨t, r, rfl⟩ := he.ne
 obtain ⟨h1, h2, h3, h4⟩ := drop_at hd
 exact ⟨k, t, r, rfl, rfl, hd, he, hb, hp, h1, h4, h2, h3⟩
theorem fail_0 (c q x : Int) : scrutinyref14_look_fail c q l x N S_ I Q C 0 0 = some (c, q) := rfl
theorem fail_e {b : Int} (hb : (b == 0) = false) (c q x p : Int) : scrutinyref14_look_fail c q l x N S_ I Q C b p = some (b, p) := by
 unfold scrutinyref14_look_fail; rw [hb]; rfl
theorem is_st (h : St l st a b p) (k : Int) (x : Str) : scrutinyref14_look_is k x l a N S_ I Q C b p = some (isS k x st) := by
 cases st with
 | ok ts =>
  obtain ⟨k', t, r, rfl, rfl, hd, he, rfl, rfl, hx, _⟩ := h.ok
  unfold scrutinyref14_look_is
  simp only [letv_e, beq_self_eq_true, callG_tt, hx, bind_s, Bool.true_and, isS, isH, isT]
  cases (t.1 == k)
  ·rfl
  ·simp only [callG_tt, bind_s, Bool.true_and]
 | error e =>
  obtain ⟨_, he, rfl, rfl⟩ := h
  unfold scrutinyref14_look_is
  simp only [letv_e, he, callG_ff, Bool.false_and, isS]
theorem here_st (h : St l st a b p) : ∃ q, scrutinyref14_look_here l a N S_ I Q C b p = some q ∧ ∀ ts, st = .ok ts → q = headP ts := by
 obtain ⟨t, ht⟩ := h.at
 refine ⟨t.2.2.2, by unfold scrutinyref14_look_here; rw [ht]; rfl, fun ts hts => ?_⟩
 subst hts
 obtain ⟨k', t', r, rfl, rfl, hd, he, rfl, rfl, hx, _⟩ := h.ok
 rw [hx] at ht; cases ht; rfl
include hl in
theorem sign_st (h : St l st a b p) (x : Str) : ∃ a' b' p', scrutinyref14_look_sign x l a N S_ I Q C b p = some (a', b', p') ∧ St l (thenT st (sSign x)) a' b' p' := by
 have hi := is_st N S_ I Q C h 3 x
 unfold scrutinyref14_look_sign
 rw [hi, bind_s]
 cases st with
 | ok ts =>
  obtain ⟨k, t, r, rfl, rfl, hd, he, rfl, rfl, hx, hm, hd1, hk⟩ := h.ok
  simp only [isS, isH, thenT, sSign]
  cases hc : isT 3 x t
  ·simp only [Bool.not_false, cond_true, scrutinyref14_look_here, hx, bind_s, fail_0]
   exact ⟨_, _, _, rfl, ⟨t, hx⟩, rfl, rfl, rfl⟩
  ·simp only [Bool.not_true, cond_false, cond_true, wrap1 (show k < 4611686018427387904 by omega)]
   exact ⟨_, _, _, rfl, k + 1, rfl, hd1, he.tail (isT_ne hc (by decide)), rfl, rfl⟩
 | error e =>
  obtain ⟨⟨t, hx⟩, he, rfl, rfl⟩ := h
  simp only [isS, Bool.not_false, cond_true, scrutinyref14_look_here, hx, bind_s, fail_e N S_ I Q C he, thenT]
  exact ⟨_, _, _, rfl, ⟨t, hx⟩, he, rfl, rfl⟩
include hl in
theorem name_st (h : St l st a b p) (hN : N.length < 1099511627776) (hQ : Q.length < 1099511627776) (full : Bool) : ∃ s a' b' p', scrutinyref14_look_name full l a N S_ I Q C b p = some (s, a', b', p') ∧ St l (thenX st (sName full N Q)) a' b' p' ∧ Val st (sName full N Q) s := by
 obtain ⟨t, ht⟩ := h.at
 have iN := index_eq (names := N) (by omega) t.2.1
 have iQ := index_eq (names := Q) (by omega) t.2.1
 unfold scrutinyref14_look_name
 simp only [ht, bind_s, RKey_eq, letv_e]
 cases st with
 | ok ts =>
  obtain ⟨k, t', r, rfl, rfl, hd, he, rfl, rfl, hx, hm, hd1, hk⟩ := h.ok
  rw [hx] at ht; cases ht
  simp only [thenX, thenT]
  have hs : sName full N Q (t :: r) = (bif t.1 != 1 then .error (2, t.2.2.2) else bif key t.2.1 || N.contains t.2.1 || Q.contains t.2.1 then .error (3, t.2.2.2) else bif full then .error (9, t.2.2.2) else .ok (t.2.1, r)) := rfl
  cases h1 : (t.1 != 1)
  case true =>
   rw [h1] at hs
   simp only [cond_true] at hs
   simp only [cond_true, fail_0, bind_s, hs, rest]
   exact ⟨_, _, _, _, rfl, ⟨⟨t, hx⟩, rfl, rfl, rfl⟩, fun ts y r' h2 h3 => by cases h2; rw [hs] at h3; cases h3⟩
  rw [h1] at hs
  simp only [cond_false] at hs ⊢
  have hc : (key t.2.1 || N.contains t.2.1 || Q.contains t.2.1) = (keysT.contains t.2.1 || decide (0 ≤ idxI N t.2.1) || decide (0 ≤ idxI Q t.2.1)) := by rw [idxI_contains, idxI_contains]; rfl
  rw [hc] at hs
  have fin : ∀ c : Bool, (keysT.contains t.2.1 || decide (0 ≤ idxI N t.2.1) || decide (0 ≤ idxI Q t.2.1)) = c →
    ∃ s a' b' p', (bif c then ((scrutinyref14_look_fail 3 t.2.2.2 l (k : Int) N S_ I Q C 0 0).bind fun r43 => some (t.2.1, (k : Int), r43.1, r43.2)) else (bif full then ((scrutinyref14_look_fail 9 t.2.2.2 l (k : Int) N S_ I Q C 0 0).bind fun r47 => some (t.2.1, (k : Int), r47.1, r47.2)) else (bif ((0 : Int) == 0) then some (t.2.1, (IntKind.i64.wrap ((k : Int) + 1)), 0, 0) else some (t.2.1, (k : Int), 0, 0)))) = some (s, a', b', p') ∧
     St l (rest (sName full N Q (t :: r))) a' b' p' ∧ Val (.ok (t :: r)) (sName full N Q) s := by
   intro c hcc
   rw [hcc] at hs
   cases c
   ·cases full
    ·simp only [cond_false] at hs
     refine ⟨_, _, _, _, rfl, ?_, fun ts y r' h2 h3 => by cases h2; rw [hs] at h3; cases h3; rfl⟩
     rw [hs, wrap1 (show k < 4611686018427387904 by omega)]
     have : t.1 = 1 := by simpa using h1
     exact ⟨k + 1, rfl, hd1, he.tail (by omega), rfl, rfl⟩
    ·simp only [cond_false, cond_true] at hs
     exact ⟨_, _, _, _, rfl, by rw [hs]; exact ⟨⟨t, hx⟩, rfl, rfl, rfl⟩, fun ts y r' h2 h3 => by cases h2; rw [hs] at h3; cases h3⟩
   ·simp only [cond_true] at hs
    exact ⟨_, _, _, _, rfl, by rw [hs]; exact ⟨⟨t, hx⟩, rfl, rfl, rfl⟩, fun ts y r' h2 h3 => by cases h2; rw [hs] at h3; cases h3⟩
  have := fin _ rfl
  cases hk1 : keysT.contains t.2.1
  ·simp only [Bool.not_false, callG_tt, iN, bind_s, Bool.false_or, hk1] at this ⊢
   cases hk2 : decide (0 ≤ idxI N t.2.1)
   ·simp only [Bool.not_false, callG_tt, iQ, bind_s, Bool.false_or, hk2] at this ⊢
    exact this
   ·simp only [Bool.not_true, callG_ff, Bool.true_or, hk2] at this ⊢
    exact this
  ·simp only [Bool.not_true, callG_ff, Bool.true_or, hk1] at this ⊢
   exact this
 | error e =>
  obtain ⟨_, he, rfl, rfl⟩ := h
  simp only [thenX, thenT]
  have V : ∀ s, Val (.error e) (sName full N Q) s := fun s ts y r h => by cases h
  have hS : St l (.error e) a e.1 e.2 := ⟨⟨t, ht⟩, he, rfl, rfl⟩
  have iN' : ∀ g : Bool, ∃ z, ∀ k : Int → Option (Str × Int × Int × Int), callG g default (scrutinyref14_index_s2 N t.2.1) k = k z := fun g => by
   cases g
   ·exact ⟨default, fun k => rfl⟩
   ·exact ⟨idxI N t.2.1, fun k => by rw [callG_tt, iN]; rfl⟩
  have iQ' : ∀ g : Bool, ∃ z, ∀ k : Int → Option (Str × Int × Int × Int), callG g default (scrutinyref14_index_s2 Q t.2.1) k = k z := fun g => by
   cases g
   ·exact ⟨default, fun k => rfl⟩
   ·exact ⟨idxI Q t.2.1, fun k => by rw [callG_tt, iQ]; rfl⟩
  cases h1 : (t.1 != 1)
  case true =>
   simp only [cond_true, fail_e N S_ I Q C he, bind_s]
   exact ⟨_, _, _, _, rfl, hS, V _⟩
  simp only [cond_false]
  obtain ⟨z1, e1⟩ := iN' (!(keysT.contains t.2.1))
  rw [e1]
  obtain ⟨z2, e2⟩ := iQ' (!(keysT.contains t.2.1 || decide (0 ≤ z1)))
  rw [e2]
  cases (keysT.contains t.2.1 || decide (0 ≤ z1) || decide (0 ≤ z2))
  ·cases full
   ·simp only [cond_false, he]
    exact ⟨_, _, _, _, rfl, hS, V _⟩
   ·simp only [cond_true, cond_false, fail_e N S_ I Q C he, bind_s]
    exact ⟨_, _, _, _, rfl, hS, V _⟩
  ·simp only [cond_true, fail_e N S_ I Q C he, bind_s]
   exact ⟨_, _, _, _, rfl, hS, V _⟩
include hl in
theorem num1_st (neg : Bool) (h : St l st a b p) : ∃ n a' b' p', scrutinyref14_look_number_K1 l N S_ I Q C b p neg a = some (n, a', b', p') ∧ St l (thenX st (sNum1 neg)) a' b' p' ∧ Val st (sNum1 neg) n := by
 obtain ⟨t, ht⟩ := h.at
 unfold scrutinyref14_look_number_K1
 rw [ht, bind_s]
 cases st with
 | ok ts =>
  obtain ⟨k, t', r, rfl, rfl, hd, he, rfl, rfl, hx, hm, hd1, hk⟩ := h.ok
  rw [hx] at ht; cases ht
  simp only [thenX, thenT, sNum1, rest, Val]
  cases h1 : (t.1 != 2)
  ·simp only [cond_false, scrutinyref14_look_number_K2, bne_self_eq_false, wrap1 (show k < 4611686018427387904 by omega)]
   have ht2 : t.1 = 2 := by simpa using h1
   have hE : Pa.Ends r := he.tail (by omega)
   cases neg
   ·exact ⟨_, _, _, _, rfl, ⟨k + 1, rfl, hd1, hE, rfl, rfl⟩, fun ts y r' h2 h3 => by cases h2; simp only [h1, cond_false] at h3; cases h3; rfl⟩
   ·exact ⟨_, _, _, _, rfl, ⟨k + 1, rfl, hd1, hE, rfl, rfl⟩, fun ts y r' h2 h3 => by cases h2; simp only [h1, cond_false, cond_true] at h3; cases h3; rfl⟩
  ·simp only [cond_true, fail_0, bind_s, scrutinyref14_look_number_K2]
   exact ⟨_, _, _, _, rfl, ⟨⟨t, hx⟩, rfl, rfl, rfl⟩, fun ts y r' h2 h3 => by cases h2; simp only [h1, cond_true] at h3; cases h3⟩
 | error e =>
  obtain ⟨_, he, rfl, rfl⟩ := h
  have hb : (e.1 != 0) = true := by simp only [bne, he, Bool.not_false]
  simp only [thenX, thenT, fail_e N S_ I Q C he, bind_s, scrutinyref14_look_number_K2, hb, cond_true]
  have hS : St l (.error e) a e.1 e.2 := ⟨⟨t, ht⟩, he, rfl, rfl⟩
  cases (t.1 != 2) <;> exact ⟨_, _, _, _, rfl, hS, fun ts y r h => by cases h⟩
include hl in
theorem num_st (h : St l st a b p) : ∃ n a' b' p', scrutinyref14_look_number l a N S_ I Q C b p = some (n, a', b', p') ∧ St l (thenX st sNum) a' b' p' ∧ Val st sNum n := by
 unfold scrutinyref14_look_number
 rw [is_st N S_ I Q C h 3 [45], bind_s]
 cases st with
 | ok ts =>
  simp only [isS]
  cases hc : isH 3 [45] ts
  ·simp only [cond_false]
   obtain ⟨n, a', b', p', h1, h2, h3⟩ := num1_st hl N S_ I Q C false h
   have e : sNum ts = sNum1 false ts := by unfold sNum; rw [hc]; rfl
   exact ⟨n, a', b', p', h1, by simpa only [thenX, thenT, e] using h2, fun ts' y r h4 h5 => h3 ts' y r h4 (by cases h4; rw [← e]; exact h5)⟩
  ·simp only [cond_true]
   obtain ⟨k, t, r, rfl, rfl, hd, he, rfl, rfl, hx, hm, hd1, hk⟩ := h.ok
   have hE : Pa.Ends r := (isH_ends he (by decide) hc).1
   have hS : St l (.ok r) (IntKind.i64.wrap ((k : Int) + 1)) 0 0 := by rw [wrap1 (show k < 4611686018427387904 by omega)]; exact ⟨k + 1, rfl, hd1, hE, rfl, rfl⟩
   obtain ⟨n, a', b', p', h1, h2, h3⟩ := num1_st hl N S_ I Q C true hS
   have e : sNum (t :: r) = sNum1 true r := by unfold sNum; rw [hc]; rfl
   exact ⟨n, a', b', p', h1, by simpa only [thenX, thenT, e] using h2, fun ts' y r' h4 h5 => h3 r y r' rfl (by cases h4; rw [← e]; exact h5)⟩
 | error e =>
  simp only [isS, cond_false]
  obtain ⟨n, a', b', p', h1, h2, h3⟩ := num1_st hl N S_ I Q C false h
  exact ⟨n, a', b', p', h1, h2, fun ts' y r h4 => by cases h4⟩
include hl htok hnum in
theorem expr_st (h : St l st a b p) (hN : N.length < 1099511627776) (want : Int) : ∃ x a' b' p', scrutinyref14_look_expression want l a N S_ I Q C b p = some (x, a', b', p') ∧ St l (thenX st (sExpr want N)) a' b' p' ∧ Val st (sExpr want N) x := by
 have _ := hnum
 unfold scrutinyref14_look_expression
 cases st with
 | ok ts =>
  obtain ⟨k, t, r0, rfl, rfl, hd, he, rfl, rfl, hx, hm, hd1, hk⟩ := h.ok
  simp only [bne_self_eq_false, cond_false]
  obtain ⟨r, hr, hP⟩ := parse_ref (names := N) (by omega) (by omega) htok (a := k) (by rw [hd]; exact he)
  rw [hd] at hr
  have hre := readE_eq hr
  match r, hr, hP, hre with
  | .error (b, p), hr, hP, hre =>
   have hb := err_ne0 hr
   have hb0 : (b == 0) = false := by simpa using hb
   rw [hP, bind_s]
   simp only [hb, cond_true, fail_0, bind_s, thenX, thenT, sExpr, hre, rest]
   exact ⟨_, _, _, _, rfl, ⟨⟨t, hx⟩, hb0, rfl, rfl⟩, fun ts y r' h2 h3 => by cases h2; simp only [sExpr, hre] at h3; cases h3⟩
  | .ok (x, ts'), hr, ⟨k', hk', hP⟩, hre =>
   have hsz := hr.size _ rfl
   simp only [szJ, Nat.add_zero] at hsz
   have hlen : (t :: r0).length ≤ l.length := by rw [← hd]; simp
   have hends := (hr.ends he _ rfl).1
   rw [hP, bind_s]
   simp only [bne_self_eq_false, cond_false, Type_s2_eq x (by omega), bind_s, thenX, thenT, sExpr, hre, rest, Val, scrutinyref14_look_expression_K1]
   have hat : ∃ t', idx l (k' : Int) = some t' := by
    obtain ⟨t', r', hh⟩ := hends.ne
    simp only at hh
    rw [hh] at hk'
    exact ⟨t', (drop_at hk').1⟩
   cases h1 : ((rt x).2.1 != 0)
   case true =>
    have h10 : ((rt x).2.1 == 0) = false := by simpa using h1
    simp only [cond_true, fail_0, bind_s]
    exact ⟨_, _, _, _, rfl, ⟨hat, h10, rfl, rfl⟩, fun ts y r' h2 h3 => by cases h2; simp only [hre, h1, cond_true] at h3; cases h3⟩
   simp only [cond_false]
   cases h2 : ((rt x).1 != want)
   case true =>
    simp only [cond_true, fail_0, bind_s]
    exact ⟨_, _, _, _, rfl, ⟨hat, rfl, rfl, rfl⟩, fun ts y r' h4 h3 => by cases h4; simp only [hre, h1, cond_false, h2, cond_true] at h3; cases h3⟩
   simp only [cond_false]
   exact ⟨_, _, _, _, rfl, ⟨k', rfl, hk', hends, rfl, rfl⟩, fun ts y r' h4 h3 => by cases h4; simp only [hre, h1, cond_false, h2] at h3; cases h3; rfl⟩
 | error e =>
  obtain ⟨ht, he, rfl, rfl⟩ := h
  have hb : (e.1 != 0) = true := by simp only [bne, he, Bool.not_false]
  simp only [hb, cond_true, thenX, thenT]
  exact ⟨_, _, _, _, rfl, ⟨ht, he, rfl, rfl⟩, fun ts y r h => by cases h⟩
end
end Sy
end Go.Proofs.YtjdabjpjafkogaaDoor
