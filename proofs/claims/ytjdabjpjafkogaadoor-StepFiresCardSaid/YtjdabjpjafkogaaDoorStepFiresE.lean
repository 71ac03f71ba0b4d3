/-
  Own texts for the statement StepFires, cut down to what it needs: Walk16, Walk17, Walk18, Walk19, Walk24, TrA, TrPa, TrSys. (cut and joined by a program)
-/
import Derived.Test.YtjdabjpjafkogaaDoorStepFiresA
import Derived.Test.YtjdabjpjafkogaaDoorStepFiresB
import Derived.Test.YtjdabjpjafkogaaDoorStepFiresC
import Derived.Test.YtjdabjpjafkogaaDoorStepFiresD
import Derived.KernelRfl
namespace Go.Proofs.YtjdabjpjafkogaaDoor
open Go.Proofs
set_option maxRecDepth 100000 in
set_option maxHeartbeats 4000000 in
theorem step_fired_c1_ok {τ : Type} {J : Nat × τ → List Nat → Item} {l : Nat} {k_yield : Nat × τ → (List Int) → Int → Option (Nat × τ)} (ih_yield : ∀ {Φ : Ctx} {w : World} {y : Nat × τ} {R : List Nat} {a27 : (List Int)} {a29 : Int} {v28 : SLV} {r : Nat × τ}, Sat (J y R :: imm (RSl (RI .i64)) [sl v28] a27 :: Φ) w → k_yield y a27 a29 = some r → Yld Tryd.prog l [(sl v28), (.int .i64 a29)] w (fun u w' => u = .bool (Nat.beq r.1 0) ∧ ∃ R' : List Nat, Sat (J r R' :: Φ) w')) {Φ : Ctx} {w : World} {y : (Nat × τ)} {Names : (List Str)} {Schema : (List (Int × Int))} {Init : (List Int)} {Procs : (List Str)} {Cmd : (List (Int × Ex × (List (Int × Ex))))} {x : (List Int)} {R : List Nat} {b : Nat} {b3 : Nat} {v5 : SLV} {v7 : SLV} {v9 : SLV} {v11 : SLV} {v13 : SLV} {v15 : SLV} {r : (Nat × τ)} (hs : Sat (J y R :: box b 28 [(sl v5), (sl v7), (sl v9), (sl v11), (sl v13)] :: box b3 22 [(sl v15)] :: imm (RSl RS) [sl v5] Names :: imm (RSl (RP (RI .i64) (RI .i64))) [sl v7] Schema :: imm (RSl (RI .i64)) [sl v9] Init :: imm (RSl RS) [sl v11] Procs :: imm (RSl (RP (RI .i64) (RP RExpr (RSl (RP (RI .i64) RExpr))))) [sl v13] Cmd :: imm (RSl (RI .i64)) [sl v15] x :: Φ) w) (hm : step_fired_c1 k_yield y Names Schema Init Procs Cmd x = some r) :
  CallsR Tryd.prog 45 [(.func (.yield l) #[] #[]), (.pointer (some ⟨b, 0, none⟩)), (.pointer (some ⟨b3, 0, none⟩))] w (fun v w' => ∃ R3 : List Nat, v = (.tuple #[]) ∧ Sat (J r R3 :: box b 28 [(sl v5), (sl v7), (sl v9), (sl v11), (sl v13)] :: imm (RSl RS) [sl v5] Names :: imm (RSl (RP (RI .i64) (RI .i64))) [sl v7] Schema :: imm (RSl (RI .i64)) [sl v9] Init :: imm (RSl RS) [sl v11] Procs :: imm (RSl (RP (RI .i64) (RP RExpr (RSl (RP (RI .i64) RExpr))))) [sl v13] Cmd :: box b3 22 [(sl v15)] :: imm (RSl (RI .i64)) [sl v15] x :: Φ) w') := by
 refine CallsX_enter Tryd.func45 rfl Tryd.ntmps45 rfl ?_
 unfold step_fired_c1 at hm
 refine WC_seq <| WC_region ?_
 refine Wo (Run_loadA (vs := [(sl v5), (sl v7), (sl v9), (sl v11), (sl v13)]) Tryd.underlying28 rfl ti28 (O rfl) (fun _ => (hs.box (i := 1) rfl).part 0 rfl) rfl) rfl <| Wo (Run_load1 (v := (sl v15)) Tryd.underlying22 rfl (O rfl) (fun _ => (hs.box (i := 2) rfl).part 0 rfl)) rfl <| ?_
 obtain ⟨r4, hr5, hm⟩ := bind_some' hm
 refine WL_call (f := 17) (first := []) (cap := []) (xs := [(.tmp 6), (.tmp 7)]) (vs := [(.agg #[(sl v5), (sl v7), (sl v9), (sl v11), (sl v13)]), (sl v15)]) (args := [(.agg #[(sl v5), (sl v7), (sl v9), (sl v11), (sl v13)]), (sl v15)]) Tryd.call17 Opd.f (.cons (O rfl) (.cons (O rfl) .nil)) rfl rfl (step_Enabled_ok (m := (Names, Schema, Init, Procs, Cmd)) (hs.re 9 [3, 4, 5, 6, 7, 8, 0, 1, 2, 3, 4, 5, 6, 7, 8] rfl) hr5) ?_
 rintro _ w8 ⟨v6, R7, rfl, hs⟩
 replace hs := Sat.n10 (Γ := Φ) hs rfl
 refine Wo (Run_lenSlG Tryd.underlying22 (O rfl) (fun _ => (hs.own (i := 0) rfl).len)) rfl <| Wo (Run_move Opd.c) rfl <| ?_
 refine WL_nil <| At_then ?_
 refine WC_block ?_
 refine WC_loop (σ := (Nat × τ) × Int) (γ := List Nat) (F := (step_fired_c1_L1 k_yield Names Schema Init Procs Cmd x r4)) (N := FUEL) (s0 := (y, 0)) (r := r) (fun ⟨y10, t12⟩ R11 w9 => Sat (J y10 R11 :: box b 28 [(sl v5), (sl v7), (sl v9), (sl v11), (sl v13)] :: imm (RSl RS) [sl v5] Names :: imm (RSl (RP (RI .i64) (RI .i64))) [sl v7] Schema :: imm (RSl (RI .i64)) [sl v9] Init :: imm (RSl RS) [sl v11] Procs :: imm (RSl (RP (RI .i64) (RP RExpr (RSl (RP (RI .i64) RExpr))))) [sl v13] Cmd :: box b3 22 [(sl v15)] :: imm (RSl (RI .i64)) [sl v15] x :: osl (RI .i64) 3 (sl v6) r4 R7 :: Φ) w9) (fun ⟨y10, t12⟩ R11 => [(0, true, (.func (.yield l) #[] #[])), (1, true, (.pointer (some ⟨b, 0, none⟩))), (2, true, (.pointer (some ⟨b3, 0, none⟩))), (8, true, (sl v6)), (9, true, (.int .i64 (List.length r4 : Int))), (10, true, (.int .i64 t12))]) hm R (hs.re 10 [1, 2, 4, 5, 6, 7, 8, 3, 9, 0] rfl) rfl ?_
 rintro again13 ⟨y10, t12⟩ R11 w9 hm hs
 unfold step_fired_c1_L1 at hm
 dsimp only at hm
 refine WC_seq <| WC_region ?_
 refine Wo (Run_ltI (O rfl) (O rfl)) rfl <| ?_
 refine WL_nil <| At_then <| WC_seq ?_
 refine WC_cond (O rfl) (fun hc14 => ?_) (fun hc14 => ?_)
 ·
  replace hm := bif_t hc14 hm
  refine WC_skip ?_
  refine At_then <| WC_seq ?_
  refine WC_block ?_
  refine WC_seq <| WC_region ?_
  obtain ⟨e15, he16, hm⟩ := bind_some' hm
  refine Wo (Run_idxAddr (p := (elA (sl v6) t12 1)) Tryd.underlying22 ti3 (O rfl) (O rfl) (fun hg => (Own.atA (A := (RI .i64)) (v := (sl v6)) (hs.own (i := 9) rfl) he16).1)) rfl <| Wo (Run_load1 (v := (.int .i64 e15)) Tryd.underlying3 rfl (O rfl) (fun hg => (Own.cellsF (A := (RI .i64)) (v := (sl v6)) (hs.own (i := 9) rfl) he16 (fun _ h => openT3 h)).sub 0 rfl)) rfl <| Wo (Run_assign (O rfl)) rfl <| ?_
  refine WL_nil <| At_then <| WC_seq <| WC_region ?_
  refine Wo (Run_move (O rfl)) rfl <| Wo (Run_loadA (vs := [(sl v5), (sl v7), (sl v9), (sl v11), (sl v13)]) Tryd.underlying28 rfl ti28 (O rfl) (fun _ => (hs.box (i := 1) rfl).part 0 rfl) rfl) rfl <| Wo (Run_load1 (v := (sl v15)) Tryd.underlying22 rfl (O rfl) (fun _ => (hs.box (i := 7) rfl).part 0 rfl)) rfl <| Wo (Run_move (O rfl)) rfl <| ?_
  obtain ⟨r17, hr18, hm⟩ := bind_some' hm
  refine WL_call (f := 12) (first := []) (cap := []) (xs := [(.tmp 15), (.tmp 16), (.tmp 17)]) (vs := [(.agg #[(sl v5), (sl v7), (sl v9), (sl v11), (sl v13)]), (sl v15), (.int .i64 e15)]) (args := [(.agg #[(sl v5), (sl v7), (sl v9), (sl v11), (sl v13)]), (sl v15), (.int .i64 e15)]) Tryd.call12 Opd.f (.cons (O rfl) (.cons (O rfl) (.cons (O rfl) .nil))) rfl rfl (step_Fire_ok (m := (Names, Schema, Init, Procs, Cmd)) (hs.re 10 [2, 3, 4, 5, 6, 8, 0, 1, 2, 3, 4, 5, 6, 7, 8, 9] rfl) hr18) ?_
  rintro _ w21 ⟨v19, R20, rfl, hs⟩
  replace hs := Sat.n11 (Γ := Φ) hs rfl
  refine Wo (Run_extract (vs := [(sl v19), (.int .i64 r17.2)]) (O rfl) rfl) rfl <| Wo (Run_extract (vs := [(sl v19), (.int .i64 r17.2)]) (O rfl) rfl) rfl <| ?_
  replace hs := hs.freeze (i := 0) rfl
  obtain ⟨r22, hr23, hm⟩ := bind_some' hm
  refine WL_yield (l := l) (xs := [(.tmp 19), (.tmp 20)]) (vs := [(sl v19), (.int .i64 r17.2)]) (O rfl) (.cons (O rfl) (.cons (O rfl) .nil)) rfl (ih_yield (hs.re 11 [1, 0, 0, 2, 3, 4, 5, 6, 7, 8, 9, 10] rfl) hr23) ?_
  rintro _ w24 ⟨rfl, R25, hs⟩
  replace hs := Sat.n11 (Γ := Φ) hs rfl
  refine Wo (Run_notB (O rfl)) rfl <| ?_
  refine WL_nil <| At_then ?_
  refine WC_cond (O rfl) (fun hc26 => ?_) (fun hc26 => ?_)
  ·
   replace hm := bif_t hc26 hm
   refine WC_ret ?_
   refine At_blk_ret <| At_then_ret <| At_then_ret <| At_blk_ret <| ?_
   refine At_r0 rfl  ?_
   cases hm
   exact ⟨R25, rfl, (hs.re 11 [0, 2, 3, 4, 5, 6, 7, 8, 9] rfl)⟩
  ·
   replace hm := bif_f hc26 hm
   refine WC_skip ?_
   refine At_blk_normal ?_
   refine At_then <| WC_region ?_
   refine Wo (Run_add (O rfl) Opd.c) rfl <| Wo (Run_move (O rfl)) rfl <| ?_
   refine WL_nil ?_
   exact At_again (r22, (IntKind.i64.wrap (t12 + 1))) R25 hm (hs.re 11 [0, 2, 3, 4, 5, 6, 7, 8, 9, 10] rfl) rfl
 ·
  replace hm := bif_f hc14 hm
  refine WC_exit ?_
  refine At_then_exit <| At_then_exit <| At_blk_here <| ?_
  refine At_e0 rfl  ?_
  cases hm
  exact ⟨R11, rfl, (hs.re 10 [0, 1, 2, 3, 4, 5, 6, 7, 8] rfl)⟩
set_option maxRecDepth 100000 in
set_option maxHeartbeats 4000000 in
theorem step_Next_ok {Φ : Ctx} {w : World} {m : ((List Str) × (List (Int × Int)) × (List Int) × (List Str) × (List (Int × Ex × (List (Int × Ex)))))} {v11 : (List Int)} {v1 : SLV} {v3 : SLV} {v5 : SLV} {v7 : SLV} {v9 : SLV} {v12 : SLV} {r : ((List (List Int)) × Int)} (hs : Sat (imm (RSl RS) [sl v1] m.1 :: imm (RSl (RP (RI .i64) (RI .i64))) [sl v3] m.2.1 :: imm (RSl (RI .i64)) [sl v5] m.2.2.1 :: imm (RSl RS) [sl v7] m.2.2.2.1 :: imm (RSl (RP (RI .i64) (RP RExpr (RSl (RP (RI .i64) RExpr))))) [sl v9] m.2.2.2.2 :: imm (RSl (RI .i64)) [sl v12] v11 :: gl 0 (pow10L.map (Value.int .u64)) :: Φ) w) (hm : step_Next m v11 = some r) :
  CallsR Tryd.prog 14 [(.agg #[(sl v1), (sl v3), (sl v5), (sl v7), (sl v9)]), (sl v12)] w (fun v w' => ∃ v4 : SLV, ∃ R5 : List Nat, v = (.tuple #[(sl v4), (.int .i64 r.2)]) ∧ Sat (osl (RSl (RI .i64)) 22 (sl v4) r.1 R5 :: Φ) w') := by
 refine CallsX_enter Tryd.func14 rfl Tryd.ntmps14 rfl ?_
 unfold step_Next at hm
 refine WC_seq <| WC_region ?_
 refine WS_box (zs := [(sl v1), (sl v3), (sl v5), (sl v7), (sl v9)]) hs (O rfl) rfl rfl ?_
 intro b7 w8 hs
 replace hs := Sat.n8 (Γ := Φ) hs rfl
 refine WS_alloc (zs := [(sl (none, 0, 0))]) hs ti37 rfl rfl ?_
 intro b9 w10 hs
 replace hs := Sat.n9 (Γ := Φ) hs rfl
 refine WS_alloc (zs := [(.int .i64 0)]) hs ti32 rfl rfl ?_
 intro b11 w12 hs
 replace hs := Sat.n10 (Γ := Φ) hs rfl
 refine WL_nil <| At_then <| WC_seq <| WC_region ?_
 refine WS_alloc (zs := [(sl (none, 0, 0)), (.map none)]) hs ti75 rfl rfl ?_
 intro b13 w14 hs
 replace hs := Sat.n11 (Γ := Φ) hs rfl
 refine WL_nil <| At_then <| WC_seq <| WC_seq <| WC_region ?_
 refine Wo (Run_loadA (vs := [(sl v1), (sl v3), (sl v5), (sl v7), (sl v9)]) Tryd.underlying28 rfl ti28 (O rfl) (fun _ => (hs.box (i := 3) rfl).part 0 rfl) rfl) rfl <| Wo (Run_move (O rfl)) rfl <| ?_
 obtain ⟨r15, hr16, hm⟩ := bind_some' hm
 refine WL_call (f := 30) (first := []) (cap := []) (xs := [(.tmp 9), (.tmp 10)]) (vs := [(.agg #[(sl v1), (sl v3), (sl v5), (sl v7), (sl v9)]), (sl v12)]) (args := [(.agg #[(sl v1), (sl v3), (sl v5), (sl v7), (sl v9)]), (sl v12)]) Tryd.call30 Opd.f (.cons (O rfl) (.cons (O rfl) .nil)) rfl rfl (step_fired_ok (hs.re 11 [4, 5, 6, 7, 8, 9, 0, 1, 2, 3, 4, 5, 6, 7, 8, 9, 10] rfl) hr16) ?_
 rintro _ w19 ⟨v17, v18, rfl, hs⟩
 replace hs := Sat.n19 (Γ := Φ) hs rfl
 refine WL_nil <| At_then ?_
 refine WC_block ?_
 replace hs := hs.addDfrs
 replace hs := hs.re 20 [0, 1, 2, 3, 4, 5, 6, 7, 8, 9, 10, 11, 12, 13, 14, 15, 16, 17, 18, 19] rfl
 refine WC_rangeFunc (first := []) (cap := [(.pointer (some ⟨v17, 0, none⟩)), (.pointer (some ⟨v18, 0, none⟩))]) [] Tryd.call45 (O rfl) hs (fun l27 b28 rec29 w52 hr30 hs => ?_)
 replace hs := Sat.n21 (Γ := Φ) hs rfl
 replace hs := hs.addNil (RSl (RI .i64)) 22
 replace hs := hs.addNilM mk73 mv73
 replace hs : Sat (loopI l27 rec29 .ready none :: imm (RSl (RI .i64)) [sl v12] v11 :: box b9 37 [(sl (none, 0, 0))] :: box b11 32 [(.int .i64 0)] :: box b13 75 [(sl (none, 0, 0)), (.map none)] :: osl (RSl (RI .i64)) 22 (sl (none, 0, 0)) [] [] :: omap mk73 mv73 (.map none) none :: dfrs (b28 :: []) :: gl 0 (pow10L.map (Value.int .u64)) :: box v17 28 [(sl v1), (sl v3), (sl v5), (sl v7), (sl v9)] :: imm (RSl RS) [sl v1] m.1 :: imm (RSl (RP (RI .i64) (RI .i64))) [sl v3] m.2.1 :: imm (RSl (RI .i64)) [sl v5] m.2.2.1 :: imm (RSl RS) [sl v7] m.2.2.2.1 :: imm (RSl (RP (RI .i64) (RP RExpr (RSl (RP (RI .i64) RExpr))))) [sl v9] m.2.2.2.2 :: box v18 22 [(sl v12)] :: imm (RSl (RI .i64)) [sl v12] v11 :: box b7 28 [(sl v1), (sl v3), (sl v5), (sl v7), (sl v9)] :: imm (RSl RS) [sl v1] m.1 :: imm (RSl (RP (RI .i64) (RI .i64))) [sl v3] m.2.1 :: imm (RSl (RI .i64)) [sl v5] m.2.2.1 :: imm (RSl RS) [sl v7] m.2.2.2.1 :: imm (RSl (RP (RI .i64) (RP RExpr (RSl (RP (RI .i64) RExpr))))) [sl v9] m.2.2.2.2 :: imm (RSl (RI .i64)) [sl v12] v11 :: gl 0 (pow10L.map (Value.int .u64)) :: Φ) w52 := hs.re 23 [2, 21, 14, 13, 12, 1, 0, 3, 22, 4, 5, 6, 7, 8, 9, 10, 11, 15, 16, 17, 18, 19, 20, 21, 22] rfl
 obtain ⟨R53, hs⟩ := Sat.pack ((fun (y : Nat × (Int × (List (List Int)) × (Option (List (Str × Bool))))) (g : (SLV × List Nat × Option Nat)) => [loopI l27 rec29 (stOf y.1) (jmpOf [.ret] y.1), imm (RSl (RI .i64)) [sl v12] v11, box b9 37 [(sl (none, 0, 0))], box b11 32 [(.int .i64 y.2.1)], box b13 75 [(sl g.1), (.map g.2.2)], osl (RSl (RI .i64)) 22 (sl g.1) y.2.2.1 g.2.1, omap mk73 mv73 (.map g.2.2) y.2.2.2, dfrs (b28 :: []), gl 0 (pow10L.map (Value.int .u64))]) (0, (0, [], none))) ((none, 0, 0), [], none) (box v17 28 [(sl v1), (sl v3), (sl v5), (sl v7), (sl v9)] :: imm (RSl RS) [sl v1] m.1 :: imm (RSl (RP (RI .i64) (RI .i64))) [sl v3] m.2.1 :: imm (RSl (RI .i64)) [sl v5] m.2.2.1 :: imm (RSl RS) [sl v7] m.2.2.2.1 :: imm (RSl (RP (RI .i64) (RP RExpr (RSl (RP (RI .i64) RExpr))))) [sl v9] m.2.2.2.2 :: box v18 22 [(sl v12)] :: imm (RSl (RI .i64)) [sl v12] v11 :: box b7 28 [(sl v1), (sl v3), (sl v5), (sl v7), (sl v9)] :: imm (RSl RS) [sl v1] m.1 :: imm (RSl (RP (RI .i64) (RI .i64))) [sl v3] m.2.1 :: imm (RSl (RI .i64)) [sl v5] m.2.2.1 :: imm (RSl RS) [sl v7] m.2.2.2.1 :: imm (RSl (RP (RI .i64) (RP RExpr (RSl (RP (RI .i64) RExpr))))) [sl v9] m.2.2.2.2 :: imm (RSl (RI .i64)) [sl v12] v11 :: gl 0 (pow10L.map (Value.int .u64)) :: Φ) hs
 obtain ⟨r54, hr55, hm⟩ := bind_some' hm
 refine CallsR.mono (step_fired_c1_ok (τ := (Int × (List (List Int)) × (Option (List (Str × Bool))))) (J := (fun y R => pack ((fun (y : Nat × (Int × (List (List Int)) × (Option (List (Str × Bool))))) (g : (SLV × List Nat × Option Nat)) => [loopI l27 rec29 (stOf y.1) (jmpOf [.ret] y.1), imm (RSl (RI .i64)) [sl v12] v11, box b9 37 [(sl (none, 0, 0))], box b11 32 [(.int .i64 y.2.1)], box b13 75 [(sl g.1), (.map g.2.2)], osl (RSl (RI .i64)) 22 (sl g.1) y.2.2.1 g.2.1, omap mk73 mv73 (.map g.2.2) y.2.2.2, dfrs (b28 :: []), gl 0 (pow10L.map (Value.int .u64))]) y) R)) (l := l27) (k_yield := step_Next_Y1) ?_ (hs.re 17 [0, 1, 7, 2, 3, 4, 5, 6, 8, 2, 3, 4, 5, 6, 8, 9, 10, 11, 12, 13, 14, 15, 16] rfl) hr55) ?_
 ·
  intro Φ w33 y31 R32 a35 a37 v36 r hs hm
  unfold step_Next_Y1 at hm
  obtain ⟨hc34, hm⟩ := chk_some hm
  replace hc34 := Nat.eq_of_beq_eq_true hc34
  obtain ⟨⟨v23, R24, v26⟩, hs⟩ := hs.unpack
  replace hs : Sat (loopI l27 rec29 (stOf y31.1) (jmpOf [.ret] y31.1) :: imm (RSl (RI .i64)) [sl v12] v11 :: box b9 37 [(sl (none, 0, 0))] :: box b11 32 [(.int .i64 y31.2.1)] :: box b13 75 [(sl v23), (.map v26)] :: osl (RSl (RI .i64)) 22 (sl v23) y31.2.2.1 R24 :: omap mk73 mv73 (.map v26) y31.2.2.2 :: dfrs (b28 :: []) :: gl 0 (pow10L.map (Value.int .u64)) :: imm (RSl (RI .i64)) [sl v36] a35 :: Φ) w33 := hs
  rw [hc34] at hs
  replace hs : Sat (loopI l27 rec29 .ready none :: imm (RSl (RI .i64)) [sl v12] v11 :: box b9 37 [(sl (none, 0, 0))] :: box b11 32 [(.int .i64 y31.2.1)] :: box b13 75 [(sl v23), (.map v26)] :: osl (RSl (RI .i64)) 22 (sl v23) y31.2.2.1 R24 :: omap mk73 mv73 (.map v26) y31.2.2.2 :: dfrs (b28 :: []) :: gl 0 (pow10L.map (Value.int .u64)) :: imm (RSl (RI .i64)) [sl v36] a35 :: Φ) w33 := hs
  refine Yld_of (vs := [(sl v36), (.int .i64 a37)]) hr30 hs rfl rfl ?_
  refine WC.sub [(1, true, (sl v12)), (4, true, (.pointer (some ⟨b9, 0, none⟩))), (5, true, (.pointer (some ⟨b11, 0, none⟩))), (6, true, (.pointer (some ⟨b13, 0, none⟩))), (12, true, (sl v36)), (13, true, (.int .i64 a37))] rfl ?_
  refine WC_seq <| WC_region ?_
  refine Wo (Run_assign (O rfl)) rfl <| ?_
  refine WL_nil <| At_then <| WC_region ?_
  refine Wo (Run_assign (O rfl)) rfl <| ?_
  refine WL_nil ?_
  refine At_begin hr30 hs (i := 0) rfl (fun w38 hs => ?_)
  replace hs := Sat.n10 (Γ := Φ) hs rfl
  refine WC_block ?_
  refine WC_seq <| WC_seq <| WC_region ?_
  refine Wo (Run_move (O rfl)) rfl <| Wo (Run_neI (O rfl) Opd.c) rfl <| ?_
  refine WL_nil <| At_then ?_
  refine WC_cond (O rfl) (fun hc39 => ?_) (fun hc39 => ?_)
  ·
   replace hm := bif_t hc39 hm
   refine WC_seq <| WC_region ?_
   refine Wo (Run_move (O rfl)) rfl <| ?_
   refine WS_store (us := [(sl (none, 0, 0))]) (vs' := [(sl (none, 0, 0))]) hs 2 rfl ti37 (O rfl) Opd.c rfl rfl rfl rfl rfl ?_
   intro w40 hs
   replace hs := Sat.n10 (Γ := Φ) hs rfl
   refine WS_store (us := [(.int .i64 a37)]) (vs' := [(.int .i64 a37)]) hs 3 rfl ti32 (O rfl) (O rfl) rfl rfl rfl rfl rfl ?_
   intro w41 hs
   replace hs := Sat.n10 (Γ := Φ) hs rfl
   refine WL_nil <| At_then ?_
   refine WC_ret ?_
   refine At_then_ret <| At_blk_ret <| ?_
   refine At_round_ret hr30 hs (i := 0) rfl (fun w42 hs => ?_)
   cases hm
   replace hs : Sat (loopI l27 rec29 .done (some (.ret)) :: imm (RSl (RI .i64)) [sl v12] v11 :: box b9 37 [(sl (none, 0, 0))] :: box b11 32 [(.int .i64 a37)] :: box b13 75 [(sl v23), (.map v26)] :: osl (RSl (RI .i64)) 22 (sl v23) y31.2.2.1 R24 :: omap mk73 mv73 (.map v26) y31.2.2.2 :: dfrs (b28 :: []) :: gl 0 (pow10L.map (Value.int .u64)) :: Φ) w42 := hs.re 10 [0, 1, 2, 3, 4, 5, 6, 7, 8] rfl
   obtain ⟨R43, hs⟩ := Sat.pack ((fun (y : Nat × (Int × (List (List Int)) × (Option (List (Str × Bool))))) (g : (SLV × List Nat × Option Nat)) => [loopI l27 rec29 (stOf y.1) (jmpOf [.ret] y.1), imm (RSl (RI .i64)) [sl v12] v11, box b9 37 [(sl (none, 0, 0))], box b11 32 [(.int .i64 y.2.1)], box b13 75 [(sl g.1), (.map g.2.2)], osl (RSl (RI .i64)) 22 (sl g.1) y.2.2.1 g.2.1, omap mk73 mv73 (.map g.2.2) y.2.2.2, dfrs (b28 :: []), gl 0 (pow10L.map (Value.int .u64))]) (1, (a37, y31.2.2.1, y31.2.2.2))) (v23, R24, v26) Φ hs
   exact ⟨rfl, R43, hs⟩
  ·
   replace hm := bif_f hc39 hm
   refine WC_skip ?_
   refine At_then <| WC_region ?_
   refine Wo (Run_move (O rfl)) rfl <| ?_
   obtain ⟨r44, hr45, hm⟩ := bind_some' hm
   refine WL_call (f := 31) (first := []) (cap := []) (xs := [(.tmp 6), (.tmp 17)]) (vs := [(.pointer (some ⟨b13, 0, none⟩)), (sl v36)]) (args := [(.pointer (some ⟨b13, 0, none⟩)), (sl v36)]) Tryd.call31 Opd.f (.cons (O rfl) (.cons (O rfl) .nil)) rfl rfl (step_seen_add_ok (hs.re 10 [4, 9, 5, 6, 8, 0, 1, 2, 3, 7, 8, 9] rfl) hr45) ?_
   rintro _ w49 ⟨v46, R47, v48, rfl, hs⟩
   replace hs := Sat.n10 (Γ := Φ) hs rfl
   refine WL_nil ?_
   refine At_blk_normal ?_
   refine At_round hr30 hs (i := 3) rfl (fun w50 hs => ?_)
   cases hm
   replace hs : Sat (loopI l27 rec29 .ready none :: imm (RSl (RI .i64)) [sl v12] v11 :: box b9 37 [(sl (none, 0, 0))] :: box b11 32 [(.int .i64 y31.2.1)] :: box b13 75 [(sl v46), (.map v48)] :: osl (RSl (RI .i64)) 22 (sl v46) r44.1 R47 :: omap mk73 mv73 (.map v48) r44.2 :: dfrs (b28 :: []) :: gl 0 (pow10L.map (Value.int .u64)) :: Φ) w50 := hs.re 10 [3, 4, 5, 6, 0, 1, 2, 7, 8] rfl
   obtain ⟨R51, hs⟩ := Sat.pack ((fun (y : Nat × (Int × (List (List Int)) × (Option (List (Str × Bool))))) (g : (SLV × List Nat × Option Nat)) => [loopI l27 rec29 (stOf y.1) (jmpOf [.ret] y.1), imm (RSl (RI .i64)) [sl v12] v11, box b9 37 [(sl (none, 0, 0))], box b11 32 [(.int .i64 y.2.1)], box b13 75 [(sl g.1), (.map g.2.2)], osl (RSl (RI .i64)) 22 (sl g.1) y.2.2.1 g.2.1, omap mk73 mv73 (.map g.2.2) y.2.2.2, dfrs (b28 :: []), gl 0 (pow10L.map (Value.int .u64))]) (0, (y31.2.1, r44.1, r44.2))) (v46, R47, v48) Φ hs
   exact ⟨rfl, R51, hs⟩
 ·
  rintro _ w57 ⟨R56, rfl, hs⟩
  replace hs := hs.re 23 [0, 1, 2, 3, 4, 5, 6, 7, 8, 9, 10, 11, 12, 13, 14, 15, 16, 17, 18, 19, 20, 21, 22] rfl
  rcases bif_some hm with ⟨hq, hm⟩ | ⟨hq, hm⟩
  ·
   replace hq := Nat.eq_of_beq_eq_true hq
   obtain ⟨⟨v59, R60, v61⟩, hs⟩ := hs.unpack
   replace hs : Sat (loopI l27 rec29 (stOf r54.1) (jmpOf [.ret] r54.1) :: imm (RSl (RI .i64)) [sl v12] v11 :: box b9 37 [(sl (none, 0, 0))] :: box b11 32 [(.int .i64 r54.2.1)] :: box b13 75 [(sl v59), (.map v61)] :: osl (RSl (RI .i64)) 22 (sl v59) r54.2.2.1 R60 :: omap mk73 mv73 (.map v61) r54.2.2.2 :: dfrs (b28 :: []) :: gl 0 (pow10L.map (Value.int .u64)) :: box v17 28 [(sl v1), (sl v3), (sl v5), (sl v7), (sl v9)] :: imm (RSl RS) [sl v1] m.1 :: imm (RSl (RP (RI .i64) (RI .i64))) [sl v3] m.2.1 :: imm (RSl (RI .i64)) [sl v5] m.2.2.1 :: imm (RSl RS) [sl v7] m.2.2.2.1 :: imm (RSl (RP (RI .i64) (RP RExpr (RSl (RP (RI .i64) RExpr))))) [sl v9] m.2.2.2.2 :: box v18 22 [(sl v12)] :: imm (RSl (RI .i64)) [sl v12] v11 :: imm (RSl RS) [sl v1] m.1 :: imm (RSl (RP (RI .i64) (RI .i64))) [sl v3] m.2.1 :: imm (RSl (RI .i64)) [sl v5] m.2.2.1 :: imm (RSl RS) [sl v7] m.2.2.2.1 :: imm (RSl (RP (RI .i64) (RP RExpr (RSl (RP (RI .i64) RExpr))))) [sl v9] m.2.2.2.2 :: imm (RSl (RI .i64)) [sl v12] v11 :: box b7 28 [(sl v1), (sl v3), (sl v5), (sl v7), (sl v9)] :: imm (RSl RS) [sl v1] m.1 :: imm (RSl (RP (RI .i64) (RI .i64))) [sl v3] m.2.1 :: imm (RSl (RI .i64)) [sl v5] m.2.2.1 :: imm (RSl RS) [sl v7] m.2.2.2.1 :: imm (RSl (RP (RI .i64) (RP RExpr (RSl (RP (RI .i64) RExpr))))) [sl v9] m.2.2.2.2 :: imm (RSl (RI .i64)) [sl v12] v11 :: gl 0 (pow10L.map (Value.int .u64)) :: Φ) w57 := hs
   rw [hq] at hs
   refine LoopEnd.go hr30 (Γ := imm (RSl (RI .i64)) [sl v12] v11 :: box b9 37 [(sl (none, 0, 0))] :: box b11 32 [(.int .i64 r54.2.1)] :: box b13 75 [(sl v59), (.map v61)] :: osl (RSl (RI .i64)) 22 (sl v59) r54.2.2.1 R60 :: omap mk73 mv73 (.map v61) r54.2.2.2 :: dfrs (b28 :: []) :: gl 0 (pow10L.map (Value.int .u64)) :: box v17 28 [(sl v1), (sl v3), (sl v5), (sl v7), (sl v9)] :: imm (RSl RS) [sl v1] m.1 :: imm (RSl (RP (RI .i64) (RI .i64))) [sl v3] m.2.1 :: imm (RSl (RI .i64)) [sl v5] m.2.2.1 :: imm (RSl RS) [sl v7] m.2.2.2.1 :: imm (RSl (RP (RI .i64) (RP RExpr (RSl (RP (RI .i64) RExpr))))) [sl v9] m.2.2.2.2 :: box v18 22 [(sl v12)] :: imm (RSl (RI .i64)) [sl v12] v11 :: imm (RSl RS) [sl v1] m.1 :: imm (RSl (RP (RI .i64) (RI .i64))) [sl v3] m.2.1 :: imm (RSl (RI .i64)) [sl v5] m.2.2.1 :: imm (RSl RS) [sl v7] m.2.2.2.1 :: imm (RSl (RP (RI .i64) (RP RExpr (RSl (RP (RI .i64) RExpr))))) [sl v9] m.2.2.2.2 :: imm (RSl (RI .i64)) [sl v12] v11 :: box b7 28 [(sl v1), (sl v3), (sl v5), (sl v7), (sl v9)] :: imm (RSl RS) [sl v1] m.1 :: imm (RSl (RP (RI .i64) (RI .i64))) [sl v3] m.2.1 :: imm (RSl (RI .i64)) [sl v5] m.2.2.1 :: imm (RSl RS) [sl v7] m.2.2.2.1 :: imm (RSl (RP (RI .i64) (RP RExpr (RSl (RP (RI .i64) RExpr))))) [sl v9] m.2.2.2.2 :: imm (RSl (RI .i64)) [sl v12] v11 :: gl 0 (pow10L.map (Value.int .u64)) :: Φ) hs (fun w62 hs => ?_)
   refine At_blk_normal ?_
   refine At_then <| WC_seq <| WC_seq <| WC_region ?_
   refine Wo (Run_fieldAddr fo75_0 (O rfl)) rfl <| Wo (Run_load1 (v := (sl v59)) Tryd.underlying37 rfl (O rfl) (fun _ => (hs.box (i := 3) rfl).part 0 rfl)) rfl <| Wo (Run_lenSlG Tryd.underlying37 (O rfl) (fun _ => (hs.own (i := 4) rfl).len)) rfl <| Wo (Run_eqI (O rfl) Opd.c) rfl <| ?_
   refine WL_nil <| At_then ?_
   refine WC_cond (O rfl) (fun hc63 => ?_) (fun hc63 => ?_)
   ·
    replace hm := bif_t hc63 hm
    refine WC_region ?_
    refine Wo (Run_move (O rfl)) rfl <| ?_
    obtain ⟨r64, hr65, hm⟩ := bind_some' hm
    refine WL_call (f := 27) (first := []) (cap := []) (xs := [(.tmp 23)]) (vs := [(sl v12)]) (args := [(sl v12)]) Tryd.call27 Opd.f (.cons (O rfl) .nil) rfl rfl (slices_Clone_int_int_ok (hs.re 30 [0, 0, 1, 2, 3, 4, 5, 6, 7, 8, 9, 10, 11, 12, 13, 14, 15, 16, 17, 18, 19, 20, 21, 22, 23, 24, 25, 26, 27, 28, 29] rfl) hr65) ?_
    rintro _ w68 ⟨v66, R67, rfl, hs⟩
    replace hs := hs.re 31 [0, 2, 3, 4, 5, 6, 7, 8, 30] rfl
    replace hs := Sat.n9 (Γ := Φ) hs rfl
    replace hs := hs.freeze (i := 0) rfl
    obtain ⟨r69, hr70, hm⟩ := bind_some' hm
    refine WL_call (f := 31) (first := []) (cap := []) (xs := [(.tmp 6), (.tmp 24)]) (vs := [(.pointer (some ⟨b13, 0, none⟩)), (sl v66)]) (args := [(.pointer (some ⟨b13, 0, none⟩)), (sl v66)]) Tryd.call31 Opd.f (.cons (O rfl) (.cons (O rfl) .nil)) rfl rfl (step_seen_add_ok (hs.re 9 [3, 0, 4, 5, 7, 0, 1, 2, 6, 7, 8] rfl) hr70) ?_
    rintro _ w74 ⟨v71, R72, v73, rfl, hs⟩
    replace hs := Sat.n9 (Γ := Φ) hs rfl
    refine WL_nil <| At_then <| WC_seq <| WC_region ?_
    refine Wo (Run_fieldAddr fo75_0 (O rfl)) rfl <| Wo (Run_load1 (v := (sl v71)) Tryd.underlying37 rfl (O rfl) (fun _ => (hs.box (i := 0) rfl).part 0 rfl)) rfl <| ?_
    refine WS_store (us := [(sl v71)]) (vs' := [(sl v71)]) hs 4 rfl ti37 (O rfl) (O rfl) rfl rfl rfl rfl rfl ?_
    intro w75 hs
    replace hs := Sat.n9 (Γ := Φ) hs rfl
    refine WS_store (us := [(.int .i64 0)]) (vs' := [(.int .i64 0)]) hs 5 rfl ti32 (O rfl) Opd.c rfl rfl rfl rfl rfl ?_
    intro w76 hs
    replace hs := Sat.n9 (Γ := Φ) hs rfl
    refine WL_nil <| At_then ?_
    refine WC_ret ?_
    replace hs := hs.re 9 [6, 0, 1, 2, 3, 4, 5, 7, 8] rfl
    refine At_marks (b28 :: []) hs (fun w77 hs => ?_)
    refine At_r2 rfl (ResIs.c1 (vs := [(sl v71)]) rfl Tryd.underlying37 rfl ((hs.box (i := 4) rfl).part 0 rfl) rfl) (ResIs.c1 (vs := [(.int .i64 0)]) rfl Tryd.underlying32 rfl ((hs.box (i := 5) rfl).part 0 rfl) rfl) ?_
    cases hm
    exact ⟨v71, R72, rfl, (hs.re 8 [1] rfl)⟩
   ·
    replace hm := bif_f hc63 hm
    refine WC_skip ?_
    refine At_then <| WC_seq <| WC_region ?_
    refine Wo (Run_fieldAddr fo75_0 (O rfl)) rfl <| Wo (Run_load1 (v := (sl v59)) Tryd.underlying37 rfl (O rfl) (fun _ => (hs.box (i := 3) rfl).part 0 rfl)) rfl <| ?_
    refine WS_store (us := [(sl v59)]) (vs' := [(sl v59)]) hs 1 rfl ti37 (O rfl) (O rfl) rfl rfl rfl rfl rfl ?_
    intro w78 hs
    replace hs := hs.re 30 [1, 2, 4, 6, 7, 29] rfl
    replace hs := Sat.n6 (Γ := Φ) hs rfl
    refine WS_store (us := [(.int .i64 0)]) (vs' := [(.int .i64 0)]) hs 1 rfl ti32 (O rfl) Opd.c rfl rfl rfl rfl rfl ?_
    intro w79 hs
    replace hs := Sat.n6 (Γ := Φ) hs rfl
    refine WL_nil <| At_then ?_
    refine WC_ret ?_
    replace hs := hs.re 6 [3, 0, 1, 2, 4, 5] rfl
    refine At_marks (b28 :: []) hs (fun w80 hs => ?_)
    refine At_r2 rfl (ResIs.c1 (vs := [(sl v59)]) rfl Tryd.underlying37 rfl ((hs.box (i := 0) rfl).part 0 rfl) rfl) (ResIs.c1 (vs := [(.int .i64 0)]) rfl Tryd.underlying32 rfl ((hs.box (i := 1) rfl).part 0 rfl) rfl) ?_
    cases hm
    exact ⟨v59, R60, rfl, (hs.re 5 [2] rfl)⟩
  ·
   rcases bif_some hm with ⟨hq, hm⟩ | ⟨hq, hm⟩
   ·
    replace hq := Nat.eq_of_beq_eq_true hq
    obtain ⟨⟨v82, R83, v84⟩, hs⟩ := hs.unpack
    replace hs : Sat (loopI l27 rec29 (stOf r54.1) (jmpOf [.ret] r54.1) :: imm (RSl (RI .i64)) [sl v12] v11 :: box b9 37 [(sl (none, 0, 0))] :: box b11 32 [(.int .i64 r54.2.1)] :: box b13 75 [(sl v82), (.map v84)] :: osl (RSl (RI .i64)) 22 (sl v82) r54.2.2.1 R83 :: omap mk73 mv73 (.map v84) r54.2.2.2 :: dfrs (b28 :: []) :: gl 0 (pow10L.map (Value.int .u64)) :: box v17 28 [(sl v1), (sl v3), (sl v5), (sl v7), (sl v9)] :: imm (RSl RS) [sl v1] m.1 :: imm (RSl (RP (RI .i64) (RI .i64))) [sl v3] m.2.1 :: imm (RSl (RI .i64)) [sl v5] m.2.2.1 :: imm (RSl RS) [sl v7] m.2.2.2.1 :: imm (RSl (RP (RI .i64) (RP RExpr (RSl (RP (RI .i64) RExpr))))) [sl v9] m.2.2.2.2 :: box v18 22 [(sl v12)] :: imm (RSl (RI .i64)) [sl v12] v11 :: imm (RSl RS) [sl v1] m.1 :: imm (RSl (RP (RI .i64) (RI .i64))) [sl v3] m.2.1 :: imm (RSl (RI .i64)) [sl v5] m.2.2.1 :: imm (RSl RS) [sl v7] m.2.2.2.1 :: imm (RSl (RP (RI .i64) (RP RExpr (RSl (RP (RI .i64) RExpr))))) [sl v9] m.2.2.2.2 :: imm (RSl (RI .i64)) [sl v12] v11 :: box b7 28 [(sl v1), (sl v3), (sl v5), (sl v7), (sl v9)] :: imm (RSl RS) [sl v1] m.1 :: imm (RSl (RP (RI .i64) (RI .i64))) [sl v3] m.2.1 :: imm (RSl (RI .i64)) [sl v5] m.2.2.1 :: imm (RSl RS) [sl v7] m.2.2.2.1 :: imm (RSl (RP (RI .i64) (RP RExpr (RSl (RP (RI .i64) RExpr))))) [sl v9] m.2.2.2.2 :: imm (RSl (RI .i64)) [sl v12] v11 :: gl 0 (pow10L.map (Value.int .u64)) :: Φ) w57 := hs
    rw [hq] at hs
    refine LoopEnd.jump hr30 (Γ := imm (RSl (RI .i64)) [sl v12] v11 :: box b9 37 [(sl (none, 0, 0))] :: box b11 32 [(.int .i64 r54.2.1)] :: box b13 75 [(sl v82), (.map v84)] :: osl (RSl (RI .i64)) 22 (sl v82) r54.2.2.1 R83 :: omap mk73 mv73 (.map v84) r54.2.2.2 :: dfrs (b28 :: []) :: gl 0 (pow10L.map (Value.int .u64)) :: box v17 28 [(sl v1), (sl v3), (sl v5), (sl v7), (sl v9)] :: imm (RSl RS) [sl v1] m.1 :: imm (RSl (RP (RI .i64) (RI .i64))) [sl v3] m.2.1 :: imm (RSl (RI .i64)) [sl v5] m.2.2.1 :: imm (RSl RS) [sl v7] m.2.2.2.1 :: imm (RSl (RP (RI .i64) (RP RExpr (RSl (RP (RI .i64) RExpr))))) [sl v9] m.2.2.2.2 :: box v18 22 [(sl v12)] :: imm (RSl (RI .i64)) [sl v12] v11 :: imm (RSl RS) [sl v1] m.1 :: imm (RSl (RP (RI .i64) (RI .i64))) [sl v3] m.2.1 :: imm (RSl (RI .i64)) [sl v5] m.2.2.1 :: imm (RSl RS) [sl v7] m.2.2.2.1 :: imm (RSl (RP (RI .i64) (RP RExpr (RSl (RP (RI .i64) RExpr))))) [sl v9] m.2.2.2.2 :: imm (RSl (RI .i64)) [sl v12] v11 :: box b7 28 [(sl v1), (sl v3), (sl v5), (sl v7), (sl v9)] :: imm (RSl RS) [sl v1] m.1 :: imm (RSl (RP (RI .i64) (RI .i64))) [sl v3] m.2.1 :: imm (RSl (RI .i64)) [sl v5] m.2.2.1 :: imm (RSl RS) [sl v7] m.2.2.2.1 :: imm (RSl (RP (RI .i64) (RP RExpr (RSl (RP (RI .i64) RExpr))))) [sl v9] m.2.2.2.2 :: imm (RSl (RI .i64)) [sl v12] v11 :: gl 0 (pow10L.map (Value.int .u64)) :: Φ) (c := .ret) hs (fun w85 hs => ?_)
    refine WC_ret ?_
    refine At_blk_ret <| At_then_ret <| ?_
    replace hs := hs.re 30 [6, 0, 1, 2, 3, 4, 5, 7, 8, 9, 10, 11, 12, 13, 14, 15, 16, 17, 18, 19, 20, 21, 22, 23, 24, 25, 26, 27, 28, 29] rfl
    refine At_marks (b28 :: []) hs (fun w86 hs => ?_)
    refine At_r2 rfl (ResIs.c1 (vs := [(sl (none, 0, 0))]) rfl Tryd.underlying37 rfl ((hs.box (i := 1) rfl).part 0 rfl) rfl) (ResIs.c1 (vs := [(.int .i64 r54.2.1)]) rfl Tryd.underlying32 rfl ((hs.box (i := 2) rfl).part 0 rfl) rfl) ?_
    replace hs := hs.addNil (RSl (RI .i64)) 22
    cases hm
    exact ⟨(none, 0, 0), [], rfl, (hs.re 30 [0] rfl)⟩
   ·
    cases hm
set_option maxRecDepth 100000 in
set_option maxHeartbeats 4000000 in
theorem step_Reach_ok {Φ : Ctx} {w : World} {m : ((List Str) × (List (Int × Int)) × (List Int) × (List Str) × (List (Int × Ex × (List (Int × Ex)))))} {most : Int} {v1 : SLV} {v3 : SLV} {v5 : SLV} {v7 : SLV} {v9 : SLV} {r : ((List (List Int)) × Int × (List Int))} (hs : Sat (imm (RSl RS) [sl v1] m.1 :: imm (RSl (RP (RI .i64) (RI .i64))) [sl v3] m.2.1 :: imm (RSl (RI .i64)) [sl v5] m.2.2.1 :: imm (RSl RS) [sl v7] m.2.2.2.1 :: imm (RSl (RP (RI .i64) (RP RExpr (RSl (RP (RI .i64) RExpr))))) [sl v9] m.2.2.2.2 :: gl 0 (pow10L.map (Value.int .u64)) :: Φ) w) (hm : step_Reach m most = some r) :
  CallsR Tryd.prog 20 [(.agg #[(sl v1), (sl v3), (sl v5), (sl v7), (sl v9)]), (.int .i64 most)] w (fun v w' => ∃ v4 : SLV, ∃ R5 : List Nat, ∃ v8 : SLV, v = (.tuple #[(sl v4), (.int .i64 r.2.1), (sl v8)]) ∧ Sat (osl (RSl (RI .i64)) 22 (sl v4) r.1 R5 :: imm (RSl (RI .i64)) [sl v8] r.2.2 :: Φ) w') := by
 refine CallsX_enter Tryd.func20 rfl Tryd.ntmps20 rfl ?_
 unfold step_Reach at hm
 refine WC_seq <| WC_region ?_
 refine WS_box (zs := [(sl v1), (sl v3), (sl v5), (sl v7), (sl v9)]) hs (O rfl) rfl rfl ?_
 intro b9 w10 hs
 replace hs := Sat.n7 (Γ := Φ) hs rfl
 refine Wo (Run_assign Opd.c) rfl <| Wo (Run_assign Opd.c) rfl <| Wo (Run_assign Opd.c) rfl <| ?_
 refine WL_nil <| At_then <| WC_seq <| WC_region ?_
 refine WS_alloc (zs := [(sl (none, 0, 0)), (.map none)]) hs ti75 rfl rfl ?_
 intro b11 w12 hs
 replace hs := Sat.n8 (Γ := Φ) hs rfl
 refine WL_nil <| At_then <| WC_seq <| WC_region ?_
 refine Wo (Run_fieldAddr fo28_2 (O rfl)) rfl <| Wo (Run_load1 (v := (sl v5)) Tryd.underlying22 rfl (O rfl) (fun _ => (hs.box (i := 1) rfl).part 2 rfl)) rfl <| ?_
 obtain ⟨r13, hr14, hm⟩ := bind_some' hm
 refine WL_call (f := 27) (first := []) (cap := []) (xs := [(.tmp 14)]) (vs := [(sl v5)]) (args := [(sl v5)]) Tryd.call27 Opd.f (.cons (O rfl) .nil) rfl rfl (slices_Clone_int_int_ok (hs.re 8 [4, 0, 1, 2, 3, 4, 5, 6, 7] rfl) hr14) ?_
 rintro _ w17 ⟨v15, R16, rfl, hs⟩
 replace hs := Sat.n9 (Γ := Φ) hs rfl
 replace hs := hs.freeze (i := 0) rfl
 replace hs := hs.addNil (RSl (RI .i64)) 22
 replace hs := hs.addNilM mk73 mv73
 obtain ⟨r18, hr19, hm⟩ := bind_some' hm
 refine WL_call (f := 31) (first := []) (cap := []) (xs := [(.tmp 7), (.tmp 15)]) (vs := [(.pointer (some ⟨b11, 0, none⟩)), (sl v15)]) (args := [(.pointer (some ⟨b11, 0, none⟩)), (sl v15)]) Tryd.call31 Opd.f (.cons (O rfl) (.cons (O rfl) .nil)) rfl rfl (step_seen_add_ok (hs.re 11 [3, 2, 1, 0, 10, 2, 4, 5, 6, 7, 8, 9, 10] rfl) hr19) ?_
 rintro _ w23 ⟨v20, R21, v22, rfl, hs⟩
 replace hs := Sat.n11 (Γ := Φ) hs rfl
 refine WL_nil <| At_then <| WC_seq <| WC_seq <| WC_region ?_
 refine Wo (Run_assign Opd.c) rfl <| ?_
 refine WL_nil <| At_then ?_
 refine WC_block ?_
 refine WC_loop (σ := (List (List Int)) × (Option (List (Str × Bool))) × Int) (γ := SLV × List Nat × Option Nat) (F := (step_Reach_L1 m most)) (N := FUEL) (s0 := (r18.1, r18.2, 0)) (r := r) (fun ⟨c25, c28, i30⟩ ⟨v26, R27, v29⟩ w24 => Sat (box b9 28 [(sl v1), (sl v3), (sl v5), (sl v7), (sl v9)] :: imm (RSl RS) [sl v1] m.1 :: imm (RSl (RP (RI .i64) (RI .i64))) [sl v3] m.2.1 :: imm (RSl (RI .i64)) [sl v5] m.2.2.1 :: imm (RSl RS) [sl v7] m.2.2.2.1 :: imm (RSl (RP (RI .i64) (RP RExpr (RSl (RP (RI .i64) RExpr))))) [sl v9] m.2.2.2.2 :: box b11 75 [(sl v26), (.map v29)] :: osl (RSl (RI .i64)) 22 (sl v26) c25 R27 :: omap mk73 mv73 (.map v29) c28 :: gl 0 (pow10L.map (Value.int .u64)) :: Φ) w24) (fun ⟨c25, c28, i30⟩ ⟨v26, R27, v29⟩ => [(1, true, (.int .i64 most)), (2, true, (.pointer (some ⟨b9, 0, none⟩))), (7, true, (.pointer (some ⟨b11, 0, none⟩))), (8, true, (.int .i64 i30))]) hm (v20, R21, v22) (hs.re 11 [4, 5, 6, 7, 8, 9, 0, 1, 2, 10] rfl) rfl ?_
 rintro again31 ⟨c25, c28, i30⟩ ⟨v26, R27, v29⟩ w24 hm hs
 unfold step_Reach_L1 at hm
 dsimp only at hm
 refine WC_seq <| WC_seq <| WC_region ?_
 refine Wo (Run_move (O rfl)) rfl <| Wo (Run_fieldAddr fo75_0 (O rfl)) rfl <| Wo (Run_load1 (v := (sl v26)) Tryd.underlying37 rfl (O rfl) (fun _ => (hs.box (i := 6) rfl).part 0 rfl)) rfl <| Wo (Run_lenSlG Tryd.underlying37 (O rfl) (fun _ => (hs.own (i := 7) rfl).len)) rfl <| ?_
 obtain ⟨b32, e33, hm⟩ := letv_some hm
 refine Wo (Run.eqB (Run_ltI (O rfl) (O rfl)) e33) rfl <| Wo (Run_move (O rfl)) rfl <| WL_opG rfl rfl rfl rfl guard_pos (Run_fieldAddr fo75_0 (O rfl)) rfl rfl rfl <| WL_opG rfl rfl rfl rfl guard_pos (Run_load1 (v := (sl v26)) Tryd.underlying37 rfl (Opd.g rfl id) (fun _ => (hs.box (i := 6) rfl).part 0 rfl)) rfl rfl rfl <| WL_opG rfl rfl rfl rfl guard_pos (Run_lenSlG Tryd.underlying37 (Opd.g rfl id) (fun _ => (hs.own (i := 7) rfl).len)) rfl rfl rfl <| WL_opG rfl rfl rfl rfl guard_pos (Run_move (O rfl)) rfl rfl rfl <| ?_
 obtain ⟨b34, e35, hm⟩ := letv_some hm
 refine WL_opG rfl rfl rfl rfl guard_pos (Run.eqB (Run_leI (Opd.g rfl id) (Opd.g rfl id)) e35) rfl rfl rfl <| ?_
 obtain ⟨b36, e37, hm⟩ := letv_some hm
 refine Wo (Run.eqB (Run_and (O rfl) (Opd.g rfl id)) e37) rfl <| ?_
 refine WL_nil <| At_then ?_
 refine WC_cond (O rfl) (fun hc38 => ?_) (fun hc38 => ?_)
 ·
  replace hm := bif_t hc38 hm
  refine WC_skip ?_
  refine At_then <| WC_seq ?_
  refine WC_block ?_
  refine WC_seq ?_
  refine WC_region_mixed [0, 0, 2, 0, 12, 16, 33, 64, 128, 128, 511, 2047] (.q 0 0 (.q 1 1 (.q 2 3 (.q 3 7 (.q 4 15 (.q 5 31 (.l 6 63 (.q 7 127 (.q 8 255 (.q 9 511 (.q 10 1023 (.q 11 2047 .nil)))))))))))) (by kernel_rfl) (by kernel_rfl) ?_
  intro w39 hx40
  replace hs := hs.ext hx40
  refine WD_op (fun w => CellsAt w ⟨b9, 0, none⟩ [(sl v1), (sl v3), (sl v5), (sl v7), (sl v9)]) ((hs.box (i := 0) rfl).part 0 rfl) (fun _ hJ => (Run_loadA (vs := [(sl v1), (sl v3), (sl v5), (sl v7), (sl v9)]) Tryd.underlying28 rfl ti28 (O rfl) (fun _ => hJ) rfl)) rfl rfl rfl rfl <| WD_pure (fun _ => (Run_fieldAddr fo75_0 (O rfl))) rfl rfl rfl rfl <| WD_op (fun w => CellsAt w ⟨b11, 0, none⟩ [(sl v26)]) ((hs.box (i := 6) rfl).part 0 rfl) (fun _ hJ => (Run_load1 (v := (sl v26)) Tryd.underlying37 rfl (O rfl) (fun _ => hJ))) rfl rfl rfl rfl <| WD_pure (fun _ => (Run_move (O rfl))) rfl rfl rfl rfl <| ?_
  obtain ⟨e41, he42, hm⟩ := bind_some' hm
  obtain ⟨v43, hC44, hN45, hR46⟩ := cellsMO22 (g := true) (fun hg => (hs.own (i := 7) rfl)) (fun hg => he42)
  replace hs := hs.addL [imm (RSl (RI .i64)) [sl v43] e41] rfl ⟨⟨_, rfl, hR46 rfl⟩, trivial⟩
  replace hs := Sat.n11 (Γ := Φ) hs rfl
  refine WD_pure (fun _ => (Run_idxAddr (p := (elA (sl v26) i30 1)) Tryd.underlying37 ti22 (O rfl) (O rfl) (fun hg => (Own.atA (A := (RSl (RI .i64))) (v := (sl v26)) (hs.own (i := 8) rfl) he42).1))) rfl rfl rfl rfl <| WD_op (fun w => true = true → CellsAt w (elA (sl v26) i30 1) [(sl v43)]) (fun hg => (hC44 hg).sub 0 rfl) (fun _ hJ => (Run_load1 (v := (sl v43)) Tryd.underlying22 rfl (O rfl) hJ)) rfl rfl rfl rfl <| ?_
  refine WD_loud (pend' := [(2, fun w => CellsAt w ⟨b11, 0, none⟩ [(sl v26)])]) rfl (by kernel_rfl) ?_
  obtain ⟨r47, hr48, hm⟩ := bind_some' hm
  refine WL_call (f := 14) (first := []) (cap := []) (xs := [(.tmp 32), (.tmp 37)]) (vs := [(.agg #[(sl v1), (sl v3), (sl v5), (sl v7), (sl v9)]), (sl v43)]) (args := [(.agg #[(sl v1), (sl v3), (sl v5), (sl v7), (sl v9)]), (sl v43)]) Tryd.call14 Opd.f (.cons (O rfl) (.cons (O rfl) .nil)) rfl rfl (step_Next_ok (hs.re 11 [2, 3, 4, 5, 6, 0, 10, 0, 1, 2, 3, 4, 5, 6, 7, 8, 9, 10] rfl) hr48) ?_
  rintro _ w51 ⟨v49, R50, rfl, hs⟩
  replace hs := Sat.n12 (Γ := Φ) hs rfl
  refine WL_nil ?_
  refine At_QK (allJ_cons ((hs.box (i := 8) rfl).part 0 rfl) allJ_nil) ?_
  refine WD_pure (fun _ => (Run_move (O rfl))) rfl rfl rfl rfl <| WD_pure (fun _ => (Run_extract (vs := [(sl v49), (.int .i64 r47.2)]) (O rfl) rfl)) rfl rfl rfl rfl <| WD_pure (fun _ => (Run_extract (vs := [(sl v49), (.int .i64 r47.2)]) (O rfl) rfl)) rfl rfl rfl rfl <| WD_pure (fun _ => (Run_assign (O rfl))) rfl rfl rfl rfl <| WD_pure (fun _ => (Run_assign (O rfl))) rfl rfl rfl rfl <| ?_
  refine WD_nil ?_
  refine At_then <| WC_seq <| WC_seq <| WC_region ?_
  refine Wo (Run_move (O rfl)) rfl <| Wo (Run_neI (O rfl) Opd.c) rfl <| ?_
  refine WL_nil <| At_then ?_
  refine WC_cond (O rfl) (fun hc52 => ?_) (fun hc52 => ?_)
  ·
   replace hm := bif_t hc52 hm
   refine WC_seq ?_
   refine WC_region_mixed [0, 0, 2, 0, 12, 16, 0, 65, 255] (.q 0 0 (.q 1 1 (.q 2 3 (.q 3 7 (.q 4 15 (.q 5 31 (.q 6 63 (.q 7 127 (.q 8 255 .nil))))))))) (by kernel_rfl) (by kernel_rfl) ?_
   intro w53 hx54
   replace hs := hs.ext hx54
   refine WD_pure (fun _ => (Run_move (O rfl))) rfl rfl rfl rfl <| WD_pure (fun _ => (Run_fieldAddr fo75_0 (O rfl))) rfl rfl rfl rfl <| WD_op (fun w => CellsAt w ⟨b11, 0, none⟩ [(sl v26)]) ((hs.box (i := 8) rfl).part 0 rfl) (fun _ hJ => (Run_load1 (v := (sl v26)) Tryd.underlying37 rfl (O rfl) (fun _ => hJ))) rfl rfl rfl rfl <| WD_pure (fun _ => (Run_move (O rfl))) rfl rfl rfl rfl <| ?_
   obtain ⟨e55, he56, hm⟩ := bind_some' hm
   obtain ⟨v57, hC58, hN59, hR60⟩ := cellsMO22 (g := true) (fun hg => (hs.own (i := 9) rfl)) (fun hg => he56)
   replace hs := hs.addL [imm (RSl (RI .i64)) [sl v57] e55] rfl ⟨⟨_, rfl, hR60 rfl⟩, trivial⟩
   replace hs := Sat.n13 (Γ := Φ) hs rfl
   refine WD_pure (fun _ => (Run_idxAddr (p := (elA (sl v26) i30 1)) Tryd.underlying37 ti22 (O rfl) (O rfl) (fun hg => (Own.atA (A := (RSl (RI .i64))) (v := (sl v26)) (hs.own (i := 10) rfl) he56).1))) rfl rfl rfl rfl <| WD_op (fun w => true = true → CellsAt w (elA (sl v26) i30 1) [(sl v57)]) (fun hg => (hC58 hg).sub 0 rfl) (fun _ hJ => (Run_load1 (v := (sl v57)) Tryd.underlying22 rfl (O rfl) hJ)) rfl rfl rfl rfl <| WD_pure (fun _ => (Run_assign Opd.c)) rfl rfl rfl rfl <| WD_pure (fun _ => (Run_assign (O rfl))) rfl rfl rfl rfl <| WD_pure (fun _ => (Run_assign (O rfl))) rfl rfl rfl rfl <| ?_
   refine WD_nil ?_
   refine At_then ?_
   refine WC_ret ?_
   refine At_then_ret <| At_blk_ret <| At_then_ret <| At_then_ret <| At_blk_ret <| At_then_ret <| ?_
   refine At_r3 rfl (ResIs.t rfl) (ResIs.t rfl) (ResIs.t rfl) ?_
   replace hs := hs.addNil (RSl (RI .i64)) 22
   cases hm
   exact ⟨(none, 0, 0), [], v57, rfl, (hs.re 14 [0, 1] rfl)⟩
  ·
   replace hm := bif_f hc52 hm
   refine WC_skip ?_
   refine At_then <| WC_seq <| WC_region ?_
   refine Wo (Run_move (O rfl)) rfl <| Wo (Run_lenSlG Tryd.underlying37 (O rfl) (fun _ => (hs.own (i := 0) rfl).len)) rfl <| Wo (Run_move Opd.c) rfl <| ?_
   refine WL_nil <| At_then ?_
   refine WC_block ?_
   refine WC_loop (σ := (List (List Int)) × (Option (List (Str × Bool))) × Int) (γ := SLV × List Nat × Option Nat) (F := (step_Reach_L2 i30 again31 r47)) (N := FUEL) (s0 := (c25, c28, 0)) (r := r) (fun ⟨c62, c65, t67⟩ ⟨v63, R64, v66⟩ w61 => Sat (box b9 28 [(sl v1), (sl v3), (sl v5), (sl v7), (sl v9)] :: imm (RSl RS) [sl v1] m.1 :: imm (RSl (RP (RI .i64) (RI .i64))) [sl v3] m.2.1 :: imm (RSl (RI .i64)) [sl v5] m.2.2.1 :: imm (RSl RS) [sl v7] m.2.2.2.1 :: imm (RSl (RP (RI .i64) (RP RExpr (RSl (RP (RI .i64) RExpr))))) [sl v9] m.2.2.2.2 :: box b11 75 [(sl v63), (.map v66)] :: osl (RSl (RI .i64)) 22 (sl v63) c62 R64 :: omap mk73 mv73 (.map v66) c65 :: osl (RSl (RI .i64)) 22 (sl v49) r47.1 R50 :: gl 0 (pow10L.map (Value.int .u64)) :: Φ) w61) (fun ⟨c62, c65, t67⟩ ⟨v63, R64, v66⟩ => [(1, true, (.int .i64 most)), (2, true, (.pointer (some ⟨b9, 0, none⟩))), (7, true, (.pointer (some ⟨b11, 0, none⟩))), (8, true, (.int .i64 i30)), (49, true, (sl v49)), (50, true, (.int .i64 (List.length r47.1 : Int))), (51, true, (.int .i64 t67))]) hm (v26, R27, v29) (hs.re 12 [2, 3, 4, 5, 6, 7, 8, 9, 10, 0, 11] rfl) rfl ?_
   rintro again68 ⟨c62, c65, t67⟩ ⟨v63, R64, v66⟩ w61 hm hs
   unfold step_Reach_L2 at hm
   dsimp only at hm
   refine WC_seq <| WC_region ?_
   refine Wo (Run_ltI (O rfl) (O rfl)) rfl <| ?_
   refine WL_nil <| At_then <| WC_seq ?_
   refine WC_cond (O rfl) (fun hc69 => ?_) (fun hc69 => ?_)
   ·
    replace hm := bif_t hc69 hm
    refine WC_skip ?_
    refine At_then <| WC_seq ?_
    refine WC_block ?_
    refine WC_seq <| WC_region ?_
    obtain ⟨e70, he71, hm⟩ := bind_some' hm
    obtain ⟨v72, hC73, hN74, hR75⟩ := cellsMO22 (g := true) (fun hg => (hs.own (i := 9) rfl)) (fun hg => he71)
    replace hs := hs.addL [imm (RSl (RI .i64)) [sl v72] e70] rfl ⟨⟨_, rfl, hR75 rfl⟩, trivial⟩
    replace hs := Sat.n12 (Γ := Φ) hs rfl
    refine Wo (Run_idxAddr (p := (elA (sl v49) t67 1)) Tryd.underlying37 ti22 (O rfl) (O rfl) (fun hg => (Own.atA (A := (RSl (RI .i64))) (v := (sl v49)) (hs.own (i := 10) rfl) he71).1)) rfl <| Wo (Run_load1 (v := (sl v72)) Tryd.underlying22 rfl (O rfl) (fun hg => (hC73 hg).sub 0 rfl)) rfl <| Wo (Run_assign (O rfl)) rfl <| ?_
    refine WL_nil <| At_then <| WC_region ?_
    refine Wo (Run_move (O rfl)) rfl <| ?_
    obtain ⟨r76, hr77, hm⟩ := bind_some' hm
    refine WL_call (f := 31) (first := []) (cap := []) (xs := [(.tmp 7), (.tmp 55)]) (vs := [(.pointer (some ⟨b11, 0, none⟩)), (sl v72)]) (args := [(.pointer (some ⟨b11, 0, none⟩)), (sl v72)]) Tryd.call31 Opd.f (.cons (O rfl) (.cons (O rfl) .nil)) rfl rfl (step_seen_add_ok (hs.re 12 [7, 0, 8, 9, 11, 0, 1, 2, 3, 4, 5, 6, 10, 11] rfl) hr77) ?_
    rintro _ w81 ⟨v78, R79, v80, rfl, hs⟩
    replace hs := Sat.n12 (Γ := Φ) hs rfl
    refine WL_nil ?_
    refine At_blk_normal ?_
    refine At_then <| WC_region ?_
    refine Wo (Run_add (O rfl) Opd.c) rfl <| Wo (Run_move (O rfl)) rfl <| ?_
    refine WL_nil ?_
    exact At_again (r76.1, r76.2, (IntKind.i64.wrap (t67 + 1))) (v78, R79, v80) hm (hs.re 12 [4, 5, 6, 7, 8, 9, 0, 1, 2, 10, 11] rfl) rfl
   ·
    replace hm := bif_f hc69 hm
    refine WC_exit ?_
    refine At_then_exit <| At_then_exit <| At_blk_here <| ?_
    refine At_blk_normal ?_
    refine At_then <| WC_region ?_
    refine Wo (Run_move (O rfl)) rfl <| Wo (Run_add (O rfl) Opd.c) rfl <| Wo (Run_assign (O rfl)) rfl <| ?_
    refine WL_nil ?_
    exact At_again (c62, c65, (IntKind.i64.wrap (i30 + 1))) (v63, R64, v66) hm (hs.re 11 [0, 1, 2, 3, 4, 5, 6, 7, 8, 10] rfl) rfl
 ·
  replace hm := bif_f hc38 hm
  refine WC_exit ?_
  refine At_then_exit <| At_then_exit <| At_blk_here <| ?_
  refine At_then <| WC_seq <| WC_seq <| WC_region ?_
  refine Wo (Run_fieldAddr fo75_0 (O rfl)) rfl <| Wo (Run_load1 (v := (sl v26)) Tryd.underlying37 rfl (O rfl) (fun _ => (hs.box (i := 6) rfl).part 0 rfl)) rfl <| Wo (Run_lenSlG Tryd.underlying37 (O rfl) (fun _ => (hs.own (i := 7) rfl).len)) rfl <| Wo (Run_move (O rfl)) rfl <| Wo (Run_gtI (O rfl) (O rfl)) rfl <| ?_
  refine WL_nil <| At_then ?_
  refine WC_cond (O rfl) (fun hc82 => ?_) (fun hc82 => ?_)
  ·
   replace hm := bif_t hc82 hm
   refine WC_seq <| WC_region ?_
   refine Wo (Run_assign Opd.c) rfl <| Wo (Run_assign Opd.c) rfl <| Wo (Run_assign Opd.c) rfl <| ?_
   refine WL_nil <| At_then ?_
   refine WC_ret ?_
   refine At_then_ret <| ?_
   refine At_r3 rfl (ResIs.t rfl) (ResIs.t rfl) (ResIs.t rfl) ?_
   replace hs := hs.addNil (RSl (RI .i64)) 22
   replace hs := hs.addNilI (RI .i64)
   cases hm
   exact ⟨(none, 0, 0), [], (none, 0, 0), rfl, (hs.re 12 [1, 0] rfl)⟩
  ·
   replace hm := bif_f hc82 hm
   refine WC_skip ?_
   refine At_then <| WC_seq <| WC_region ?_
   refine Wo (Run_fieldAddr fo75_0 (O rfl)) rfl <| Wo (Run_load1 (v := (sl v26)) Tryd.underlying37 rfl (O rfl) (fun _ => (hs.box (i := 6) rfl).part 0 rfl)) rfl <| Wo (Run_assign (O rfl)) rfl <| Wo (Run_assign Opd.c) rfl <| Wo (Run_assign Opd.c) rfl <| ?_
   refine WL_nil <| At_then ?_
   refine WC_ret ?_
   refine At_r3 rfl (ResIs.t rfl) (ResIs.t rfl) (ResIs.t rfl) ?_
   replace hs := hs.addNilI (RI .i64)
   cases hm
   exact ⟨v26, R27, (none, 0, 0), rfl, (hs.re 11 [8, 0] rfl)⟩
set_option maxRecDepth 100000 in
set_option maxHeartbeats 4000000 in
theorem scrutinyref02_Vec_ok {Φ : Ctx} {w : World} {a : (List Int)} {b : (List Int)} {v1 : SLV} {v3 : SLV} {r : Bool} (hs : Sat (imm (RSl (RI .i64)) [sl v1] a :: imm (RSl (RI .i64)) [sl v3] b :: Φ) w) (hm : scrutinyref02_Vec a b = some r) :
  CallsR Tryd.prog 16 [(sl v1), (sl v3)] w (fun v w' => v = (.bool r) ∧ Sat (Φ) w') := by
 refine CallsX_enter Tryd.func16 rfl Tryd.ntmps16 rfl ?_
 unfold scrutinyref02_Vec at hm
 refine WC_seq <| WC_region ?_
 refine Wo (Run_assign Opd.c) rfl <| ?_
 refine WL_nil <| At_then <| WC_seq <| WC_seq <| WC_region ?_
 refine Wo (Run_move (O rfl)) rfl <| Wo (Run_lenSlG Tryd.underlying22 (O rfl) (fun hg => (hs.sl (i := 0) rfl).len)) rfl <| Wo (Run_move (O rfl)) rfl <| Wo (Run_lenSlG Tryd.underlying22 (O rfl) (fun hg => (hs.sl (i := 1) rfl).len)) rfl <| Wo (Run_neI (O rfl) (O rfl)) rfl <| ?_
 refine WL_nil <| At_then ?_
 refine WC_cond (O rfl) (fun hc3 => ?_) (fun hc3 => ?_)
 ·
  replace hm := bif_t hc3 hm
  refine WC_seq <| WC_region ?_
  refine Wo (Run_assign Opd.c) rfl <| ?_
  refine WL_nil <| At_then ?_
  refine WC_ret ?_
  refine At_then_ret <| ?_
  refine At_r1 rfl (ResIs.t rfl) ?_
  cases hm
  exact ⟨rfl, (hs.re 2 [] rfl)⟩
 ·
  replace hm := bif_f hc3 hm
  refine WC_skip ?_
  refine At_then <| WC_seq <| WC_seq <| WC_region ?_
  refine Wo (Run_assign Opd.c) rfl <| ?_
  refine WL_nil <| At_then ?_
  refine WC_block ?_
  refine WC_loop (σ := Int) (γ := Unit) (F := (scrutinyref02_Vec_L1 a b)) (N := FUEL) (s0 := 0) (r := r) (fun i5 (_ : Unit) w4 => Sat (imm (RSl (RI .i64)) [sl v1] a :: imm (RSl (RI .i64)) [sl v3] b :: Φ) w4) (fun i5 (_ : Unit) => [(0, true, (sl v1)), (1, true, (sl v3)), (5, true, (.int .i64 i5))]) hm () (hs.re 2 [0, 1] rfl) rfl ?_
  rintro again6 i5 _ w4 hm hs
  unfold scrutinyref02_Vec_L1 at hm
  refine WC_seq <| WC_seq <| WC_region ?_
  refine Wo (Run_move (O rfl)) rfl <| Wo (Run_move (O rfl)) rfl <| Wo (Run_lenSlG Tryd.underlying22 (O rfl) (fun hg => (hs.sl (i := 0) rfl).len)) rfl <| Wo (Run_ltI (O rfl) (O rfl)) rfl <| ?_
  refine WL_nil <| At_then ?_
  refine WC_cond (O rfl) (fun hc7 => ?_) (fun hc7 => ?_)
  ·
   replace hm := bif_t hc7 hm
   refine WC_skip ?_
   refine At_then <| WC_seq ?_
   refine WC_block ?_
   refine WC_seq ?_
   refine WC_region_mixed [0, 0, 3, 4, 0, 0, 48, 64, 136] (.q 0 0 (.q 1 1 (.q 2 3 (.q 3 7 (.q 4 15 (.q 5 31 (.q 6 63 (.q 7 127 (.q 8 255 .nil))))))))) (by kernel_rfl) (by kernel_rfl) ?_
   intro w8 hx9
   replace hs := hs.ext hx9
   refine WD_pure (fun _ => (Run_move (O rfl))) rfl rfl rfl rfl <| WD_pure (fun _ => (Run_move (O rfl))) rfl rfl rfl rfl <| ?_
   obtain ⟨e10, he11, hm⟩ := bind_some' hm
   refine WD_pure (fun _ => (Run_idxAddr (p := (elA (sl v1) i5 1)) Tryd.underlying22 ti3 (O rfl) (O rfl) (fun hg => (SRd.atA (A := (RI .i64)) (v := (sl v1)) (hs.sl (i := 0) rfl) he11).1))) rfl rfl rfl rfl <| WD_op (fun w => true = true → CellsAt w (elA (sl v1) i5 1) [(.int .i64 e10)]) (fun hg => (SRd.cellsF (A := (RI .i64)) (v := (sl v1)) (hs.sl (i := 0) rfl) he11 (fun _ h => openT3 h)).sub 0 rfl) (fun _ hJ => (Run_load1 (v := (.int .i64 e10)) Tryd.underlying3 rfl (O rfl) hJ)) rfl rfl rfl rfl <| WD_pure (fun _ => (Run_move (O rfl))) rfl rfl rfl rfl <| WD_pure (fun _ => (Run_move (O rfl))) rfl rfl rfl rfl <| ?_
   obtain ⟨e12, he13, hm⟩ := bind_some' hm
   refine WD_pure (fun _ => (Run_idxAddr (p := (elA (sl v3) i5 1)) Tryd.underlying22 ti3 (O rfl) (O rfl) (fun hg => (SRd.atA (A := (RI .i64)) (v := (sl v3)) (hs.sl (i := 1) rfl) he13).1))) rfl rfl rfl rfl <| WD_op (fun w => true = true → CellsAt w (elA (sl v3) i5 1) [(.int .i64 e12)]) (fun hg => (SRd.cellsF (A := (RI .i64)) (v := (sl v3)) (hs.sl (i := 1) rfl) he13 (fun _ h => openT3 h)).sub 0 rfl) (fun _ hJ => (Run_load1 (v := (.int .i64 e12)) Tryd.underlying3 rfl (O rfl) hJ)) rfl rfl rfl rfl <| WD_pure (fun _ => (Run_neI (O rfl) (O rfl))) rfl rfl rfl rfl <| ?_
   refine WD_nil ?_
   refine At_then ?_
   refine WC_cond (O rfl) (fun hc14 => ?_) (fun hc14 => ?_)
   ·
    replace hm := bif_t hc14 hm
    refine WC_seq <| WC_region ?_
    refine Wo (Run_assign Opd.c) rfl <| ?_
    refine WL_nil <| At_then ?_
    refine WC_ret ?_
    refine At_blk_ret <| At_then_ret <| At_then_ret <| At_blk_ret <| At_then_ret <| ?_
    refine At_r1 rfl (ResIs.t rfl) ?_
    cases hm
    exact ⟨rfl, (hs.re 2 [] rfl)⟩
   ·
    replace hm := bif_f hc14 hm
    refine WC_skip ?_
    refine At_blk_normal ?_
    refine At_then <| WC_region ?_
    refine Wo (Run_move (O rfl)) rfl <| Wo (Run_add (O rfl) Opd.c) rfl <| Wo (Run_assign (O rfl)) rfl <| ?_
    refine WL_nil ?_
    exact At_again (IntKind.i64.wrap (i5 + 1)) () hm (hs.re 2 [0, 1] rfl) rfl
  ·
   replace hm := bif_f hc7 hm
   refine WC_exit ?_
   refine At_then_exit <| At_then_exit <| At_blk_here <| ?_
   refine At_then <| WC_seq <| WC_region ?_
   refine Wo (Run_assign Opd.c) rfl <| ?_
   refine WL_nil <| At_then ?_
   refine WC_ret ?_
   refine At_r1 rfl (ResIs.t rfl) ?_
   cases hm
   exact ⟨rfl, (hs.re 2 [] rfl)⟩
end Go.Proofs.YtjdabjpjafkogaaDoor
namespace Go.Proofs.YtjdabjpjafkogaaDoor
open Go.Proofs
set_option maxRecDepth 100000 in
set_option maxHeartbeats 4000000 in
theorem scrutinyref02_Vecs_ok {Φ : Ctx} {w : World} {a : (List (List Int))} {b : (List (List Int))} {v1 : SLV} {v3 : SLV} {r : Bool} (hs : Sat (imm (RSl (RSl (RI .i64))) [sl v1] a :: imm (RSl (RSl (RI .i64))) [sl v3] b :: Φ) w) (hm : scrutinyref02_Vecs a b = some r) :
  CallsR Tryd.prog 19 [(sl v1), (sl v3)] w (fun v w' => v = (.bool r) ∧ Sat (Φ) w') := by
 refine CallsX_enter Tryd.func19 rfl Tryd.ntmps19 rfl ?_
 unfold scrutinyref02_Vecs at hm
 refine WC_seq <| WC_region ?_
 refine Wo (Run_assign Opd.c) rfl <| ?_
 refine WL_nil <| At_then <| WC_seq <| WC_seq <| WC_region ?_
 refine Wo (Run_move (O rfl)) rfl <| Wo (Run_lenSlG Tryd.underlying37 (O rfl) (fun hg => (hs.sl (i := 0) rfl).len)) rfl <| Wo (Run_move (O rfl)) rfl <| Wo (Run_lenSlG Tryd.underlying37 (O rfl) (fun hg => (hs.sl (i := 1) rfl).len)) rfl <| Wo (Run_neI (O rfl) (O rfl)) rfl <| ?_
 refine WL_nil <| At_then ?_
 refine WC_cond (O rfl) (fun hc3 => ?_) (fun hc3 => ?_)
 ·
  replace hm := bif_t hc3 hm
  refine WC_seq <| WC_region ?_
  refine Wo (Run_assign Opd.c) rfl <| ?_
  refine WL_nil <| At_then ?_
  refine WC_ret ?_
  refine At_then_ret <| ?_
  refine At_r1 rfl (ResIs.t rfl) ?_
  cases hm
  exact ⟨rfl, (hs.re 2 [] rfl)⟩
 ·
  replace hm := bif_f hc3 hm
  refine WC_skip ?_
  refine At_then <| WC_seq <| WC_seq <| WC_region ?_
  refine Wo (Run_assign Opd.c) rfl <| ?_
  refine WL_nil <| At_then ?_
  refine WC_block ?_
  refine WC_loop (σ := Int) (γ := Unit) (F := (scrutinyref02_Vecs_L1 a b)) (N := FUEL) (s0 := 0) (r := r) (fun i5 (_ : Unit) w4 => Sat (imm (RSl (RSl (RI .i64))) [sl v1] a :: imm (RSl (RSl (RI .i64))) [sl v3] b :: Φ) w4) (fun i5 (_ : Unit) => [(0, true, (sl v1)), (1, true, (sl v3)), (5, true, (.int .i64 i5))]) hm () (hs.re 2 [0, 1] rfl) rfl ?_
  rintro again6 i5 _ w4 hm hs
  unfold scrutinyref02_Vecs_L1 at hm
  refine WC_seq <| WC_seq <| WC_region ?_
  refine Wo (Run_move (O rfl)) rfl <| Wo (Run_move (O rfl)) rfl <| Wo (Run_lenSlG Tryd.underlying37 (O rfl) (fun hg => (hs.sl (i := 0) rfl).len)) rfl <| Wo (Run_ltI (O rfl) (O rfl)) rfl <| ?_
  refine WL_nil <| At_then ?_
  refine WC_cond (O rfl) (fun hc7 => ?_) (fun hc7 => ?_)
  ·
   replace hm := bif_t hc7 hm
   refine WC_skip ?_
   refine At_then <| WC_seq ?_
   refine WC_block ?_
   refine WC_seq ?_
   refine WC_region_mixed [0, 0, 3, 4, 0, 0, 48, 64, 136, 511] (.q 0 0 (.q 1 1 (.q 2 3 (.q 3 7 (.q 4 15 (.q 5 31 (.q 6 63 (.q 7 127 (.l 8 255 (.q 9 511 .nil)))))))))) (by kernel_rfl) (by kernel_rfl) ?_
   intro w8 hx9
   replace hs := hs.ext hx9
   refine WD_pure (fun _ => (Run_move (O rfl))) rfl rfl rfl rfl <| WD_pure (fun _ => (Run_move (O rfl))) rfl rfl rfl rfl <| ?_
   obtain ⟨e10, he11, hm⟩ := bind_some' hm
   obtain ⟨v12, hC13, hN14, hR15⟩ := cellsM22 (g := true) (fun hg => (hs.sl (i := 0) rfl)) (fun hg => he11)
   replace hs := hs.addL [elem true (elA (sl v1) i5 1) [(sl v12)], imm (RSl (RI .i64)) [sl v12] e10] rfl ⟨fun hg => ⟨hN14 hg, hC13 hg⟩, ⟨_, rfl, hR15 rfl⟩, trivial⟩
   replace hs := Sat.n4 (Γ := Φ) hs rfl
   refine WD_pure (fun _ => (Run_idxAddr (p := (elA (sl v1) i5 1)) Tryd.underlying37 ti22 (O rfl) (O rfl) (fun hg => (SRd.atA (A := (RSl (RI .i64))) (v := (sl v1)) (hs.sl (i := 2) rfl) he11).1))) rfl rfl rfl rfl <| WD_op (fun w => true = true → CellsAt w (elA (sl v1) i5 1) [(sl v12)]) (fun hg => ((hs.elem (i := 0) rfl) hg).sub 0 rfl) (fun _ hJ => (Run_load1 (v := (sl v12)) Tryd.underlying22 rfl (O rfl) hJ)) rfl rfl rfl rfl <| WD_pure (fun _ => (Run_move (O rfl))) rfl rfl rfl rfl <| WD_pure (fun _ => (Run_move (O rfl))) rfl rfl rfl rfl <| ?_
   obtain ⟨e16, he17, hm⟩ := bind_some' hm
   obtain ⟨v18, hC19, hN20, hR21⟩ := cellsM22 (g := true) (fun hg => (hs.sl (i := 3) rfl)) (fun hg => he17)
   replace hs := hs.addL [elem true (elA (sl v3) i5 1) [(sl v18)], imm (RSl (RI .i64)) [sl v18] e16] rfl ⟨fun hg => ⟨hN20 hg, hC19 hg⟩, ⟨_, rfl, hR21 rfl⟩, trivial⟩
   replace hs := Sat.n6 (Γ := Φ) hs rfl
   refine WD_pure (fun _ => (Run_idxAddr (p := (elA (sl v3) i5 1)) Tryd.underlying37 ti22 (O rfl) (O rfl) (fun hg => (SRd.atA (A := (RSl (RI .i64))) (v := (sl v3)) (hs.sl (i := 5) rfl) he17).1))) rfl rfl rfl rfl <| WD_op (fun w => true = true → CellsAt w (elA (sl v3) i5 1) [(sl v18)]) (fun hg => ((hs.elem (i := 0) rfl) hg).sub 0 rfl) (fun _ hJ => (Run_load1 (v := (sl v18)) Tryd.underlying22 rfl (O rfl) hJ)) rfl rfl rfl rfl <| ?_
   refine WD_loud (pend' := []) rfl (by kernel_rfl) ?_
   obtain ⟨r22, hr23, hm⟩ := bind_some' hm
   refine WL_call (f := 16) (first := []) (cap := []) (xs := [(.tmp 21), (.tmp 25)]) (vs := [(sl v12), (sl v18)]) (args := [(sl v12), (sl v18)]) Tryd.call16 Opd.f (.cons (O rfl) (.cons (O rfl) .nil)) rfl rfl (scrutinyref02_Vec_ok (hs.re 6 [3, 1, 0, 1, 2, 3, 4, 5] rfl) hr23) ?_
   rintro _ w24 ⟨rfl, hs⟩
   replace hs := Sat.n6 (Γ := Φ) hs rfl
   refine WL_nil ?_
   refine At_QK allJ_nil ?_
   refine WD_pure (fun _ => (Run_assign (O rfl))) rfl rfl rfl rfl <| ?_
   refine WD_nil ?_
   refine At_then <| WC_seq <| WC_region ?_
   refine Wo (Run_move (O rfl)) rfl <| Wo (Run_notB (O rfl)) rfl <| ?_
   refine WL_nil <| At_then ?_
   refine WC_cond (O rfl) (fun hc25 => ?_) (fun hc25 => ?_)
   ·
    replace hm := bif_t hc25 hm
    refine WC_seq <| WC_region ?_
    refine Wo (Run_assign Opd.c) rfl <| ?_
    refine WL_nil <| At_then ?_
    refine WC_ret ?_
    refine At_blk_ret <| At_then_ret <| At_then_ret <| At_blk_ret <| At_then_ret <| ?_
    refine At_r1 rfl (ResIs.t rfl) ?_
    cases hm
    exact ⟨rfl, (hs.re 6 [] rfl)⟩
   ·
    replace hm := bif_f hc25 hm
    refine WC_skip ?_
    refine At_blk_normal ?_
    refine At_then <| WC_region ?_
    refine Wo (Run_move (O rfl)) rfl <| Wo (Run_add (O rfl) Opd.c) rfl <| Wo (Run_assign (O rfl)) rfl <| ?_
    refine WL_nil ?_
    exact At_again (IntKind.i64.wrap (i5 + 1)) () hm (hs.re 6 [4, 5] rfl) rfl
  ·
   replace hm := bif_f hc7 hm
   refine WC_exit ?_
   refine At_then_exit <| At_then_exit <| At_blk_here <| ?_
   refine At_then <| WC_seq <| WC_region ?_
   refine Wo (Run_assign Opd.c) rfl <| ?_
   refine WL_nil <| At_then ?_
   refine WC_ret ?_
   refine At_r1 rfl (ResIs.t rfl) ?_
   cases hm
   exact ⟨rfl, (hs.re 2 [] rfl)⟩
set_option maxRecDepth 100000 in
set_option maxHeartbeats 4000000 in
theorem scrutinylaw15_shown_ok {Φ : Ctx} {w : World} {r : Bool} (hs : Sat (gl 0 (pow10L.map (Value.int .u64)) :: Φ) w) (hm : scrutinylaw15_shown = some r) :
  CallsR Tryd.prog 9 [] w (fun v w' => v = (.bool r) ∧ Sat (Φ) w') := by
 refine CallsX_enter Tryd.func9 rfl Tryd.ntmps9 rfl ?_
 unfold scrutinylaw15_shown at hm
 refine WC_seq <| WC_region ?_
 refine Wo (Run_assign Opd.c) rfl <| ?_
 refine WL_nil <| At_then <| WC_seq <| WC_region ?_
 obtain ⟨r3, hr4, hm⟩ := bind_some' hm
 refine WL_call (f := 10) (first := []) (cap := []) (xs := [(.const (.string ⟨#[118, 97, 114, 32, 120, 32, 48, 32, 50, 32, 48, 59, 32, 112, 114, 111, 99, 32, 80, 32, 123, 32, 120, 32, 60, 32, 50, 32, 58, 32, 120, 32, 61, 32, 120, 32, 43, 32, 49, 59, 32, 125]⟩))]) (vs := [(S [118, 97, 114, 32, 120, 32, 48, 32, 50, 32, 48, 59, 32, 112, 114, 111, 99, 32, 80, 32, 123, 32, 120, 32, 60, 32, 50, 32, 58, 32, 120, 32, 61, 32, 120, 32, 43, 32, 49, 59, 32, 125])]) (args := [(S [118, 97, 114, 32, 120, 32, 48, 32, 50, 32, 48, 59, 32, 112, 114, 111, 99, 32, 80, 32, 123, 32, 120, 32, 60, 32, 50, 32, 58, 32, 120, 32, 61, 32, 120, 32, 43, 32, 49, 59, 32, 125])]) Tryd.call10 Opd.f (.cons Opd.c .nil) rfl rfl (scrutinyref15_Of_ok (hs.re 1 [0] rfl) hr4) ?_
 rintro _ w15 ⟨v5, R6, v7, R8, v9, R10, v11, R12, v13, R14, rfl, hs⟩
 replace hs := Sat.n6 (Γ := Φ) hs rfl
 refine Wo (Run_move (O rfl)) rfl <| Wo (Run_extract (vs := [(.agg #[(sl v5), (sl v7), (sl v9), (sl v11), (sl v13)]), (.bool r3.2)]) (O rfl) rfl) rfl <| Wo (Run_extract (vs := [(.agg #[(sl v5), (sl v7), (sl v9), (sl v11), (sl v13)]), (.bool r3.2)]) (O rfl) rfl) rfl <| ?_
 refine WS_alloc (zs := [(sl (none, 0, 0)), (sl (none, 0, 0)), (sl (none, 0, 0)), (sl (none, 0, 0)), (sl (none, 0, 0))]) hs ti28 rfl rfl ?_
 intro b16 w17 hs
 replace hs := Sat.n7 (Γ := Φ) hs rfl
 refine WS_store (us := [(sl v5), (sl v7), (sl v9), (sl v11), (sl v13)]) (vs' := [(sl v5), (sl v7), (sl v9), (sl v11), (sl v13)]) hs 0 rfl ti28 (O rfl) (O rfl) rfl rfl rfl rfl rfl ?_
 intro w18 hs
 replace hs := Sat.n7 (Γ := Φ) hs rfl
 refine Wo (Run_assign (O rfl)) rfl <| ?_
 refine WL_nil <| At_then <| WC_seq <| WC_region ?_
 refine Wo (Run_loadA (vs := [(sl v5), (sl v7), (sl v9), (sl v11), (sl v13)]) Tryd.underlying28 rfl ti28 (O rfl) (fun _ => (hs.box (i := 0) rfl).part 0 rfl) rfl) rfl <| ?_
 replace hs := hs.freeze (i := 1) rfl
 replace hs := hs.freeze (i := 2) rfl
 replace hs := hs.freeze (i := 3) rfl
 replace hs := hs.freeze (i := 4) rfl
 replace hs := hs.freeze (i := 5) rfl
 obtain ⟨r19, hr20, hm⟩ := bind_some' hm
 refine WL_call (f := 20) (first := []) (cap := []) (xs := [(.tmp 25), (.const (.int .i64 9))]) (vs := [(.agg #[(sl v5), (sl v7), (sl v9), (sl v11), (sl v13)]), (.int .i64 9)]) (args := [(.agg #[(sl v5), (sl v7), (sl v9), (sl v11), (sl v13)]), (.int .i64 9)]) Tryd.call20 Opd.f (.cons (O rfl) (.cons Opd.c .nil)) rfl rfl (step_Reach_ok (hs.re 7 [1, 2, 3, 4, 5, 6, 0, 1, 2, 3, 4, 5, 6] rfl) hr20) ?_
 rintro _ w24 ⟨v21, R22, v23, rfl, hs⟩
 replace hs := Sat.n9 (Γ := Φ) hs rfl
 refine Wo (Run_move (O rfl)) rfl <| Wo (Run_extract (vs := [(sl v21), (.int .i64 r19.2.1), (sl v23)]) (O rfl) rfl) rfl <| Wo (Run_extract (vs := [(sl v21), (.int .i64 r19.2.1), (sl v23)]) (O rfl) rfl) rfl <| Wo (Run_extract (vs := [(sl v21), (.int .i64 r19.2.1), (sl v23)]) (O rfl) rfl) rfl <| Wo (Run_assign (O rfl)) rfl <| Wo (Run_assign (O rfl)) rfl <| Wo (Run_assign (O rfl)) rfl <| ?_
 refine WL_nil <| At_then <| WC_seq <| WC_region ?_
 refine Wo (Run_loadA (vs := [(sl v5), (sl v7), (sl v9), (sl v11), (sl v13)]) Tryd.underlying28 rfl ti28 (O rfl) (fun _ => (hs.box (i := 2) rfl).part 0 rfl) rfl) rfl <| ?_
 refine WS_lit (A := (RI .i64)) (xs := [2]) (zs := [(.int .i64 0)]) (cells := [(.int .i64 2)]) (parts := [(0, (.const (.int .i64 2)))]) hs Tryd.underlying22 ti3 rfl rfl rfl (.cons Opd.c .nil) (by kernel_rfl) rfl (ARd.cons (A := (RI .i64)) (c := [(.int .i64 2)]) (x := 2) rfl ARd.nil) rfl ?_
 intro b25 w26 hs
 replace hs := Sat.n10 (Γ := Φ) hs rfl
 replace hs := hs.freeze (i := 0) rfl
 obtain ⟨r27, hr28, hm⟩ := bind_some' hm
 refine WL_call (f := 14) (first := []) (cap := []) (xs := [(.tmp 31), (.tmp 32)]) (vs := [(.agg #[(sl v5), (sl v7), (sl v9), (sl v11), (sl v13)]), (sl (some ⟨b25, 0, none⟩, 1, 1))]) (args := [(.agg #[(sl v5), (sl v7), (sl v9), (sl v11), (sl v13)]), (sl (some ⟨b25, 0, none⟩, 1, 1))]) Tryd.call14 Opd.f (.cons (O rfl) (.cons (O rfl) .nil)) rfl rfl (step_Next_ok (hs.re 10 [4, 5, 6, 7, 8, 0, 9, 0, 1, 2, 3, 4, 5, 6, 7, 8, 9] rfl) hr28) ?_
 rintro _ w31 ⟨v29, R30, rfl, hs⟩
 replace hs := Sat.n11 (Γ := Φ) hs rfl
 refine Wo (Run_move (O rfl)) rfl <| Wo (Run_extract (vs := [(sl v29), (.int .i64 r27.2)]) (O rfl) rfl) rfl <| Wo (Run_extract (vs := [(sl v29), (.int .i64 r27.2)]) (O rfl) rfl) rfl <| Wo (Run_assign (O rfl)) rfl <| Wo (Run_assign (O rfl)) rfl <| ?_
 refine WL_nil <| At_then <| WC_seq <| WC_region ?_
 refine Wo (Run_loadA (vs := [(sl v5), (sl v7), (sl v9), (sl v11), (sl v13)]) Tryd.underlying28 rfl ti28 (O rfl) (fun _ => (hs.box (i := 4) rfl).part 0 rfl) rfl) rfl <| ?_
 refine WS_lit (A := (RI .i64)) (xs := [2]) (zs := [(.int .i64 0)]) (cells := [(.int .i64 2)]) (parts := [(0, (.const (.int .i64 2)))]) hs Tryd.underlying22 ti3 rfl rfl rfl (.cons Opd.c .nil) (by kernel_rfl) rfl (ARd.cons (A := (RI .i64)) (c := [(.int .i64 2)]) (x := 2) rfl ARd.nil) rfl ?_
 intro b32 w33 hs
 replace hs := Sat.n12 (Γ := Φ) hs rfl
 replace hs := hs.freeze (i := 0) rfl
 obtain ⟨r34, hr35, hm⟩ := bind_some' hm
 refine WL_call (f := 12) (first := []) (cap := []) (xs := [(.tmp 37), (.tmp 38), (.const (.int .i64 0))]) (vs := [(.agg #[(sl v5), (sl v7), (sl v9), (sl v11), (sl v13)]), (sl (some ⟨b32, 0, none⟩, 1, 1)), (.int .i64 0)]) (args := [(.agg #[(sl v5), (sl v7), (sl v9), (sl v11), (sl v13)]), (sl (some ⟨b32, 0, none⟩, 1, 1)), (.int .i64 0)]) Tryd.call12 Opd.f (.cons (O rfl) (.cons (O rfl) (.cons Opd.c .nil))) rfl rfl (step_Fire_ok (hs.re 12 [6, 7, 8, 9, 10, 0, 0, 1, 2, 3, 4, 5, 6, 7, 8, 9, 10, 11] rfl) hr35) ?_
 rintro _ w38 ⟨v36, R37, rfl, hs⟩
 replace hs := Sat.n13 (Γ := Φ) hs rfl
 refine Wo (Run_move (O rfl)) rfl <| Wo (Run_extract (vs := [(sl v36), (.int .i64 r34.2)]) (O rfl) rfl) rfl <| Wo (Run_extract (vs := [(sl v36), (.int .i64 r34.2)]) (O rfl) rfl) rfl <| Wo (Run_assign (O rfl)) rfl <| Wo (Run_assign (O rfl)) rfl <| ?_
 refine WL_nil <| At_then <| WC_seq <| WC_region ?_
 refine Wo (Run_loadA (vs := [(sl v5), (sl v7), (sl v9), (sl v11), (sl v13)]) Tryd.underlying28 rfl ti28 (O rfl) (fun _ => (hs.box (i := 6) rfl).part 0 rfl) rfl) rfl <| ?_
 refine WS_lit (A := (RI .i64)) (xs := [2]) (zs := [(.int .i64 0)]) (cells := [(.int .i64 2)]) (parts := [(0, (.const (.int .i64 2)))]) hs Tryd.underlying22 ti3 rfl rfl rfl (.cons Opd.c .nil) (by kernel_rfl) rfl (ARd.cons (A := (RI .i64)) (c := [(.int .i64 2)]) (x := 2) rfl ARd.nil) rfl ?_
 intro b39 w40 hs
 replace hs := Sat.n14 (Γ := Φ) hs rfl
 replace hs := hs.freeze (i := 0) rfl
 obtain ⟨r41, hr42, hm⟩ := bind_some' hm
 refine WL_call (f := 12) (first := []) (cap := []) (xs := [(.tmp 43), (.tmp 44), (.const (.int .i64 1))]) (vs := [(.agg #[(sl v5), (sl v7), (sl v9), (sl v11), (sl v13)]), (sl (some ⟨b39, 0, none⟩, 1, 1)), (.int .i64 1)]) (args := [(.agg #[(sl v5), (sl v7), (sl v9), (sl v11), (sl v13)]), (sl (some ⟨b39, 0, none⟩, 1, 1)), (.int .i64 1)]) Tryd.call12 Opd.f (.cons (O rfl) (.cons (O rfl) (.cons Opd.c .nil))) rfl rfl (step_Fire_ok (hs.re 14 [8, 9, 10, 11, 12, 0, 0, 1, 2, 3, 4, 5, 6, 7, 8, 9, 10, 11, 12, 13] rfl) hr42) ?_
 rintro _ w45 ⟨v43, R44, rfl, hs⟩
 replace hs := Sat.n15 (Γ := Φ) hs rfl
 refine Wo (Run_move (O rfl)) rfl <| Wo (Run_extract (vs := [(sl v43), (.int .i64 r41.2)]) (O rfl) rfl) rfl <| Wo (Run_extract (vs := [(sl v43), (.int .i64 r41.2)]) (O rfl) rfl) rfl <| Wo (Run_assign (O rfl)) rfl <| Wo (Run_assign (O rfl)) rfl <| ?_
 refine WL_nil <| At_then <| WC_seq <| WC_region ?_
 refine Wo (Run_loadA (vs := [(sl v5), (sl v7), (sl v9), (sl v11), (sl v13)]) Tryd.underlying28 rfl ti28 (O rfl) (fun _ => (hs.box (i := 8) rfl).part 0 rfl) rfl) rfl <| ?_
 obtain ⟨r46, hr47, hm⟩ := bind_some' hm
 refine WL_call (f := 20) (first := []) (cap := []) (xs := [(.tmp 49), (.const (.int .i64 2))]) (vs := [(.agg #[(sl v5), (sl v7), (sl v9), (sl v11), (sl v13)]), (.int .i64 2)]) (args := [(.agg #[(sl v5), (sl v7), (sl v9), (sl v11), (sl v13)]), (.int .i64 2)]) Tryd.call20 Opd.f (.cons (O rfl) (.cons Opd.c .nil)) rfl rfl (step_Reach_ok (hs.re 15 [9, 10, 11, 12, 13, 14, 0, 1, 2, 3, 4, 5, 6, 7, 8, 9, 10, 11, 12, 13, 14] rfl) hr47) ?_
 rintro _ w51 ⟨v48, R49, v50, rfl, hs⟩
 replace hs := Sat.n17 (Γ := Φ) hs rfl
 refine Wo (Run_move (O rfl)) rfl <| Wo (Run_extract (vs := [(sl v48), (.int .i64 r46.2.1), (sl v50)]) (O rfl) rfl) rfl <| Wo (Run_extract (vs := [(sl v48), (.int .i64 r46.2.1), (sl v50)]) (O rfl) rfl) rfl <| Wo (Run_extract (vs := [(sl v48), (.int .i64 r46.2.1), (sl v50)]) (O rfl) rfl) rfl <| Wo (Run_assign (O rfl)) rfl <| Wo (Run_assign (O rfl)) rfl <| Wo (Run_assign (O rfl)) rfl <| ?_
 refine WL_nil <| At_then <| WC_seq <| WC_region ?_
 obtain ⟨r52, hr53, hm⟩ := bind_some' hm
 refine WL_call (f := 10) (first := []) (cap := []) (xs := [(.const (.string ⟨#[118, 97, 114, 32, 120, 32, 48, 32, 50, 32, 48, 59, 32, 112, 114, 111, 99, 32, 80, 32, 123, 32, 116, 114, 117, 101, 32, 58, 32, 120, 32, 61, 32, 120, 32, 43, 32, 49, 59, 32, 125]⟩))]) (vs := [(S [118, 97, 114, 32, 120, 32, 48, 32, 50, 32, 48, 59, 32, 112, 114, 111, 99, 32, 80, 32, 123, 32, 116, 114, 117, 101, 32, 58, 32, 120, 32, 61, 32, 120, 32, 43, 32, 49, 59, 32, 125])]) (args := [(S [118, 97, 114, 32, 120, 32, 48, 32, 50, 32, 48, 59, 32, 112, 114, 111, 99, 32, 80, 32, 123, 32, 116, 114, 117, 101, 32, 58, 32, 120, 32, 61, 32, 120, 32, 43, 32, 49, 59, 32, 125])]) Tryd.call10 Opd.f (.cons Opd.c .nil) rfl rfl (scrutinyref15_Of_ok (hs.re 17 [0, 1, 2, 3, 4, 5, 6, 7, 8, 9, 10, 11, 12, 13, 14, 15, 16] rfl) hr53) ?_
 rintro _ w64 ⟨v54, R55, v56, R57, v58, R59, v60, R61, v62, R63, rfl, hs⟩
 replace hs := Sat.n22 (Γ := Φ) hs rfl
 refine Wo (Run_move (O rfl)) rfl <| Wo (Run_extract (vs := [(.agg #[(sl v54), (sl v56), (sl v58), (sl v60), (sl v62)]), (.bool r52.2)]) (O rfl) rfl) rfl <| Wo (Run_extract (vs := [(.agg #[(sl v54), (sl v56), (sl v58), (sl v60), (sl v62)]), (.bool r52.2)]) (O rfl) rfl) rfl <| ?_
 refine WS_alloc (zs := [(sl (none, 0, 0)), (sl (none, 0, 0)), (sl (none, 0, 0)), (sl (none, 0, 0)), (sl (none, 0, 0))]) hs ti28 rfl rfl ?_
 intro b65 w66 hs
 replace hs := Sat.n23 (Γ := Φ) hs rfl
 refine WS_store (us := [(sl v54), (sl v56), (sl v58), (sl v60), (sl v62)]) (vs' := [(sl v54), (sl v56), (sl v58), (sl v60), (sl v62)]) hs 0 rfl ti28 (O rfl) (O rfl) rfl rfl rfl rfl rfl ?_
 intro w67 hs
 replace hs := Sat.n23 (Γ := Φ) hs rfl
 refine Wo (Run_assign (O rfl)) rfl <| ?_
 refine WL_nil <| At_then <| WC_seq <| WC_region ?_
 refine Wo (Run_loadA (vs := [(sl v54), (sl v56), (sl v58), (sl v60), (sl v62)]) Tryd.underlying28 rfl ti28 (O rfl) (fun _ => (hs.box (i := 0) rfl).part 0 rfl) rfl) rfl <| ?_
 replace hs := hs.freeze (i := 1) rfl
 replace hs := hs.freeze (i := 2) rfl
 replace hs := hs.freeze (i := 3) rfl
 replace hs := hs.freeze (i := 4) rfl
 replace hs := hs.freeze (i := 5) rfl
 obtain ⟨r68, hr69, hm⟩ := bind_some' hm
 refine WL_call (f := 20) (first := []) (cap := []) (xs := [(.tmp 59), (.const (.int .i64 9))]) (vs := [(.agg #[(sl v54), (sl v56), (sl v58), (sl v60), (sl v62)]), (.int .i64 9)]) (args := [(.agg #[(sl v54), (sl v56), (sl v58), (sl v60), (sl v62)]), (.int .i64 9)]) Tryd.call20 Opd.f (.cons (O rfl) (.cons Opd.c .nil)) rfl rfl (step_Reach_ok (hs.re 23 [1, 2, 3, 4, 5, 22, 0, 1, 2, 3, 4, 5, 6, 7, 8, 9, 10, 11, 12, 13, 14, 15, 16, 17, 18, 19, 20, 21, 22] rfl) hr69) ?_
 rintro _ w73 ⟨v70, R71, v72, rfl, hs⟩
 replace hs := hs.re 25 [0, 1, 14, 16, 18, 19, 20, 21, 22, 23, 24] rfl
 replace hs := Sat.n11 (Γ := Φ) hs rfl
 refine Wo (Run_move (O rfl)) rfl <| Wo (Run_extract (vs := [(sl v70), (.int .i64 r68.2.1), (sl v72)]) (O rfl) rfl) rfl <| Wo (Run_extract (vs := [(sl v70), (.int .i64 r68.2.1), (sl v72)]) (O rfl) rfl) rfl <| Wo (Run_extract (vs := [(sl v70), (.int .i64 r68.2.1), (sl v72)]) (O rfl) rfl) rfl <| Wo (Run_assign (O rfl)) rfl <| Wo (Run_assign (O rfl)) rfl <| Wo (Run_assign (O rfl)) rfl <| ?_
 refine WL_nil <| At_then <| WC_seq <| WC_region ?_
 refine Wo (Run_move (O rfl)) rfl <| Wo (Run_move (O rfl)) rfl <| WL_opG rfl rfl rfl rfl guard_pos (Run_move (O rfl)) rfl rfl rfl <| ?_
 obtain ⟨b74, e75, hm⟩ := letv_some hm
 refine Wo (Run.eqB (Run_and (O rfl) (Opd.g rfl id)) e75) rfl <| Wo (Run_move (O rfl)) rfl <| WL_opG rfl rfl rfl rfl guard_pos (Run_move (O rfl)) rfl rfl rfl <| ?_
 obtain ⟨b76, e77, hm⟩ := letv_some hm
 refine WL_opG rfl rfl rfl rfl guard_pos (Run.eqB (Run_eqI (Opd.g rfl id) Opd.c) e77) rfl rfl rfl <| ?_
 obtain ⟨b78, e79, hm⟩ := letv_some hm
 refine Wo (Run.eqB (Run_and (O rfl) (Opd.g rfl id)) e79) rfl <| Wo (Run_move (O rfl)) rfl <| WL_opG rfl rfl rfl rfl guard_pos (Run_move (O rfl)) rfl rfl rfl <| ?_
 refine WS_litG (A := (RI .i64)) (xs := [0]) (zs := [(.int .i64 0)]) (cells := [(.int .i64 0)]) (parts := [(0, (.const (.int .i64 0)))]) rfl rfl rfl guard_pos hs Tryd.underlying22 ti3 rfl rfl rfl (.cons Opd.c .nil) (by kernel_rfl) rfl (fun hg => (ARd.cons (A := (RI .i64)) (c := [(.int .i64 0)]) (x := 0) rfl ARd.nil)) rfl ?_
 intro v80 w81 hs
 refine WS_litG (A := (RI .i64)) (xs := [1]) (zs := [(.int .i64 0)]) (cells := [(.int .i64 1)]) (parts := [(0, (.const (.int .i64 1)))]) rfl rfl rfl guard_pos hs Tryd.underlying22 ti3 rfl rfl rfl (.cons Opd.c .nil) (by kernel_rfl) rfl (fun hg => (ARd.cons (A := (RI .i64)) (c := [(.int .i64 1)]) (x := 1) rfl ARd.nil)) rfl ?_
 intro v82 w83 hs
 refine WS_litG (A := (RI .i64)) (xs := [2]) (zs := [(.int .i64 0)]) (cells := [(.int .i64 2)]) (parts := [(0, (.const (.int .i64 2)))]) rfl rfl rfl guard_pos hs Tryd.underlying22 ti3 rfl rfl rfl (.cons Opd.c .nil) (by kernel_rfl) rfl (fun hg => (ARd.cons (A := (RI .i64)) (c := [(.int .i64 2)]) (x := 2) rfl ARd.nil)) rfl ?_
 intro v84 w85 hs
 refine WS_litG (A := (RSl (RI .i64))) (xs := [([0] : List Int), ([1] : List Int), ([2] : List Int)]) (zs := [(sl (none, 0, 0))]) (cells := [(sl v80), (sl v82), (sl v84)]) (parts := [(0, (.tmp 74)), (1, (.tmp 75)), (2, (.tmp 76))]) rfl rfl rfl guard_pos hs Tryd.underlying37 ti22 rfl rfl rfl (.cons (Opd.g rfl id) (.cons (Opd.g rfl id) (.cons (Opd.g rfl id) .nil))) (by kernel_rfl) rfl (fun hg => (ARd.cons (A := (RSl (RI .i64))) (c := [(sl v80)]) (x := ([0] : List Int)) ⟨_, rfl, ((hs.slG (i := 2) rfl) hg)⟩ (ARd.cons (A := (RSl (RI .i64))) (c := [(sl v82)]) (x := ([1] : List Int)) ⟨_, rfl, ((hs.slG (i := 1) rfl) hg)⟩ (ARd.cons (A := (RSl (RI .i64))) (c := [(sl v84)]) (x := ([2] : List Int)) ⟨_, rfl, ((hs.slG (i := 0) rfl) hg)⟩ ARd.nil)))) rfl ?_
 intro v86 w87 hs
 replace hs := hs.freeze (i := 7) rfl
 obtain ⟨r88, hr89, -, hm⟩ := callG_some hm
 refine WL_callG rfl rfl rfl guard_pos (f := 19) (first := []) (cap := []) (xs := [(.tmp 73), (.tmp 77)]) (vs := [(sl v21), (sl v86)]) (args := [(sl v21), (sl v86)]) Tryd.call19 Opd.f (.cons (Opd.g rfl id) (.cons (Opd.g rfl id) .nil)) rfl rfl (fun hg => scrutinyref02_Vecs_ok ((hs.dupS (i := 0) rfl hg).re 16 [8, 0, 1, 2, 3, 4, 5, 6, 7, 8, 9, 10, 11, 12, 13, 14, 15] rfl) (hr89 hg)) ?_
 intro v91 w90 hv92 hz93
 replace hs := Sat.ofG (fun hg => (hv92 hg).2.re 15 [0, 1, 2, 3, 4, 5, 6, 7, 8, 9, 10, 11, 12, 13, 14] rfl) hz93 hs
 refine WL_sub1 (v := (.bool r88)) (fun hg => (hv92 hg).1) ?_
 replace hs := Sat.n15 (Γ := Φ) hs rfl
 obtain ⟨b94, e95, hm⟩ := letv_some hm
 refine Wo (Run.eqB (Run_and (O rfl) (Opd.g rfl id)) e95) rfl <| Wo (Run_move (O rfl)) rfl <| WL_opG rfl rfl rfl rfl guard_pos (Run_move (O rfl)) rfl rfl rfl <| ?_
 obtain ⟨b96, e97, hm⟩ := letv_some hm
 refine WL_opG rfl rfl rfl rfl guard_pos (Run.eqB (Run_eqI (Opd.g rfl id) Opd.c) e97) rfl rfl rfl <| ?_
 obtain ⟨b98, e99, hm⟩ := letv_some hm
 refine Wo (Run.eqB (Run_and (O rfl) (Opd.g rfl id)) e99) rfl <| Wo (Run_move (O rfl)) rfl <| WL_opG rfl rfl rfl rfl guard_pos (Run_move (O rfl)) rfl rfl rfl <| ?_
 refine WS_litG (A := (RI .i64)) (xs := [2]) (zs := [(.int .i64 0)]) (cells := [(.int .i64 2)]) (parts := [(0, (.const (.int .i64 2)))]) rfl rfl rfl guard_pos hs Tryd.underlying22 ti3 rfl rfl rfl (.cons Opd.c .nil) (by kernel_rfl) rfl (fun hg => (ARd.cons (A := (RI .i64)) (c := [(.int .i64 2)]) (x := 2) rfl ARd.nil)) rfl ?_
 intro v100 w101 hs
 refine WS_litG (A := (RSl (RI .i64))) (xs := [([2] : List Int)]) (zs := [(sl (none, 0, 0))]) (cells := [(sl v100)]) (parts := [(0, (.tmp 86))]) rfl rfl rfl guard_pos hs Tryd.underlying37 ti22 rfl rfl rfl (.cons (Opd.g rfl id) .nil) (by kernel_rfl) rfl (fun hg => (ARd.cons (A := (RSl (RI .i64))) (c := [(sl v100)]) (x := ([2] : List Int)) ⟨_, rfl, ((hs.slG (i := 0) rfl) hg)⟩ ARd.nil)) rfl ?_
 intro v102 w103 hs
 replace hs := hs.freeze (i := 8) rfl
 obtain ⟨r104, hr105, -, hm⟩ := callG_some hm
 refine WL_callG rfl rfl rfl guard_pos (f := 19) (first := []) (cap := []) (xs := [(.tmp 85), (.tmp 87)]) (vs := [(sl v29), (sl v102)]) (args := [(sl v29), (sl v102)]) Tryd.call19 Opd.f (.cons (Opd.g rfl id) (.cons (Opd.g rfl id) .nil)) rfl rfl (fun hg => scrutinyref02_Vecs_ok ((hs.dupS (i := 0) rfl hg).re 18 [9, 0, 1, 2, 3, 4, 5, 6, 7, 8, 9, 10, 11, 12, 13, 14, 15, 16, 17] rfl) (hr105 hg)) ?_
 intro v107 w106 hv108 hz109
 replace hs := Sat.ofG (fun hg => (hv108 hg).2.re 17 [0, 1, 2, 3, 4, 5, 6, 7, 8, 9, 10, 11, 12, 13, 14, 15, 16] rfl) hz109 hs
 refine WL_sub1 (v := (.bool r104)) (fun hg => (hv108 hg).1) ?_
 replace hs := Sat.n17 (Γ := Φ) hs rfl
 obtain ⟨b110, e111, hm⟩ := letv_some hm
 refine Wo (Run.eqB (Run_and (O rfl) (Opd.g rfl id)) e111) rfl <| Wo (Run_move (O rfl)) rfl <| WL_opG rfl rfl rfl rfl guard_pos (Run_move (O rfl)) rfl rfl rfl <| ?_
 obtain ⟨b112, e113, hm⟩ := letv_some hm
 refine WL_opG rfl rfl rfl rfl guard_pos (Run.eqB (Run_eqI (Opd.g rfl id) Opd.c) e113) rfl rfl rfl <| ?_
 obtain ⟨b114, e115, hm⟩ := letv_some hm
 refine Wo (Run.eqB (Run_and (O rfl) (Opd.g rfl id)) e115) rfl <| Wo (Run_move (O rfl)) rfl <| WL_opG rfl rfl rfl rfl guard_pos (Run_move (O rfl)) rfl rfl rfl <| ?_
 obtain ⟨b116, e117, hm⟩ := letv_some hm
 refine WL_opG rfl rfl rfl rfl guard_pos (Run.eqB (Run_eqI (Opd.g rfl id) Opd.c) e117) rfl rfl rfl <| ?_
 obtain ⟨b118, e119, hm⟩ := letv_some hm
 refine Wo (Run.eqB (Run_and (O rfl) (Opd.g rfl id)) e119) rfl <| Wo (Run_move (O rfl)) rfl <| WL_opG rfl rfl rfl rfl guard_pos (Run_move (O rfl)) rfl rfl rfl <| ?_
 obtain ⟨b120, e121, hm⟩ := letv_some hm
 refine WL_opG rfl rfl rfl rfl guard_pos (Run.eqB (Run_eqI (Opd.g rfl id) Opd.c) e121) rfl rfl rfl <| ?_
 obtain ⟨b122, e123, hm⟩ := letv_some hm
 refine Wo (Run.eqB (Run_and (O rfl) (Opd.g rfl id)) e123) rfl <| Wo (Run_move (O rfl)) rfl <| WL_opG rfl rfl rfl rfl guard_pos (Run_move (O rfl)) rfl rfl rfl <| ?_
 obtain ⟨b124, e125, hm⟩ := letv_some hm
 refine WL_opG rfl rfl rfl rfl guard_pos (Run.eqB (Run_eqI (Opd.g rfl id) Opd.c) e125) rfl rfl rfl <| ?_
 obtain ⟨b126, e127, hm⟩ := letv_some hm
 refine Wo (Run.eqB (Run_and (O rfl) (Opd.g rfl id)) e127) rfl <| Wo (Run_move (O rfl)) rfl <| WL_opG rfl rfl rfl rfl guard_pos (Run_move (O rfl)) rfl rfl rfl <| ?_
 refine WS_litG (A := (RI .i64)) (xs := [2]) (zs := [(.int .i64 0)]) (cells := [(.int .i64 2)]) (parts := [(0, (.const (.int .i64 2)))]) rfl rfl rfl guard_pos hs Tryd.underlying22 ti3 rfl rfl rfl (.cons Opd.c .nil) (by kernel_rfl) rfl (fun hg => (ARd.cons (A := (RI .i64)) (c := [(.int .i64 2)]) (x := 2) rfl ARd.nil)) rfl ?_
 intro v128 w129 hs
 obtain ⟨r130, hr131, -, hm⟩ := callG_some hm
 refine WL_callG rfl rfl rfl guard_pos (f := 16) (first := []) (cap := []) (xs := [(.tmp 107), (.tmp 108)]) (vs := [(sl v72), (sl v128)]) (args := [(sl v72), (sl v128)]) Tryd.call16 Opd.f (.cons (Opd.g rfl id) (.cons (Opd.g rfl id) .nil)) rfl rfl (fun hg => scrutinyref02_Vec_ok ((hs.dupS (i := 0) rfl hg).re 19 [9, 0, 1, 2, 3, 4, 5, 6, 7, 8, 9, 10, 11, 12, 13, 14, 15, 16, 17, 18] rfl) (hr131 hg)) ?_
 intro v133 w132 hv134 hz135
 replace hs := Sat.ofG (fun hg => (hv134 hg).2.re 18 [0, 1, 2, 3, 4, 5, 6, 7, 8, 9, 10, 11, 12, 13, 14, 15, 16, 17] rfl) hz135 hs
 refine WL_sub1 (v := (.bool r130)) (fun hg => (hv134 hg).1) ?_
 replace hs := Sat.n18 (Γ := Φ) hs rfl
 obtain ⟨b136, e137, hm⟩ := letv_some hm
 refine Wo (Run.eqB (Run_and (O rfl) (Opd.g rfl id)) e137) rfl <| Wo (Run_move (O rfl)) rfl <| WL_opG rfl rfl rfl rfl guard_pos (Run_loadA (vs := [(sl v5), (sl v7), (sl v9), (sl v11), (sl v13)]) Tryd.underlying28 rfl ti28 (O rfl) (fun _ => (hs.box (i := 11) rfl).part 0 rfl) rfl) rfl rfl rfl <| ?_
 refine WS_litG (A := (RI .i64)) (xs := [1]) (zs := [(.int .i64 0)]) (cells := [(.int .i64 1)]) (parts := [(0, (.const (.int .i64 1)))]) rfl rfl rfl guard_pos hs Tryd.underlying22 ti3 rfl rfl rfl (.cons Opd.c .nil) (by kernel_rfl) rfl (fun hg => (ARd.cons (A := (RI .i64)) (c := [(.int .i64 1)]) (x := 1) rfl ARd.nil)) rfl ?_
 intro v138 w139 hs
 obtain ⟨r140, hr141, -, hm⟩ := callG_some hm
 refine WL_callG rfl rfl rfl guard_pos (f := 17) (first := []) (cap := []) (xs := [(.tmp 112), (.tmp 113)]) (vs := [(.agg #[(sl v5), (sl v7), (sl v9), (sl v11), (sl v13)]), (sl v138)]) (args := [(.agg #[(sl v5), (sl v7), (sl v9), (sl v11), (sl v13)]), (sl v138)]) Tryd.call17 Opd.f (.cons (Opd.g rfl id) (.cons (Opd.g rfl id) .nil)) rfl rfl (fun hg => step_Enabled_ok ((hs.dupS (i := 0) rfl hg).re 20 [14, 15, 16, 17, 18, 0, 1, 2, 3, 4, 5, 6, 7, 8, 9, 10, 11, 12, 13, 14, 15, 16, 17, 18, 19] rfl) (hr141 hg)) ?_
 intro v145 w144 hv146 hz147
 obtain ⟨v142, hw148, hs⟩ : ∃ v142 : SLV, (b136 = true → v145 = (sl v142)) ∧ Sat (immG b136 (RSl (RI .i64)) [sl v142] r140 :: immG b136 (RSl (RI .i64)) [sl v138] ([1] : List Int) :: immG b126 (RSl (RI .i64)) [sl v128] ([2] : List Int) :: immG b98 (RSl (RSl (RI .i64))) [sl v102] ([([2] : List Int)] : List (List Int)) :: immG b98 (RSl (RI .i64)) [sl v100] ([2] : List Int) :: immG b78 (RSl (RSl (RI .i64))) [sl v86] ([([0] : List Int), ([1] : List Int), ([2] : List Int)] : List (List Int)) :: immG b78 (RSl (RI .i64)) [sl v84] ([2] : List Int) :: immG b78 (RSl (RI .i64)) [sl v82] ([1] : List Int) :: immG b78 (RSl (RI .i64)) [sl v80] ([0] : List Int) :: osl (RSl (RI .i64)) 22 (sl v70) r68.1 R71 :: imm (RSl (RI .i64)) [sl v72] r68.2.2 :: imm (RSl (RSl (RI .i64))) [sl v29] r27.1 :: imm (RSl (RSl (RI .i64))) [sl v21] r19.1 :: box b16 28 [(sl v5), (sl v7), (sl v9), (sl v11), (sl v13)] :: imm (RSl RS) [sl v5] r3.1.1 :: imm (RSl (RP (RI .i64) (RI .i64))) [sl v7] r3.1.2.1 :: imm (RSl (RI .i64)) [sl v9] r3.1.2.2.1 :: imm (RSl RS) [sl v11] r3.1.2.2.2.1 :: imm (RSl (RP (RI .i64) (RP RExpr (RSl (RP (RI .i64) RExpr))))) [sl v13] r3.1.2.2.2.2 :: gl 0 (pow10L.map (Value.int .u64)) :: Φ) w144 := by
  cases hg : b136
  ·rw [hg] at hs; rw [hz147 hg]; exact ⟨(none, 0, 0), (fun h => by cases h), (sat_addG0 hs rfl)⟩
  ·obtain ⟨v142, R143, hq, hs⟩ := hv146 hg
   replace hs := hs.freeze (i := 0) rfl
   replace hs := hs.re 20 [0, 1, 2, 3, 4, 5, 6, 7, 8, 9, 10, 11, 12, 13, 14, 15, 16, 17, 18, 19] rfl
   replace hs := sat_gate hs (i := 0) rfl true
   rw [hg] at hs
   exact ⟨v142, (fun _ => hq), hs⟩
 refine WL_sub1 (v := (sl v142)) hw148 ?_
 refine WS_litG (A := (RI .i64)) (xs := [0]) (zs := [(.int .i64 0)]) (cells := [(.int .i64 0)]) (parts := [(0, (.const (.int .i64 0)))]) rfl rfl rfl guard_pos hs Tryd.underlying22 ti3 rfl rfl rfl (.cons Opd.c .nil) (by kernel_rfl) rfl (fun hg => (ARd.cons (A := (RI .i64)) (c := [(.int .i64 0)]) (x := 0) rfl ARd.nil)) rfl ?_
 intro v149 w150 hs
 obtain ⟨r151, hr152, -, hm⟩ := callG_some hm
 refine WL_callG rfl rfl rfl guard_pos (f := 16) (first := []) (cap := []) (xs := [(.tmp 114), (.tmp 115)]) (vs := [(sl v142), (sl v149)]) (args := [(sl v142), (sl v149)]) Tryd.call16 Opd.f (.cons (Opd.g rfl id) (.cons (Opd.g rfl id) .nil)) rfl rfl (fun hg => scrutinyref02_Vec_ok (((hs.dupS (i := 1) rfl hg).dupS (i := 1) rfl hg).re 23 [1, 0, 2, 3, 4, 5, 6, 7, 8, 9, 10, 11, 12, 13, 14, 15, 16, 17, 18, 19, 20, 21, 22] rfl) (hr152 hg)) ?_
 intro v154 w153 hv155 hz156
 replace hs := Sat.ofG (fun hg => (hv155 hg).2.re 21 [0, 1, 2, 3, 4, 5, 6, 7, 8, 9, 10, 11, 12, 13, 14, 15, 16, 17, 18, 19, 20] rfl) hz156 hs
 refine WL_sub1 (v := (.bool r151)) (fun hg => (hv155 hg).1) ?_
 replace hs := Sat.n21 (Γ := Φ) hs rfl
 obtain ⟨b157, e158, hm⟩ := letv_some hm
 refine Wo (Run.eqB (Run_and (O rfl) (Opd.g rfl id)) e158) rfl <| Wo (Run_move (O rfl)) rfl <| WL_opG rfl rfl rfl rfl guard_pos (Run_loadA (vs := [(sl v5), (sl v7), (sl v9), (sl v11), (sl v13)]) Tryd.underlying28 rfl ti28 (O rfl) (fun _ => (hs.box (i := 14) rfl).part 0 rfl) rfl) rfl rfl rfl <| ?_
 refine WS_litG (A := (RI .i64)) (xs := [2]) (zs := [(.int .i64 0)]) (cells := [(.int .i64 2)]) (parts := [(0, (.const (.int .i64 2)))]) rfl rfl rfl guard_pos hs Tryd.underlying22 ti3 rfl rfl rfl (.cons Opd.c .nil) (by kernel_rfl) rfl (fun hg => (ARd.cons (A := (RI .i64)) (c := [(.int .i64 2)]) (x := 2) rfl ARd.nil)) rfl ?_
 intro v159 w160 hs
 obtain ⟨r161, hr162, -, hm⟩ := callG_some hm
 refine WL_callG rfl rfl rfl guard_pos (f := 17) (first := []) (cap := []) (xs := [(.tmp 119), (.tmp 120)]) (vs := [(.agg #[(sl v5), (sl v7), (sl v9), (sl v11), (sl v13)]), (sl v159)]) (args := [(.agg #[(sl v5), (sl v7), (sl v9), (sl v11), (sl v13)]), (sl v159)]) Tryd.call17 Opd.f (.cons (Opd.g rfl id) (.cons (Opd.g rfl id) .nil)) rfl rfl (fun hg => step_Enabled_ok ((hs.dupS (i := 0) rfl hg).re 23 [17, 18, 19, 20, 21, 0, 1, 2, 3, 4, 5, 6, 7, 8, 9, 10, 11, 12, 13, 14, 15, 16, 17, 18, 19, 20, 21, 22] rfl) (hr162 hg)) ?_
 intro v166 w165 hv167 hz168
 obtain ⟨v163, hw169, hs⟩ : ∃ v163 : SLV, (b157 = true → v166 = (sl v163)) ∧ Sat (immG b157 (RSl (RI .i64)) [sl v163] r161 :: immG b157 (RSl (RI .i64)) [sl v159] ([2] : List Int) :: immG b136 (RSl (RI .i64)) [sl v149] ([0] : List Int) :: immG b136 (RSl (RI .i64)) [sl v142] r140 :: immG b136 (RSl (RI .i64)) [sl v138] ([1] : List Int) :: immG b126 (RSl (RI .i64)) [sl v128] ([2] : List Int) :: immG b98 (RSl (RSl (RI .i64))) [sl v102] ([([2] : List Int)] : List (List Int)) :: immG b98 (RSl (RI .i64)) [sl v100] ([2] : List Int) :: immG b78 (RSl (RSl (RI .i64))) [sl v86] ([([0] : List Int), ([1] : List Int), ([2] : List Int)] : List (List Int)) :: immG b78 (RSl (RI .i64)) [sl v84] ([2] : List Int) :: immG b78 (RSl (RI .i64)) [sl v82] ([1] : List Int) :: immG b78 (RSl (RI .i64)) [sl v80] ([0] : List Int) :: osl (RSl (RI .i64)) 22 (sl v70) r68.1 R71 :: imm (RSl (RI .i64)) [sl v72] r68.2.2 :: imm (RSl (RSl (RI .i64))) [sl v29] r27.1 :: imm (RSl (RSl (RI .i64))) [sl v21] r19.1 :: box b16 28 [(sl v5), (sl v7), (sl v9), (sl v11), (sl v13)] :: imm (RSl RS) [sl v5] r3.1.1 :: imm (RSl (RP (RI .i64) (RI .i64))) [sl v7] r3.1.2.1 :: imm (RSl (RI .i64)) [sl v9] r3.1.2.2.1 :: imm (RSl RS) [sl v11] r3.1.2.2.2.1 :: imm (RSl (RP (RI .i64) (RP RExpr (RSl (RP (RI .i64) RExpr))))) [sl v13] r3.1.2.2.2.2 :: gl 0 (pow10L.map (Value.int .u64)) :: Φ) w165 := by
  cases hg : b157
  ·rw [hg] at hs; rw [hz168 hg]; exact ⟨(none, 0, 0), (fun h => by cases h), (sat_addG0 hs rfl)⟩
  ·obtain ⟨v163, R164, hq, hs⟩ := hv167 hg
   replace hs := hs.freeze (i := 0) rfl
   replace hs := hs.re 23 [0, 1, 2, 3, 4, 5, 6, 7, 8, 9, 10, 11, 12, 13, 14, 15, 16, 17, 18, 19, 20, 21, 22] rfl
   replace hs := sat_gate hs (i := 0) rfl true
   rw [hg] at hs
   exact ⟨v163, (fun _ => hq), hs⟩
 refine WL_sub1 (v := (sl v163)) hw169 ?_
 refine WL_opG rfl rfl rfl rfl guard_pos (Run_lenSlG Tryd.underlying22 (Opd.g rfl id) (fun hg => ((hs.slG (i := 0) rfl) hg).len)) rfl rfl rfl <| ?_
 obtain ⟨b170, e171, hm⟩ := letv_some hm
 refine WL_opG rfl rfl rfl rfl guard_pos (Run.eqB (Run_eqI (Opd.g rfl id) Opd.c) e171) rfl rfl rfl <| ?_
 obtain ⟨b172, e173, hm⟩ := letv_some hm
 refine Wo (Run.eqB (Run_and (O rfl) (Opd.g rfl id)) e173) rfl <| Wo (Run_assign (O rfl)) rfl <| ?_
 refine WL_nil <| At_then ?_
 refine WC_ret ?_
 refine At_r1 rfl (ResIs.t rfl) ?_
 cases hm
 exact ⟨rfl, (hs.re 23 [] rfl)⟩
set_option maxRecDepth 100000 in
set_option maxHeartbeats 4000000 in
theorem scrutinyref02_In_ok {Φ : Ctx} {w : World} {s : (List (Int × Int))} {v3 : (List Int)} {v1 : SLV} {v4 : SLV} {r : Int} (hs : Sat (imm (RSl (RP (RI .i64) (RI .i64))) [sl v1] s :: imm (RSl (RI .i64)) [sl v4] v3 :: Φ) w) (hm : scrutinyref02_In s v3 = some r) :
  CallsR Tryd.prog 26 [(sl v1), (sl v4)] w (fun v w' => v = (.int .i64 r) ∧ Sat (Φ) w') := by
 refine CallsX_enter Tryd.func26 rfl Tryd.ntmps26 rfl ?_
 unfold scrutinyref02_In at hm
 refine WC_seq <| WC_region ?_
 refine Wo (Run_assign Opd.c) rfl <| ?_
 refine WL_nil <| At_then <| WC_seq <| WC_seq <| WC_region ?_
 refine Wo (Run_move (O rfl)) rfl <| Wo (Run_lenSlG Tryd.underlying22 (O rfl) (fun hg => (hs.sl (i := 1) rfl).len)) rfl <| Wo (Run_move (O rfl)) rfl <| Wo (Run_lenSlG Tryd.underlying25 (O rfl) (fun hg => (hs.sl (i := 0) rfl).len)) rfl <| Wo (Run_neI (O rfl) (O rfl)) rfl <| ?_
 refine WL_nil <| At_then ?_
 refine WC_cond (O rfl) (fun hc3 => ?_) (fun hc3 => ?_)
 ·
  replace hm := bif_t hc3 hm
  refine WC_seq <| WC_region ?_
  refine Wo (Run_assign Opd.c) rfl <| ?_
  refine WL_nil <| At_then ?_
  refine WC_ret ?_
  refine At_then_ret <| ?_
  refine At_r1 rfl (ResIs.t rfl) ?_
  cases hm
  exact ⟨rfl, (hs.re 2 [] rfl)⟩
 ·
  replace hm := bif_f hc3 hm
  refine WC_skip ?_
  refine At_then <| WC_seq <| WC_seq <| WC_region ?_
  refine Wo (Run_assign Opd.c) rfl <| ?_
  refine WL_nil <| At_then ?_
  refine WC_block ?_
  refine WC_loop (σ := Int) (γ := Unit) (F := (scrutinyref02_In_L1 s v3)) (N := FUEL) (s0 := 0) (r := r) (fun i5 (_ : Unit) w4 => Sat (imm (RSl (RP (RI .i64) (RI .i64))) [sl v1] s :: imm (RSl (RI .i64)) [sl v4] v3 :: Φ) w4) (fun i5 (_ : Unit) => [(0, true, (sl v1)), (1, true, (sl v4)), (5, true, (.int .i64 i5))]) hm () (hs.re 2 [0, 1] rfl) rfl ?_
  rintro again6 i5 _ w4 hm hs
  unfold scrutinyref02_In_L1 at hm
  refine WC_seq <| WC_seq <| WC_region ?_
  refine Wo (Run_move (O rfl)) rfl <| Wo (Run_move (O rfl)) rfl <| Wo (Run_lenSlG Tryd.underlying22 (O rfl) (fun hg => (hs.sl (i := 1) rfl).len)) rfl <| Wo (Run_ltI (O rfl) (O rfl)) rfl <| ?_
  refine WL_nil <| At_then ?_
  refine WC_cond (O rfl) (fun hc7 => ?_) (fun hc7 => ?_)
  ·
   replace hm := bif_t hc7 hm
   refine WC_skip ?_
   refine At_then <| WC_seq ?_
   refine WC_block ?_
   refine WC_seq ?_
   refine WC_region_mixed [0, 0, 3, 4, 0, 0, 48, 64, 128, 264, 512, 1024, 1024, 7168, 9216, 1024, 1024, 99328, 132096, 263168, 541696, 1049600] (.q 0 0 (.q 1 1 (.q 2 3 (.q 3 7 (.q 4 15 (.q 5 31 (.q 6 63 (.q 7 127 (.q 8 255 (.q 9 511 (.q 10 1023 (.q 11 2047 (.q 12 4095 (.q 13 8191 (.q 14 16383 (.q 15 32767 (.q 16 65535 (.q 17 131071 (.q 18 262143 (.q 19 524287 (.q 20 1048575 (.q 21 2097151 .nil)))))))))))))))))))))) (by kernel_rfl) (by kernel_rfl) ?_
   intro w8 hx9
   replace hs := hs.ext hx9
   refine WD_pure (fun _ => (Run_move (O rfl))) rfl rfl rfl rfl <| WD_pure (fun _ => (Run_move (O rfl))) rfl rfl rfl rfl <| ?_
   obtain ⟨e10, he11, hm⟩ := bind_some' hm
   refine WD_pure (fun _ => (Run_idxAddr (p := (elA (sl v4) i5 1)) Tryd.underlying22 ti3 (O rfl) (O rfl) (fun hg => (SRd.atA (A := (RI .i64)) (v := (sl v4)) (hs.sl (i := 1) rfl) he11).1))) rfl rfl rfl rfl <| WD_op (fun w => true = true → CellsAt w (elA (sl v4) i5 1) [(.int .i64 e10)]) (fun hg => (SRd.cellsF (A := (RI .i64)) (v := (sl v4)) (hs.sl (i := 1) rfl) he11 (fun _ h => openT3 h)).sub 0 rfl) (fun _ hJ => (Run_load1 (v := (.int .i64 e10)) Tryd.underlying3 rfl (O rfl) hJ)) rfl rfl rfl rfl <| WD_pure (fun _ => (Run_move (O rfl))) rfl rfl rfl rfl <| WD_pure (fun _ => (Run_move (O rfl))) rfl rfl rfl rfl <| ?_
   obtain ⟨e12, he13, hm⟩ := bind_some' hm
   refine WD_pure (fun _ => (Run_idxAddr (p := (elA (sl v1) i5 2)) Tryd.underlying25 ti72 (O rfl) (O rfl) (fun hg => (SRd.atA (A := (RP (RI .i64) (RI .i64))) (v := (sl v1)) (hs.sl (i := 0) rfl) he13).1))) rfl rfl rfl rfl <| WD_pure (fun _ => (Run_fieldAddr fo72_0 (O rfl))) rfl rfl rfl rfl <| WD_op (fun w => true = true → CellsAt w ((elA (sl v1) i5 2).add 0) [(.int .i64 e12.1)]) (fun hg => ((SRd.cellsF (A := (RP (RI .i64) (RI .i64))) (v := (sl v1)) (hs.sl (i := 0) rfl) he13 (fun _ h => openT72 h)).sub (us := [(.int .i64 e12.1)]) 0 rfl).sub 0 rfl) (fun _ hJ => (Run_load1 (v := (.int .i64 e12.1)) Tryd.underlying3 rfl (O rfl) hJ)) rfl rfl rfl rfl <| ?_
   obtain ⟨b14, e15, hm⟩ := letv_some hm
   refine WD_pure (fun _ => (Run.eqB (Run_ltI (O rfl) (O rfl)) e15)) rfl rfl rfl rfl <| WD_pure (fun _ => (Run_move (O rfl))) rfl rfl rfl rfl <| WD_pureG rfl rfl rfl rfl guard_neg (fun _ => (Run_move (O rfl))) rfl rfl rfl <| WD_pureG rfl rfl rfl rfl guard_neg (fun _ => (Run_move (O rfl))) rfl rfl rfl <| ?_
   obtain ⟨e16, he17, -, hm⟩ := callG_some hm
   refine WD_pureG rfl rfl rfl rfl guard_neg (fun _ => (Run_idxAddr (p := (elA (sl v4) i5 1)) Tryd.underlying22 ti3 (Opd.g rfl id) (Opd.g rfl id) (fun hg => (SRd.atA (A := (RI .i64)) (v := (sl v4)) (hs.sl (i := 1) rfl) (he17 hg)).1))) rfl rfl rfl <| WD_opG (fun w => (!b14) = true → CellsAt w (elA (sl v4) i5 1) [(.int .i64 e16)]) (fun hg => (SRd.cellsF (A := (RI .i64)) (v := (sl v4)) (hs.sl (i := 1) rfl) (he17 hg) (fun _ h => openT3 h)).sub 0 rfl) rfl rfl rfl rfl guard_neg (fun _ hJ => (Run_load1 (v := (.int .i64 e16)) Tryd.underlying3 rfl (Opd.g rfl id) hJ)) rfl rfl rfl <| WD_pureG rfl rfl rfl rfl guard_neg (fun _ => (Run_move (O rfl))) rfl rfl rfl <| WD_pureG rfl rfl rfl rfl guard_neg (fun _ => (Run_move (O rfl))) rfl rfl rfl <| ?_
   obtain ⟨e18, he19, -, hm⟩ := callG_some hm
   refine WD_pureG rfl rfl rfl rfl guard_neg (fun _ => (Run_idxAddr (p := (elA (sl v1) i5 2)) Tryd.underlying25 ti72 (Opd.g rfl id) (Opd.g rfl id) (fun hg => (SRd.atA (A := (RP (RI .i64) (RI .i64))) (v := (sl v1)) (hs.sl (i := 0) rfl) (he19 hg)).1))) rfl rfl rfl <| WD_pureG rfl rfl rfl rfl guard_neg (fun _ => (Run_fieldAddr fo72_1 (Opd.g rfl id))) rfl rfl rfl <| WD_opG (fun w => (!b14) = true → CellsAt w ((elA (sl v1) i5 2).add 1) [(.int .i64 e18.2)]) (fun hg => ((SRd.cellsF (A := (RP (RI .i64) (RI .i64))) (v := (sl v1)) (hs.sl (i := 0) rfl) (he19 hg) (fun _ h => openT72 h)).sub (us := [(.int .i64 e18.2)]) 1 rfl).sub 0 rfl) rfl rfl rfl rfl guard_neg (fun _ hJ => (Run_load1 (v := (.int .i64 e18.2)) Tryd.underlying3 rfl (Opd.g rfl id) hJ)) rfl rfl rfl <| ?_
   obtain ⟨b20, e21, hm⟩ := letv_some hm
   refine WD_pureG rfl rfl rfl rfl guard_neg (fun _ => (Run.eqB (Run_gtI (Opd.g rfl id) (Opd.g rfl id)) e21)) rfl rfl rfl <| ?_
   obtain ⟨b22, e23, hm⟩ := letv_some hm
   refine WD_pure (fun _ => (Run.eqB (Run_or (O rfl) (Opd.g rfl id)) e23)) rfl rfl rfl rfl <| ?_
   refine WD_nil ?_
   refine At_then ?_
   refine WC_cond (O rfl) (fun hc24 => ?_) (fun hc24 => ?_)
   ·
    replace hm := bif_t hc24 hm
    refine WC_seq <| WC_region ?_
    refine Wo (Run_assign Opd.c) rfl <| ?_
    refine WL_nil <| At_then ?_
    refine WC_ret ?_
    refine At_blk_ret <| At_then_ret <| At_then_ret <| At_blk_ret <| At_then_ret <| ?_
    refine At_r1 rfl (ResIs.t rfl) ?_
    cases hm
    exact ⟨rfl, (hs.re 2 [] rfl)⟩
   ·
    replace hm := bif_f hc24 hm
    refine WC_skip ?_
    refine At_blk_normal ?_
    refine At_then <| WC_region ?_
    refine Wo (Run_move (O rfl)) rfl <| Wo (Run_add (O rfl) Opd.c) rfl <| Wo (Run_assign (O rfl)) rfl <| ?_
    refine WL_nil ?_
    exact At_again (IntKind.i64.wrap (i5 + 1)) () hm (hs.re 2 [0, 1] rfl) rfl
  ·
   replace hm := bif_f hc7 hm
   refine WC_exit ?_
   refine At_then_exit <| At_then_exit <| At_blk_here <| ?_
   refine At_then <| WC_seq <| WC_region ?_
   refine Wo (Run_assign Opd.c) rfl <| ?_
   refine WL_nil <| At_then ?_
   refine WC_ret ?_
   refine At_r1 rfl (ResIs.t rfl) ?_
   cases hm
   exact ⟨rfl, (hs.re 2 [] rfl)⟩
set_option maxRecDepth 100000 in
set_option maxHeartbeats 4000000 in
theorem scrutinyref15_In_ok {Φ : Ctx} {w : World} {m : ((List Str) × (List (Int × Int)) × (List Int) × (List Str) × (List (Int × Ex × (List (Int × Ex)))))} {v11 : (List Int)} {v1 : SLV} {v3 : SLV} {v5 : SLV} {v7 : SLV} {v9 : SLV} {v12 : SLV} {r : Bool} (hs : Sat (imm (RSl RS) [sl v1] m.1 :: imm (RSl (RP (RI .i64) (RI .i64))) [sl v3] m.2.1 :: imm (RSl (RI .i64)) [sl v5] m.2.2.1 :: imm (RSl RS) [sl v7] m.2.2.2.1 :: imm (RSl (RP (RI .i64) (RP RExpr (RSl (RP (RI .i64) RExpr))))) [sl v9] m.2.2.2.2 :: imm (RSl (RI .i64)) [sl v12] v11 :: Φ) w) (hm : scrutinyref15_In m v11 = some r) :
  CallsR Tryd.prog 11 [(.agg #[(sl v1), (sl v3), (sl v5), (sl v7), (sl v9)]), (sl v12)] w (fun v w' => v = (.bool r) ∧ Sat (Φ) w') := by
 refine CallsX_enter Tryd.func11 rfl Tryd.ntmps11 rfl ?_
 unfold scrutinyref15_In at hm
 refine WC_seq <| WC_region ?_
 refine WS_box (zs := [(sl v1), (sl v3), (sl v5), (sl v7), (sl v9)]) hs (O rfl) rfl rfl ?_
 intro b3 w4 hs
 replace hs := Sat.n7 (Γ := Φ) hs rfl
 refine Wo (Run_assign Opd.c) rfl <| ?_
 refine WL_nil <| At_then <| WC_seq <| WC_region ?_
 refine Wo (Run_fieldAddr fo28_1 (O rfl)) rfl <| Wo (Run_load1 (v := (sl v3)) Tryd.underlying25 rfl (O rfl) (fun _ => (hs.box (i := 0) rfl).part 1 rfl)) rfl <| Wo (Run_move (O rfl)) rfl <| ?_
 obtain ⟨r5, hr6, hm⟩ := bind_some' hm
 refine WL_call (f := 26) (first := []) (cap := []) (xs := [(.tmp 6), (.tmp 7)]) (vs := [(sl v3), (sl v12)]) (args := [(sl v3), (sl v12)]) Tryd.call26 Opd.f (.cons (O rfl) (.cons (O rfl) .nil)) rfl rfl (scrutinyref02_In_ok (hs.re 7 [2, 6, 0, 1, 2, 3, 4, 5, 6] rfl) hr6) ?_
 rintro _ w7 ⟨rfl, hs⟩
 replace hs := Sat.n7 (Γ := Φ) hs rfl
 refine Wo (Run_eqI (O rfl) Opd.c) rfl <| Wo (Run_assign (O rfl)) rfl <| ?_
 refine WL_nil <| At_then ?_
 refine WC_ret ?_
 refine At_r1 rfl (ResIs.t rfl) ?_
 cases hm
 exact ⟨rfl, (hs.re 7 [] rfl)⟩
end Go.Proofs.YtjdabjpjafkogaaDoor
namespace Go.Proofs.YtjdabjpjafkogaaDoor
open Go.Proofs
set_option maxRecDepth 100000 in
set_option maxHeartbeats 4000000 in
theorem scrutinyref13_truth_ok {Φ : Ctx} {w : World} {is_ : Bool} {r : Int} (hs : Sat (Φ) w) (hm : scrutinyref13_truth is_ = some r) :
  CallsR Tryd.prog 32 [(.bool is_)] w (fun v w' => v = (.int .i64 r) ∧ Sat (Φ) w') := by
 refine CallsX_enter Tryd.func32 rfl Tryd.ntmps32 rfl ?_
 unfold scrutinyref13_truth at hm
 refine WC_seq <| WC_region ?_
 refine Wo (Run_assign Opd.c) rfl <| ?_
 refine WL_nil <| At_then <| WC_seq <| WC_seq <| WC_region ?_
 refine Wo (Run_move (O rfl)) rfl <| ?_
 refine WL_nil <| At_then ?_
 refine WC_cond (O rfl) (fun hc3 => ?_) (fun hc3 => ?_)
 ·
  replace hm := bif_t hc3 hm
  refine WC_seq <| WC_region ?_
  refine Wo (Run_assign Opd.c) rfl <| ?_
  refine WL_nil <| At_then ?_
  refine WC_ret ?_
  refine At_then_ret <| ?_
  refine At_r1 rfl (ResIs.t rfl) ?_
  cases hm
  exact ⟨rfl, (hs.re 0 [] rfl)⟩
 ·
  replace hm := bif_f hc3 hm
  refine WC_skip ?_
  refine At_then <| WC_seq <| WC_region ?_
  refine Wo (Run_assign Opd.c) rfl <| ?_
  refine WL_nil <| At_then ?_
  refine WC_ret ?_
  refine At_r1 rfl (ResIs.t rfl) ?_
  cases hm
  exact ⟨rfl, (hs.re 0 [] rfl)⟩
set_option maxRecDepth 100000 in
set_option maxHeartbeats 4000000 in
theorem scrutinyref13_Eval_F_ok {k_scrutinyref13_Eval : (Ex × (List Int)) → Option Int} (ih_scrutinyref13_Eval : ∀ {Φ : Ctx} {w : World} {e : Ex} {v3 : (List Int)} {v1 : SLV} {v4 : SLV} {r : Int}, Sat (imm (RSl RExpr) [sl v1] e.l :: imm (RSl (RI .i64)) [sl v4] v3 :: Φ) w → k_scrutinyref13_Eval (e, v3) = some r → CallsR Tryd.prog 23 [(.agg #[(.int .i64 e.op), (.int .i64 e.n), (.int .i64 e.at_), (sl v1)]), (sl v4)] w (fun v w' => v = (.int .i64 r) ∧ Sat (Φ) w')) {Φ : Ctx} {w : World} {e : Ex} {v3 : (List Int)} {v1 : SLV} {v4 : SLV} {r : Int} (hs : Sat (imm (RSl RExpr) [sl v1] e.l :: imm (RSl (RI .i64)) [sl v4] v3 :: Φ) w) (hm : scrutinyref13_Eval_F k_scrutinyref13_Eval e v3 = some r) :
  CallsR Tryd.prog 23 [(.agg #[(.int .i64 e.op), (.int .i64 e.n), (.int .i64 e.at_), (sl v1)]), (sl v4)] w (fun v w' => v = (.int .i64 r) ∧ Sat (Φ) w') := by
 refine CallsX_enter Tryd.func23 rfl Tryd.ntmps23 rfl ?_
 unfold scrutinyref13_Eval_F at hm
 refine WC_seq <| WC_region ?_
 refine WS_box (zs := [(.int .i64 e.op), (.int .i64 e.n), (.int .i64 e.at_), (sl v1)]) hs (O rfl) rfl rfl ?_
 intro b3 w4 hs
 replace hs := Sat.n3 (Γ := Φ) hs rfl
 refine Wo (Run_assign Opd.c) rfl <| ?_
 refine WL_nil <| At_then <| WC_seq <| WC_region ?_
 refine Wo (Run_assign Opd.c) rfl <| ?_
 refine WL_nil <| At_then <| WC_seq <| WC_region ?_
 refine Wo (Run_assign Opd.c) rfl <| ?_
 refine WL_nil <| At_then ?_
 refine WC_seq_cut (γ := Int) (fun a6 w5 => scrutinyref13_Eval_K1 k_scrutinyref13_Eval e v3 a6 = some r ∧ Sat (imm (RSl (RI .i64)) [sl v4] v3 :: box b3 57 [(.int .i64 e.op), (.int .i64 e.n), (.int .i64 e.at_), (sl v1)] :: imm (RSl RExpr) [sl v1] e.l :: Φ) w5) (fun a6 => [(1, true, (sl v4)), (2, true, (.pointer (some ⟨b3, 0, none⟩))), (5, true, (.int .i64 a6)), (6, true, (.int .i64 0))]) ?_ ?_
 ·
  rintro a6 w5 ⟨hm, hs⟩
  unfold scrutinyref13_Eval_K1 at hm
  refine WC_seq_cut (γ := Int) (fun b8 w7 => scrutinyref13_Eval_K2 e v3 a6 b8 = some r ∧ Sat (imm (RSl (RI .i64)) [sl v4] v3 :: box b3 57 [(.int .i64 e.op), (.int .i64 e.n), (.int .i64 e.at_), (sl v1)] :: imm (RSl RExpr) [sl v1] e.l :: Φ) w7) (fun b8 => [(1, true, (sl v4)), (2, true, (.pointer (some ⟨b3, 0, none⟩))), (5, true, (.int .i64 a6)), (6, true, (.int .i64 b8))]) ?_ ?_
  ·
   rintro b8 w7 ⟨hm, hs⟩
   unfold scrutinyref13_Eval_K2 at hm
   refine WC_seq <| WC_seq <| WC_region ?_
   refine Wo (Run_fieldAddr fo57_0 (O rfl)) rfl <| Wo (Run_load1 (v := (.int .i64 e.op)) Tryd.underlying3 rfl (O rfl) (fun _ => (hs.box (i := 1) rfl).part 0 rfl)) rfl <| ?_
   refine WL_nil <| At_then ?_
   refine WC_block ?_
   refine WC_seq <| WC_region ?_
   refine Wo (Run_eqI (O rfl) Opd.c) rfl <| Wo (Run_assign (O rfl)) rfl <| ?_
   refine WL_nil <| At_then ?_
   refine WC_cond (O rfl) (fun hc9 => ?_) (fun hc9 => ?_)
   ·
    replace hm := bif_t hc9 hm
    refine WC_seq <| WC_region ?_
    refine Wo (Run_fieldAddr fo57_1 (O rfl)) rfl <| Wo (Run_load1 (v := (.int .i64 e.n)) Tryd.underlying3 rfl (O rfl) (fun _ => (hs.box (i := 1) rfl).part 1 rfl)) rfl <| Wo (Run_assign (O rfl)) rfl <| ?_
    refine WL_nil <| At_then ?_
    refine WC_ret ?_
    refine At_blk_ret <| At_then_ret <| ?_
    refine At_r1 rfl (ResIs.t rfl) ?_
    cases hm
    exact ⟨rfl, (hs.re 3 [] rfl)⟩
   ·
    replace hm := bif_f hc9 hm
    refine WC_seq <| WC_region ?_
    refine Wo (Run_eqI (O rfl) Opd.c) rfl <| Wo (Run_assign (O rfl)) rfl <| ?_
    refine WL_nil <| At_then ?_
    refine WC_cond (O rfl) (fun hc10 => ?_) (fun hc10 => ?_)
    ·
     replace hm := bif_t hc10 hm
     refine WC_seq <| WC_seq <| WC_region ?_
     refine Wo (Run_fieldAddr fo57_1 (O rfl)) rfl <| Wo (Run_load1 (v := (.int .i64 e.n)) Tryd.underlying3 rfl (O rfl) (fun _ => (hs.box (i := 1) rfl).part 1 rfl)) rfl <| ?_
     obtain ⟨b11, e12, hm⟩ := letv_some hm
     refine Wo (Run.eqB (Run_geI (O rfl) Opd.c) e12) rfl <| Wo (Run_move (O rfl)) rfl <| WL_opG rfl rfl rfl rfl guard_pos (Run_fieldAddr fo57_1 (O rfl)) rfl rfl rfl <| WL_opG rfl rfl rfl rfl guard_pos (Run_load1 (v := (.int .i64 e.n)) Tryd.underlying3 rfl (Opd.g rfl id) (fun _ => (hs.box (i := 1) rfl).part 1 rfl)) rfl rfl rfl <| WL_opG rfl rfl rfl rfl guard_pos (Run_move (O rfl)) rfl rfl rfl <| WL_opG rfl rfl rfl rfl guard_pos (Run_lenSlG Tryd.underlying22 (Opd.g rfl id) (fun hg => (hs.sl (i := 0) rfl).len)) rfl rfl rfl <| ?_
     obtain ⟨b13, e14, hm⟩ := letv_some hm
     refine WL_opG rfl rfl rfl rfl guard_pos (Run.eqB (Run_ltI (Opd.g rfl id) (Opd.g rfl id)) e14) rfl rfl rfl <| ?_
     obtain ⟨b15, e16, hm⟩ := letv_some hm
     refine Wo (Run.eqB (Run_and (O rfl) (Opd.g rfl id)) e16) rfl <| ?_
     refine WL_nil <| At_then ?_
     refine WC_cond (O rfl) (fun hc17 => ?_) (fun hc17 => ?_)
     ·
      replace hm := bif_t hc17 hm
      refine WC_seq <| WC_region ?_
      refine Wo (Run_move (O rfl)) rfl <| Wo (Run_fieldAddr fo57_1 (O rfl)) rfl <| Wo (Run_load1 (v := (.int .i64 e.n)) Tryd.underlying3 rfl (O rfl) (fun _ => (hs.box (i := 1) rfl).part 1 rfl)) rfl <| ?_
      obtain ⟨e18, he19, hm⟩ := bind_some' hm
      refine Wo (Run_idxAddr (p := (elA (sl v4) e.n 1)) Tryd.underlying22 ti3 (O rfl) (O rfl) (fun hg => (SRd.atA (A := (RI .i64)) (v := (sl v4)) (hs.sl (i := 0) rfl) he19).1)) rfl <| Wo (Run_load1 (v := (.int .i64 e18)) Tryd.underlying3 rfl (O rfl) (fun hg => (SRd.cellsF (A := (RI .i64)) (v := (sl v4)) (hs.sl (i := 0) rfl) he19 (fun _ h => openT3 h)).sub 0 rfl)) rfl <| Wo (Run_assign (O rfl)) rfl <| ?_
      refine WL_nil <| At_then ?_
      refine WC_ret ?_
      refine At_then_ret <| At_blk_ret <| At_then_ret <| ?_
      refine At_r1 rfl (ResIs.t rfl) ?_
      cases hm
      exact ⟨rfl, (hs.re 3 [] rfl)⟩
     ·
      replace hm := bif_f hc17 hm
      refine WC_skip ?_
      refine At_then <| WC_seq <| WC_region ?_
      refine Wo (Run_assign Opd.c) rfl <| ?_
      refine WL_nil <| At_then ?_
      refine WC_ret ?_
      refine At_blk_ret <| At_then_ret <| ?_
      refine At_r1 rfl (ResIs.t rfl) ?_
      cases hm
      exact ⟨rfl, (hs.re 3 [] rfl)⟩
    ·
     replace hm := bif_f hc10 hm
     refine WC_seq <| WC_region ?_
     refine Wo (Run_eqI (O rfl) Opd.c) rfl <| Wo (Run_assign (O rfl)) rfl <| ?_
     refine WL_nil <| At_then ?_
     refine WC_cond (O rfl) (fun hc20 => ?_) (fun hc20 => ?_)
     ·
      replace hm := bif_t hc20 hm
      refine WC_seq <| WC_region ?_
      refine Wo (Run_move (O rfl)) rfl <| Wo (Run_move (O rfl)) rfl <| Wo (Run_add (O rfl) (O rfl)) rfl <| Wo (Run_assign (O rfl)) rfl <| ?_
      refine WL_nil <| At_then ?_
      refine WC_ret ?_
      refine At_blk_ret <| At_then_ret <| ?_
      refine At_r1 rfl (ResIs.t rfl) ?_
      cases hm
      exact ⟨rfl, (hs.re 3 [] rfl)⟩
     ·
      replace hm := bif_f hc20 hm
      refine WC_seq <| WC_region ?_
      refine Wo (Run_eqI (O rfl) Opd.c) rfl <| Wo (Run_assign (O rfl)) rfl <| ?_
      refine WL_nil <| At_then ?_
      refine WC_cond (O rfl) (fun hc21 => ?_) (fun hc21 => ?_)
      ·
       replace hm := bif_t hc21 hm
       refine WC_seq <| WC_region ?_
       refine Wo (Run_move (O rfl)) rfl <| Wo (Run_move (O rfl)) rfl <| Wo (Run_sub (O rfl) (O rfl)) rfl <| Wo (Run_assign (O rfl)) rfl <| ?_
       refine WL_nil <| At_then ?_
       refine WC_ret ?_
       refine At_blk_ret <| At_then_ret <| ?_
       refine At_r1 rfl (ResIs.t rfl) ?_
       cases hm
       exact ⟨rfl, (hs.re 3 [] rfl)⟩
      ·
       replace hm := bif_f hc21 hm
       refine WC_seq <| WC_region ?_
       refine Wo (Run_eqI (O rfl) Opd.c) rfl <| Wo (Run_assign (O rfl)) rfl <| ?_
       refine WL_nil <| At_then ?_
       refine WC_cond (O rfl) (fun hc22 => ?_) (fun hc22 => ?_)
       ·
        replace hm := bif_t hc22 hm
        refine WC_seq <| WC_region ?_
        refine Wo (Run_move (O rfl)) rfl <| Wo (Run_move (O rfl)) rfl <| Wo (Run_mul (O rfl) (O rfl)) rfl <| Wo (Run_assign (O rfl)) rfl <| ?_
        refine WL_nil <| At_then ?_
        refine WC_ret ?_
        refine At_blk_ret <| At_then_ret <| ?_
        refine At_r1 rfl (ResIs.t rfl) ?_
        cases hm
        exact ⟨rfl, (hs.re 3 [] rfl)⟩
       ·
        replace hm := bif_f hc22 hm
        refine WC_seq <| WC_region ?_
        refine Wo (Run_eqI (O rfl) Opd.c) rfl <| Wo (Run_assign (O rfl)) rfl <| ?_
        refine WL_nil <| At_then ?_
        refine WC_cond (O rfl) (fun hc23 => ?_) (fun hc23 => ?_)
        ·
         replace hm := bif_t hc23 hm
         refine WC_seq <| WC_region ?_
         refine Wo (Run_move (O rfl)) rfl <| Wo (Run_neg (O rfl)) rfl <| Wo (Run_assign (O rfl)) rfl <| ?_
         refine WL_nil <| At_then ?_
         refine WC_ret ?_
         refine At_blk_ret <| At_then_ret <| ?_
         refine At_r1 rfl (ResIs.t rfl) ?_
         cases hm
         exact ⟨rfl, (hs.re 3 [] rfl)⟩
        ·
         replace hm := bif_f hc23 hm
         refine WC_seq <| WC_region ?_
         refine Wo (Run_eqI (O rfl) Opd.c) rfl <| Wo (Run_assign (O rfl)) rfl <| ?_
         refine WL_nil <| At_then ?_
         refine WC_cond (O rfl) (fun hc24 => ?_) (fun hc24 => ?_)
         ·
          replace hm := bif_t hc24 hm
          refine WC_seq <| WC_region ?_
          refine Wo (Run_move (O rfl)) rfl <| Wo (Run_move (O rfl)) rfl <| Wo (Run_eqI (O rfl) (O rfl)) rfl <| ?_
          obtain ⟨r25, hr26, hm⟩ := bind_some' hm
          refine WL_call (f := 32) (first := []) (cap := []) (xs := [(.tmp 73)]) (vs := [(.bool (a6 == b8))]) (args := [(.bool (a6 == b8))]) Tryd.call32 Opd.f (.cons (O rfl) .nil) rfl rfl (scrutinyref13_truth_ok (hs.re 3 [0, 1, 2] rfl) hr26) ?_
          rintro _ w27 ⟨rfl, hs⟩
          replace hs := Sat.n3 (Γ := Φ) hs rfl
          refine Wo (Run_assign (O rfl)) rfl <| ?_
          refine WL_nil <| At_then ?_
          refine WC_ret ?_
          refine At_blk_ret <| At_then_ret <| ?_
          refine At_r1 rfl (ResIs.t rfl) ?_
          cases hm
          exact ⟨rfl, (hs.re 3 [] rfl)⟩
         ·
          replace hm := bif_f hc24 hm
          refine WC_seq <| WC_region ?_
          refine Wo (Run_eqI (O rfl) Opd.c) rfl <| Wo (Run_assign (O rfl)) rfl <| ?_
          refine WL_nil <| At_then ?_
          refine WC_cond (O rfl) (fun hc28 => ?_) (fun hc28 => ?_)
          ·
           replace hm := bif_t hc28 hm
           refine WC_seq <| WC_region ?_
           refine Wo (Run_move (O rfl)) rfl <| Wo (Run_move (O rfl)) rfl <| Wo (Run_neI (O rfl) (O rfl)) rfl <| ?_
           obtain ⟨r29, hr30, hm⟩ := bind_some' hm
           refine WL_call (f := 32) (first := []) (cap := []) (xs := [(.tmp 79)]) (vs := [(.bool (a6 != b8))]) (args := [(.bool (a6 != b8))]) Tryd.call32 Opd.f (.cons (O rfl) .nil) rfl rfl (scrutinyref13_truth_ok (hs.re 3 [0, 1, 2] rfl) hr30) ?_
           rintro _ w31 ⟨rfl, hs⟩
           replace hs := Sat.n3 (Γ := Φ) hs rfl
           refine Wo (Run_assign (O rfl)) rfl <| ?_
           refine WL_nil <| At_then ?_
           refine WC_ret ?_
           refine At_blk_ret <| At_then_ret <| ?_
           refine At_r1 rfl (ResIs.t rfl) ?_
           cases hm
           exact ⟨rfl, (hs.re 3 [] rfl)⟩
          ·
           replace hm := bif_f hc28 hm
           refine WC_seq <| WC_region ?_
           refine Wo (Run_eqI (O rfl) Opd.c) rfl <| Wo (Run_assign (O rfl)) rfl <| ?_
           refine WL_nil <| At_then ?_
           refine WC_cond (O rfl) (fun hc32 => ?_) (fun hc32 => ?_)
           ·
            replace hm := bif_t hc32 hm
            refine WC_seq <| WC_region ?_
            refine Wo (Run_move (O rfl)) rfl <| Wo (Run_move (O rfl)) rfl <| Wo (Run_ltI (O rfl) (O rfl)) rfl <| ?_
            obtain ⟨r33, hr34, hm⟩ := bind_some' hm
            refine WL_call (f := 32) (first := []) (cap := []) (xs := [(.tmp 85)]) (vs := [(.bool (decide (a6 < b8)))]) (args := [(.bool (decide (a6 < b8)))]) Tryd.call32 Opd.f (.cons (O rfl) .nil) rfl rfl (scrutinyref13_truth_ok (hs.re 3 [0, 1, 2] rfl) hr34) ?_
            rintro _ w35 ⟨rfl, hs⟩
            replace hs := Sat.n3 (Γ := Φ) hs rfl
            refine Wo (Run_assign (O rfl)) rfl <| ?_
            refine WL_nil <| At_then ?_
            refine WC_ret ?_
            refine At_blk_ret <| At_then_ret <| ?_
            refine At_r1 rfl (ResIs.t rfl) ?_
            cases hm
            exact ⟨rfl, (hs.re 3 [] rfl)⟩
           ·
            replace hm := bif_f hc32 hm
            refine WC_seq <| WC_region ?_
            refine Wo (Run_eqI (O rfl) Opd.c) rfl <| Wo (Run_assign (O rfl)) rfl <| ?_
            refine WL_nil <| At_then ?_
            refine WC_cond (O rfl) (fun hc36 => ?_) (fun hc36 => ?_)
            ·
             replace hm := bif_t hc36 hm
             refine WC_seq <| WC_region ?_
             refine Wo (Run_move (O rfl)) rfl <| Wo (Run_move (O rfl)) rfl <| Wo (Run_leI (O rfl) (O rfl)) rfl <| ?_
             obtain ⟨r37, hr38, hm⟩ := bind_some' hm
             refine WL_call (f := 32) (first := []) (cap := []) (xs := [(.tmp 91)]) (vs := [(.bool (decide (a6 ≤ b8)))]) (args := [(.bool (decide (a6 ≤ b8)))]) Tryd.call32 Opd.f (.cons (O rfl) .nil) rfl rfl (scrutinyref13_truth_ok (hs.re 3 [0, 1, 2] rfl) hr38) ?_
             rintro _ w39 ⟨rfl, hs⟩
             replace hs := Sat.n3 (Γ := Φ) hs rfl
             refine Wo (Run_assign (O rfl)) rfl <| ?_
             refine WL_nil <| At_then ?_
             refine WC_ret ?_
             refine At_blk_ret <| At_then_ret <| ?_
             refine At_r1 rfl (ResIs.t rfl) ?_
             cases hm
             exact ⟨rfl, (hs.re 3 [] rfl)⟩
            ·
             replace hm := bif_f hc36 hm
             refine WC_seq <| WC_region ?_
             refine Wo (Run_eqI (O rfl) Opd.c) rfl <| Wo (Run_assign (O rfl)) rfl <| ?_
             refine WL_nil <| At_then ?_
             refine WC_cond (O rfl) (fun hc40 => ?_) (fun hc40 => ?_)
             ·
              replace hm := bif_t hc40 hm
              refine WC_seq <| WC_region ?_
              refine Wo (Run_move (O rfl)) rfl <| Wo (Run_move (O rfl)) rfl <| Wo (Run_gtI (O rfl) (O rfl)) rfl <| ?_
              obtain ⟨r41, hr42, hm⟩ := bind_some' hm
              refine WL_call (f := 32) (first := []) (cap := []) (xs := [(.tmp 97)]) (vs := [(.bool (decide (b8 < a6)))]) (args := [(.bool (decide (b8 < a6)))]) Tryd.call32 Opd.f (.cons (O rfl) .nil) rfl rfl (scrutinyref13_truth_ok (hs.re 3 [0, 1, 2] rfl) hr42) ?_
              rintro _ w43 ⟨rfl, hs⟩
              replace hs := Sat.n3 (Γ := Φ) hs rfl
              refine Wo (Run_assign (O rfl)) rfl <| ?_
              refine WL_nil <| At_then ?_
              refine WC_ret ?_
              refine At_blk_ret <| At_then_ret <| ?_
              refine At_r1 rfl (ResIs.t rfl) ?_
              cases hm
              exact ⟨rfl, (hs.re 3 [] rfl)⟩
             ·
              replace hm := bif_f hc40 hm
              refine WC_seq <| WC_region ?_
              refine Wo (Run_eqI (O rfl) Opd.c) rfl <| Wo (Run_assign (O rfl)) rfl <| ?_
              refine WL_nil <| At_then ?_
              refine WC_cond (O rfl) (fun hc44 => ?_) (fun hc44 => ?_)
              ·
               replace hm := bif_t hc44 hm
               refine WC_seq <| WC_region ?_
               refine Wo (Run_move (O rfl)) rfl <| Wo (Run_move (O rfl)) rfl <| Wo (Run_geI (O rfl) (O rfl)) rfl <| ?_
               obtain ⟨r45, hr46, hm⟩ := bind_some' hm
               refine WL_call (f := 32) (first := []) (cap := []) (xs := [(.tmp 103)]) (vs := [(.bool (decide (b8 ≤ a6)))]) (args := [(.bool (decide (b8 ≤ a6)))]) Tryd.call32 Opd.f (.cons (O rfl) .nil) rfl rfl (scrutinyref13_truth_ok (hs.re 3 [0, 1, 2] rfl) hr46) ?_
               rintro _ w47 ⟨rfl, hs⟩
               replace hs := Sat.n3 (Γ := Φ) hs rfl
               refine Wo (Run_assign (O rfl)) rfl <| ?_
               refine WL_nil <| At_then ?_
               refine WC_ret ?_
               refine At_blk_ret <| At_then_ret <| ?_
               refine At_r1 rfl (ResIs.t rfl) ?_
               cases hm
               exact ⟨rfl, (hs.re 3 [] rfl)⟩
              ·
               replace hm := bif_f hc44 hm
               refine WC_seq <| WC_region ?_
               refine Wo (Run_eqI (O rfl) Opd.c) rfl <| Wo (Run_assign (O rfl)) rfl <| ?_
               refine WL_nil <| At_then ?_
               refine WC_cond (O rfl) (fun hc48 => ?_) (fun hc48 => ?_)
               ·
                replace hm := bif_t hc48 hm
                refine WC_seq <| WC_region ?_
                refine Wo (Run_assign Opd.c) rfl <| ?_
                refine WL_nil <| At_then ?_
                refine WC_ret ?_
                refine At_blk_ret <| At_then_ret <| ?_
                refine At_r1 rfl (ResIs.t rfl) ?_
                cases hm
                exact ⟨rfl, (hs.re 3 [] rfl)⟩
               ·
                replace hm := bif_f hc48 hm
                refine WC_seq <| WC_region ?_
                refine Wo (Run_eqI (O rfl) Opd.c) rfl <| Wo (Run_assign (O rfl)) rfl <| ?_
                refine WL_nil <| At_then ?_
                refine WC_cond (O rfl) (fun hc49 => ?_) (fun hc49 => ?_)
                ·
                 replace hm := bif_t hc49 hm
                 refine WC_seq <| WC_region ?_
                 refine Wo (Run_move (O rfl)) rfl <| Wo (Run_eqI (O rfl) Opd.c) rfl <| ?_
                 obtain ⟨r50, hr51, hm⟩ := bind_some' hm
                 refine WL_call (f := 32) (first := []) (cap := []) (xs := [(.tmp 110)]) (vs := [(.bool (a6 == 0))]) (args := [(.bool (a6 == 0))]) Tryd.call32 Opd.f (.cons (O rfl) .nil) rfl rfl (scrutinyref13_truth_ok (hs.re 3 [0, 1, 2] rfl) hr51) ?_
                 rintro _ w52 ⟨rfl, hs⟩
                 replace hs := Sat.n3 (Γ := Φ) hs rfl
                 refine Wo (Run_assign (O rfl)) rfl <| ?_
                 refine WL_nil <| At_then ?_
                 refine WC_ret ?_
                 refine At_blk_ret <| At_then_ret <| ?_
                 refine At_r1 rfl (ResIs.t rfl) ?_
                 cases hm
                 exact ⟨rfl, (hs.re 3 [] rfl)⟩
                ·
                 replace hm := bif_f hc49 hm
                 refine WC_seq <| WC_region ?_
                 refine Wo (Run_eqI (O rfl) Opd.c) rfl <| Wo (Run_assign (O rfl)) rfl <| ?_
                 refine WL_nil <| At_then ?_
                 refine WC_cond (O rfl) (fun hc53 => ?_) (fun hc53 => ?_)
                 ·
                  replace hm := bif_t hc53 hm
                  refine WC_seq <| WC_region ?_
                  refine Wo (Run_move (O rfl)) rfl <| ?_
                  obtain ⟨b54, e55, hm⟩ := letv_some hm
                  refine Wo (Run.eqB (Run_eqI (O rfl) Opd.c) e55) rfl <| Wo (Run_move (O rfl)) rfl <| WL_opG rfl rfl rfl rfl guard_pos (Run_move (O rfl)) rfl rfl rfl <| ?_
                  obtain ⟨b56, e57, hm⟩ := letv_some hm
                  refine WL_opG rfl rfl rfl rfl guard_pos (Run.eqB (Run_eqI (Opd.g rfl id) Opd.c) e57) rfl rfl rfl <| ?_
                  obtain ⟨b58, e59, hm⟩ := letv_some hm
                  refine Wo (Run.eqB (Run_and (O rfl) (Opd.g rfl id)) e59) rfl <| ?_
                  obtain ⟨r60, hr61, hm⟩ := bind_some' hm
                  refine WL_call (f := 32) (first := []) (cap := []) (xs := [(.tmp 119)]) (vs := [(.bool b58)]) (args := [(.bool b58)]) Tryd.call32 Opd.f (.cons (O rfl) .nil) rfl rfl (scrutinyref13_truth_ok (hs.re 3 [0, 1, 2] rfl) hr61) ?_
                  rintro _ w62 ⟨rfl, hs⟩
                  replace hs := Sat.n3 (Γ := Φ) hs rfl
                  refine Wo (Run_assign (O rfl)) rfl <| ?_
                  refine WL_nil <| At_then ?_
                  refine WC_ret ?_
                  refine At_blk_ret <| At_then_ret <| ?_
                  refine At_r1 rfl (ResIs.t rfl) ?_
                  cases hm
                  exact ⟨rfl, (hs.re 3 [] rfl)⟩
                 ·
                  replace hm := bif_f hc53 hm
                  refine WC_seq <| WC_region ?_
                  refine Wo (Run_eqI (O rfl) Opd.c) rfl <| Wo (Run_assign (O rfl)) rfl <| ?_
                  refine WL_nil <| At_then ?_
                  refine WC_cond (O rfl) (fun hc63 => ?_) (fun hc63 => ?_)
                  ·
                   replace hm := bif_t hc63 hm
                   refine WC_seq <| WC_region ?_
                   refine Wo (Run_move (O rfl)) rfl <| ?_
                   obtain ⟨b64, e65, hm⟩ := letv_some hm
                   refine Wo (Run.eqB (Run_eqI (O rfl) Opd.c) e65) rfl <| Wo (Run_move (O rfl)) rfl <| Wg rfl guard_neg (Run_move (O rfl)) rfl <| ?_
                   obtain ⟨b66, e67, hm⟩ := letv_some hm
                   refine Wg rfl guard_neg (Run.eqB (Run_eqI (Opd.g rfl id) Opd.c) e67) rfl <| ?_
                   obtain ⟨b68, e69, hm⟩ := letv_some hm
                   refine Wo (Run.eqB (Run_or (O rfl) (Opd.g rfl id)) e69) rfl <| ?_
                   obtain ⟨r70, hr71, hm⟩ := bind_some' hm
                   refine WL_call (f := 32) (first := []) (cap := []) (xs := [(.tmp 128)]) (vs := [(.bool b68)]) (args := [(.bool b68)]) Tryd.call32 Opd.f (.cons (O rfl) .nil) rfl rfl (scrutinyref13_truth_ok (hs.re 3 [0, 1, 2] rfl) hr71) ?_
                   rintro _ w72 ⟨rfl, hs⟩
                   replace hs := Sat.n3 (Γ := Φ) hs rfl
                   refine Wo (Run_assign (O rfl)) rfl <| ?_
                   refine WL_nil <| At_then ?_
                   refine WC_ret ?_
                   refine At_blk_ret <| At_then_ret <| ?_
                   refine At_r1 rfl (ResIs.t rfl) ?_
                   cases hm
                   exact ⟨rfl, (hs.re 3 [] rfl)⟩
                  ·
                   replace hm := bif_f hc63 hm
                   refine WC_seq <| WC_region ?_
                   refine Wo (Run_eqI (O rfl) Opd.c) rfl <| Wo (Run_assign (O rfl)) rfl <| ?_
                   refine WL_nil <| At_then ?_
                   refine WC_cond (O rfl) (fun hc73 => ?_) (fun hc73 => ?_)
                   ·
                    replace hm := bif_t hc73 hm
                    refine WC_seq <| WC_region ?_
                    refine Wo (Run_move (O rfl)) rfl <| ?_
                    obtain ⟨b74, e75, hm⟩ := letv_some hm
                    refine Wo (Run.eqB (Run_eqI (O rfl) Opd.c) e75) rfl <| Wo (Run_move (O rfl)) rfl <| Wg rfl guard_neg (Run_move (O rfl)) rfl <| ?_
                    obtain ⟨b76, e77, hm⟩ := letv_some hm
                    refine Wg rfl guard_neg (Run.eqB (Run_eqI (Opd.g rfl id) Opd.c) e77) rfl <| ?_
                    obtain ⟨b78, e79, hm⟩ := letv_some hm
                    refine Wo (Run.eqB (Run_or (O rfl) (Opd.g rfl id)) e79) rfl <| ?_
                    obtain ⟨r80, hr81, hm⟩ := bind_some' hm
                    refine WL_call (f := 32) (first := []) (cap := []) (xs := [(.tmp 137)]) (vs := [(.bool b78)]) (args := [(.bool b78)]) Tryd.call32 Opd.f (.cons (O rfl) .nil) rfl rfl (scrutinyref13_truth_ok (hs.re 3 [0, 1, 2] rfl) hr81) ?_
                    rintro _ w82 ⟨rfl, hs⟩
                    replace hs := Sat.n3 (Γ := Φ) hs rfl
                    refine Wo (Run_assign (O rfl)) rfl <| ?_
                    refine WL_nil <| At_then ?_
                    refine WC_ret ?_
                    refine At_blk_ret <| At_then_ret <| ?_
                    refine At_r1 rfl (ResIs.t rfl) ?_
                    cases hm
                    exact ⟨rfl, (hs.re 3 [] rfl)⟩
                   ·
                    replace hm := bif_f hc73 hm
                    refine WC_seq <| WC_region ?_
                    refine Wo (Run_eqI (O rfl) Opd.c) rfl <| Wo (Run_assign (O rfl)) rfl <| ?_
                    refine WL_nil <| At_then ?_
                    refine WC_cond (O rfl) (fun hc83 => ?_) (fun hc83 => ?_)
                    ·
                     replace hm := bif_t hc83 hm
                     refine WC_seq <| WC_region ?_
                     refine Wo (Run_move (O rfl)) rfl <| Wo (Run_move (O rfl)) rfl <| Wo (Run_eqI (O rfl) (O rfl)) rfl <| ?_
                     obtain ⟨r84, hr85, hm⟩ := bind_some' hm
                     refine WL_call (f := 32) (first := []) (cap := []) (xs := [(.tmp 143)]) (vs := [(.bool (a6 == b8))]) (args := [(.bool (a6 == b8))]) Tryd.call32 Opd.f (.cons (O rfl) .nil) rfl rfl (scrutinyref13_truth_ok (hs.re 3 [0, 1, 2] rfl) hr85) ?_
                     rintro _ w86 ⟨rfl, hs⟩
                     replace hs := Sat.n3 (Γ := Φ) hs rfl
                     refine Wo (Run_assign (O rfl)) rfl <| ?_
                     refine WL_nil <| At_then ?_
                     refine WC_ret ?_
                     refine At_blk_ret <| At_then_ret <| ?_
                     refine At_r1 rfl (ResIs.t rfl) ?_
                     cases hm
                     exact ⟨rfl, (hs.re 3 [] rfl)⟩
                    ·
                     replace hm := bif_f hc83 hm
                     refine WC_skip ?_
                     refine At_blk_normal ?_
                     refine At_then <| WC_seq <| WC_region ?_
                     refine Wo (Run_assign Opd.c) rfl <| ?_
                     refine WL_nil <| At_then ?_
                     refine WC_ret ?_
                     refine At_r1 rfl (ResIs.t rfl) ?_
                     cases hm
                     exact ⟨rfl, (hs.re 3 [] rfl)⟩
  ·
   refine WC_seq <| WC_region ?_
   refine Wo (Run_fieldAddr fo57_3 (O rfl)) rfl <| Wo (Run_load1 (v := (sl v1)) Tryd.underlying55 rfl (O rfl) (fun _ => (hs.box (i := 1) rfl).part 3 rfl)) rfl <| Wo (Run_lenSlG Tryd.underlying55 (O rfl) (fun hg => (hs.sl (i := 2) rfl).len)) rfl <| Wo (Run_gtI (O rfl) Opd.c) rfl <| ?_
   refine WL_nil <| At_then ?_
   refine WC_cond (O rfl) (fun hc87 => ?_) (fun hc87 => ?_)
   ·
    replace hm := bif_t hc87 hm
    refine WC_region ?_
    refine Wo (Run_fieldAddr fo57_3 (O rfl)) rfl <| Wo (Run_load1 (v := (sl v1)) Tryd.underlying55 rfl (O rfl) (fun _ => (hs.box (i := 1) rfl).part 3 rfl)) rfl <| ?_
    obtain ⟨e88, he89, hm⟩ := bind_some' hm
    obtain ⟨v90, hC91, hN92, hR93⟩ := cellsM57 (g := true) (fun hg => (hs.sl (i := 2) rfl)) (fun hg => he89)
    replace hs := hs.addL [elem true (elA (sl v1) 1 4) [(.int .i64 e88.op), (.int .i64 e88.n), (.int .i64 e88.at_), (sl v90)], imm (RSl RExpr) [sl v90] e88.l] rfl ⟨fun hg => ⟨hN92 hg, hC91 hg⟩, ⟨_, rfl, hR93 rfl⟩, trivial⟩
    replace hs := Sat.n5 (Γ := Φ) hs rfl
    refine Wo (Run_idxAddr (p := (elA (sl v1) 1 4)) Tryd.underlying55 ti57 (O rfl) Opd.c (fun hg => (SRd.atA (A := RExpr) (v := (sl v1)) (hs.sl (i := 4) rfl) he89).1)) rfl <| Wo (Run_loadA (vs := [(.int .i64 e88.op), (.int .i64 e88.n), (.int .i64 e88.at_), (sl v90)]) Tryd.underlying57 rfl ti57 (O rfl) (fun hg => ((hs.elem (i := 0) rfl) hg).sub 0 rfl) rfl) rfl <| Wo (Run_move (O rfl)) rfl <| ?_
    obtain ⟨r94, hr95, hm⟩ := bind_some' hm
    refine WL_call (f := 23) (first := []) (cap := []) (xs := [(.tmp 24), (.tmp 25)]) (vs := [(.agg #[(.int .i64 e88.op), (.int .i64 e88.n), (.int .i64 e88.at_), (sl v90)]), (sl v4)]) (args := [(.agg #[(.int .i64 e88.op), (.int .i64 e88.n), (.int .i64 e88.at_), (sl v90)]), (sl v4)]) Tryd.call23 Opd.f (.cons (O rfl) (.cons (O rfl) .nil)) rfl rfl (ih_scrutinyref13_Eval (hs.re 5 [1, 2, 0, 1, 2, 3, 4] rfl) hr95) ?_
    rintro _ w96 ⟨rfl, hs⟩
    replace hs := Sat.n5 (Γ := Φ) hs rfl
    refine Wo (Run_assign (O rfl)) rfl <| ?_
    refine WL_nil ?_
    exact At_join r94 ⟨hm, (hs.re 5 [2, 3, 4] rfl)⟩ rfl
   ·
    replace hm := bif_f hc87 hm
    refine WC_skip ?_
    exact At_join 0 ⟨hm, (hs.re 3 [0, 1, 2] rfl)⟩ rfl
 ·
  refine WC_seq <| WC_region ?_
  refine Wo (Run_fieldAddr fo57_3 (O rfl)) rfl <| Wo (Run_load1 (v := (sl v1)) Tryd.underlying55 rfl (O rfl) (fun _ => (hs.box (i := 0) rfl).part 3 rfl)) rfl <| Wo (Run_lenSlG Tryd.underlying55 (O rfl) (fun hg => (hs.sl (i := 1) rfl).len)) rfl <| Wo (Run_gtI (O rfl) Opd.c) rfl <| ?_
  refine WL_nil <| At_then ?_
  refine WC_cond (O rfl) (fun hc97 => ?_) (fun hc97 => ?_)
  ·
   replace hm := bif_t hc97 hm
   refine WC_region ?_
   refine Wo (Run_fieldAddr fo57_3 (O rfl)) rfl <| Wo (Run_load1 (v := (sl v1)) Tryd.underlying55 rfl (O rfl) (fun _ => (hs.box (i := 0) rfl).part 3 rfl)) rfl <| ?_
   obtain ⟨e98, he99, hm⟩ := bind_some' hm
   obtain ⟨v100, hC101, hN102, hR103⟩ := cellsM57 (g := true) (fun hg => (hs.sl (i := 1) rfl)) (fun hg => he99)
   replace hs := hs.addL [elem true (elA (sl v1) 0 4) [(.int .i64 e98.op), (.int .i64 e98.n), (.int .i64 e98.at_), (sl v100)], imm (RSl RExpr) [sl v100] e98.l] rfl ⟨fun hg => ⟨hN102 hg, hC101 hg⟩, ⟨_, rfl, hR103 rfl⟩, trivial⟩
   replace hs := Sat.n5 (Γ := Φ) hs rfl
   refine Wo (Run_idxAddr (p := (elA (sl v1) 0 4)) Tryd.underlying55 ti57 (O rfl) Opd.c (fun hg => (SRd.atA (A := RExpr) (v := (sl v1)) (hs.sl (i := 3) rfl) he99).1)) rfl <| Wo (Run_loadA (vs := [(.int .i64 e98.op), (.int .i64 e98.n), (.int .i64 e98.at_), (sl v100)]) Tryd.underlying57 rfl ti57 (O rfl) (fun hg => ((hs.elem (i := 0) rfl) hg).sub 0 rfl) rfl) rfl <| Wo (Run_move (O rfl)) rfl <| ?_
   obtain ⟨r104, hr105, hm⟩ := bind_some' hm
   refine WL_call (f := 23) (first := []) (cap := []) (xs := [(.tmp 14), (.tmp 15)]) (vs := [(.agg #[(.int .i64 e98.op), (.int .i64 e98.n), (.int .i64 e98.at_), (sl v100)]), (sl v4)]) (args := [(.agg #[(.int .i64 e98.op), (.int .i64 e98.n), (.int .i64 e98.at_), (sl v100)]), (sl v4)]) Tryd.call23 Opd.f (.cons (O rfl) (.cons (O rfl) .nil)) rfl rfl (ih_scrutinyref13_Eval (hs.re 5 [1, 4, 0, 1, 2, 3, 4] rfl) hr105) ?_
   rintro _ w106 ⟨rfl, hs⟩
   replace hs := Sat.n5 (Γ := Φ) hs rfl
   refine Wo (Run_assign (O rfl)) rfl <| ?_
   refine WL_nil ?_
   exact At_join r104 ⟨hm, (hs.re 5 [4, 2, 3] rfl)⟩ rfl
  ·
   replace hm := bif_f hc97 hm
   refine WC_skip ?_
   exact At_join 0 ⟨hm, (hs.re 3 [2, 0, 1] rfl)⟩ rfl
set_option maxRecDepth 100000 in
set_option maxHeartbeats 4000000 in
theorem scrutinyref13_Eval_ok {Φ : Ctx} {w : World} {e : Ex} {v3 : (List Int)} {v1 : SLV} {v4 : SLV} {r : Int} (hs : Sat (imm (RSl RExpr) [sl v1] e.l :: imm (RSl (RI .i64)) [sl v4] v3 :: Φ) w) (hm : scrutinyref13_Eval e v3 = some r) :
  CallsR Tryd.prog 23 [(.agg #[(.int .i64 e.op), (.int .i64 e.n), (.int .i64 e.at_), (sl v1)]), (sl v4)] w (fun v w' => v = (.int .i64 r) ∧ Sat (Φ) w') := by
 have key : ∀ (N : Nat) {Φ : Ctx} {w : World} {e : Ex} {v3 : (List Int)} {v1 : SLV} {v4 : SLV} {r : Int}, Sat (imm (RSl RExpr) [sl v1] e.l :: imm (RSl (RI .i64)) [sl v4] v3 :: Φ) w → fixN (fun k (s : (Ex × (List Int))) => scrutinyref13_Eval_F k s.1 s.2) N (e, v3) = some r → CallsR Tryd.prog 23 [(.agg #[(.int .i64 e.op), (.int .i64 e.n), (.int .i64 e.at_), (sl v1)]), (sl v4)] w (fun v w' => v = (.int .i64 r) ∧ Sat (Φ) w') := by
  intro N
  induction N with
  | zero => intros; rename_i h; cases h
  | succ N ih => intros; rename_i hs hm; rw [fixN_succ] at hm; exact scrutinyref13_Eval_F_ok (@ih) hs hm
 unfold scrutinyref13_Eval at hm
 exact key FUEL hs hm
end Go.Proofs.YtjdabjpjafkogaaDoor
namespace Go.Proofs.YtjdabjpjafkogaaDoor
open Go.Proofs
set_option maxRecDepth 100000 in
set_option maxHeartbeats 4000000 in
theorem scrutinyref15_Place_s2_ok {Φ : Ctx} {w : World} {l : (List (List Int))} {v3 : (List Int)} {v1 : SLV} {R : List Nat} {v4 : SLV} {r : Int} (hs : Sat (osl (RSl (RI .i64)) 22 (sl v1) l R :: imm (RSl (RI .i64)) [sl v4] v3 :: Φ) w) (hm : scrutinyref15_Place_s2 l v3 = some r) :
  CallsR Tryd.prog 22 [(sl v1), (sl v4)] w (fun v w' => v = (.int .i64 r) ∧ Sat (osl (RSl (RI .i64)) 22 (sl v1) l R :: Φ) w') := by
 refine CallsX_enter Tryd.func22 rfl Tryd.ntmps22 rfl ?_
 unfold scrutinyref15_Place_s2 at hm
 refine WC_seq <| WC_region ?_
 refine Wo (Run_assign Opd.c) rfl <| ?_
 refine WL_nil <| At_then <| WC_seq <| WC_seq <| WC_region ?_
 refine Wo (Run_assign Opd.c) rfl <| ?_
 refine WL_nil <| At_then ?_
 refine WC_block ?_
 refine WC_loop (σ := Int) (γ := Unit) (F := (scrutinyref15_Place_s2_L1 l v3)) (N := FUEL) (s0 := 0) (r := r) (fun i4 (_ : Unit) w3 => Sat (osl (RSl (RI .i64)) 22 (sl v1) l R :: imm (RSl (RI .i64)) [sl v4] v3 :: Φ) w3) (fun i4 (_ : Unit) => [(0, true, (sl v1)), (1, true, (sl v4)), (5, true, (.int .i64 i4))]) hm () (hs.re 2 [0, 1] rfl) rfl ?_
 rintro again5 i4 _ w3 hm hs
 unfold scrutinyref15_Place_s2_L1 at hm
 refine WC_seq <| WC_seq <| WC_region ?_
 refine Wo (Run_move (O rfl)) rfl <| Wo (Run_move (O rfl)) rfl <| Wo (Run_lenSlG Tryd.underlying37 (O rfl) (fun _ => (hs.own (i := 0) rfl).len)) rfl <| Wo (Run_ltI (O rfl) (O rfl)) rfl <| ?_
 refine WL_nil <| At_then ?_
 refine WC_cond (O rfl) (fun hc6 => ?_) (fun hc6 => ?_)
 ·
  replace hm := bif_t hc6 hm
  refine WC_skip ?_
  refine At_then <| WC_seq ?_
  refine WC_block ?_
  refine WC_seq <| WC_region ?_
  refine Wo (Run_move (O rfl)) rfl <| Wo (Run_move (O rfl)) rfl <| ?_
  obtain ⟨e7, he8, hm⟩ := bind_some' hm
  obtain ⟨v9, hC10, hN11, hR12⟩ := cellsMO22 (g := true) (fun hg => (hs.own (i := 0) rfl)) (fun hg => he8)
  replace hs := hs.addL [imm (RSl (RI .i64)) [sl v9] e7] rfl ⟨⟨_, rfl, hR12 rfl⟩, trivial⟩
  replace hs := Sat.n3 (Γ := Φ) hs rfl
  refine Wo (Run_idxAddr (p := (elA (sl v1) i4 1)) Tryd.underlying37 ti22 (O rfl) (O rfl) (fun hg => (Own.atA (A := (RSl (RI .i64))) (v := (sl v1)) (hs.own (i := 1) rfl) he8).1)) rfl <| Wo (Run_load1 (v := (sl v9)) Tryd.underlying22 rfl (O rfl) (fun hg => (hC10 hg).sub 0 rfl)) rfl <| Wo (Run_move (O rfl)) rfl <| ?_
  obtain ⟨r13, hr14, hm⟩ := bind_some' hm
  refine WL_call (f := 16) (first := []) (cap := []) (xs := [(.tmp 16), (.tmp 17)]) (vs := [(sl v9), (sl v4)]) (args := [(sl v9), (sl v4)]) Tryd.call16 Opd.f (.cons (O rfl) (.cons (O rfl) .nil)) rfl rfl (scrutinyref02_Vec_ok (hs.re 3 [0, 2, 0, 1, 2] rfl) hr14) ?_
  rintro _ w15 ⟨rfl, hs⟩
  replace hs := Sat.n3 (Γ := Φ) hs rfl
  refine Wo (Run_assign (O rfl)) rfl <| ?_
  refine WL_nil <| At_then <| WC_seq <| WC_region ?_
  refine Wo (Run_move (O rfl)) rfl <| ?_
  refine WL_nil <| At_then ?_
  refine WC_cond (O rfl) (fun hc16 => ?_) (fun hc16 => ?_)
  ·
   replace hm := bif_t hc16 hm
   refine WC_seq <| WC_region ?_
   refine Wo (Run_move (O rfl)) rfl <| Wo (Run_assign (O rfl)) rfl <| ?_
   refine WL_nil <| At_then ?_
   refine WC_ret ?_
   refine At_blk_ret <| At_then_ret <| At_then_ret <| At_blk_ret <| At_then_ret <| ?_
   refine At_r1 rfl (ResIs.t rfl) ?_
   cases hm
   exact ⟨rfl, (hs.re 3 [1] rfl)⟩
  ·
   replace hm := bif_f hc16 hm
   refine WC_skip ?_
   refine At_blk_normal ?_
   refine At_then <| WC_region ?_
   refine Wo (Run_move (O rfl)) rfl <| Wo (Run_add (O rfl) Opd.c) rfl <| Wo (Run_assign (O rfl)) rfl <| ?_
   refine WL_nil ?_
   exact At_again (IntKind.i64.wrap (i4 + 1)) () hm (hs.re 3 [1, 2] rfl) rfl
 ·
  replace hm := bif_f hc6 hm
  refine WC_exit ?_
  refine At_then_exit <| At_then_exit <| At_blk_here <| ?_
  refine At_then <| WC_seq <| WC_region ?_
  refine Wo (Run_assign Opd.c) rfl <| ?_
  refine WL_nil <| At_then ?_
  refine WC_ret ?_
  refine At_r1 rfl (ResIs.t rfl) ?_
  cases hm
  exact ⟨rfl, (hs.re 2 [0] rfl)⟩
end Go.Proofs.YtjdabjpjafkogaaDoor
namespace Go.Proofs.YtjdabjpjafkogaaDoor
open Go.Proofs
set_option maxRecDepth 100000 in
set_option maxHeartbeats 4000000 in
theorem scrutinylaw15_StepFires_ok {Φ : Ctx} {w : World} {text : Str} {v1 : (List Int)} {v2 : SLV} {r : Bool} (hs : Sat (imm (RSl (RI .i64)) [sl v2] v1 :: gl 0 (pow10L.map (Value.int .u64)) :: Φ) w) (hm : scrutinylaw15_StepFires text v1 = some r) :
  CallsR Tryd.prog 6 [(S text), (sl v2)] w (fun v w' => v = (.bool r) ∧ Sat (Φ) w') := by
 refine CallsX_enter Tryd.func6 rfl Tryd.ntmps6 rfl ?_
 unfold scrutinylaw15_StepFires at hm
 refine WC_seq <| WC_region ?_
 refine Wo (Run_assign Opd.c) rfl <| ?_
 refine WL_nil <| At_then <| WC_seq <| WC_region ?_
 obtain ⟨r3, hr4, hm⟩ := bind_some' hm
 refine WL_call (f := 9) (first := []) (cap := []) (xs := []) (vs := []) (args := []) Tryd.call9 Opd.f .nil rfl rfl (scrutinylaw15_shown_ok (hs.re 2 [1, 0, 1] rfl) hr4) ?_
 rintro _ w5 ⟨rfl, hs⟩
 replace hs := Sat.n2 (Γ := Φ) hs rfl
 refine Wo (Run_assign (O rfl)) rfl <| ?_
 refine WL_nil <| At_then <| WC_seq <| WC_region ?_
 refine Wo (Run_move (O rfl)) rfl <| ?_
 obtain ⟨r6, hr7, hm⟩ := bind_some' hm
 refine WL_call (f := 10) (first := []) (cap := []) (xs := [(.tmp 20)]) (vs := [(S text)]) (args := [(S text)]) Tryd.call10 Opd.f (.cons (O rfl) .nil) rfl rfl (scrutinyref15_Of_ok (hs.re 2 [0, 1] rfl) hr7) ?_
 rintro _ w18 ⟨v8, R9, v10, R11, v12, R13, v14, R15, v16, R17, rfl, hs⟩
 replace hs := Sat.n7 (Γ := Φ) hs rfl
 refine Wo (Run_move (O rfl)) rfl <| Wo (Run_extract (vs := [(.agg #[(sl v8), (sl v10), (sl v12), (sl v14), (sl v16)]), (.bool r6.2)]) (O rfl) rfl) rfl <| Wo (Run_extract (vs := [(.agg #[(sl v8), (sl v10), (sl v12), (sl v14), (sl v16)]), (.bool r6.2)]) (O rfl) rfl) rfl <| ?_
 refine WS_alloc (zs := [(sl (none, 0, 0)), (sl (none, 0, 0)), (sl (none, 0, 0)), (sl (none, 0, 0)), (sl (none, 0, 0))]) hs ti28 rfl rfl ?_
 intro b19 w20 hs
 replace hs := Sat.n8 (Γ := Φ) hs rfl
 refine WS_store (us := [(sl v8), (sl v10), (sl v12), (sl v14), (sl v16)]) (vs' := [(sl v8), (sl v10), (sl v12), (sl v14), (sl v16)]) hs 0 rfl ti28 (O rfl) (O rfl) rfl rfl rfl rfl rfl ?_
 intro w21 hs
 replace hs := Sat.n8 (Γ := Φ) hs rfl
 refine Wo (Run_assign (O rfl)) rfl <| ?_
 refine WL_nil <| At_then <| WC_seq <| WC_seq <| WC_region ?_
 refine Wo (Run_move (O rfl)) rfl <| ?_
 obtain ⟨b22, e23, hm⟩ := letv_some hm
 refine Wo (Run.eqB (Run_notB (O rfl)) e23) rfl <| Wo (Run_move (O rfl)) rfl <| Wg rfl guard_neg (Run_loadA (vs := [(sl v8), (sl v10), (sl v12), (sl v14), (sl v16)]) Tryd.underlying28 rfl ti28 (O rfl) (fun _ => (hs.box (i := 0) rfl).part 0 rfl) rfl) rfl <| Wg rfl guard_neg (Run_move (O rfl)) rfl <| ?_
 replace hs := hs.freeze (i := 1) rfl
 replace hs := hs.freeze (i := 2) rfl
 replace hs := hs.freeze (i := 3) rfl
 replace hs := hs.freeze (i := 4) rfl
 replace hs := hs.freeze (i := 5) rfl
 obtain ⟨r24, hr25, -, hm⟩ := callG_some hm
 refine WL_callG rfl rfl rfl guard_neg (f := 11) (first := []) (cap := []) (xs := [(.tmp 27), (.tmp 28)]) (vs := [(.agg #[(sl v8), (sl v10), (sl v12), (sl v14), (sl v16)]), (sl v2)]) (args := [(.agg #[(sl v8), (sl v10), (sl v12), (sl v14), (sl v16)]), (sl v2)]) Tryd.call11 Opd.f (.cons (Opd.g rfl id) (.cons (Opd.g rfl id) .nil)) rfl rfl (fun hg => scrutinyref15_In_ok (hs.re 8 [1, 2, 3, 4, 5, 6, 0, 1, 2, 3, 4, 5, 6, 7] rfl) (hr25 hg)) ?_
 intro v27 w26 hv28 hz29
 replace hs := Sat.ofG (fun hg => (hv28 hg).2.re 8 [0, 1, 2, 3, 4, 5, 6, 7] rfl) hz29 hs
 refine WL_sub1 (v := (.bool r24)) (fun hg => (hv28 hg).1) ?_
 replace hs := Sat.n8 (Γ := Φ) hs rfl
 obtain ⟨b30, e31, hm⟩ := letv_some hm
 refine Wg rfl guard_neg (Run.eqB (Run_notB (Opd.g rfl id)) e31) rfl <| ?_
 obtain ⟨b32, e33, hm⟩ := letv_some hm
 refine Wo (Run.eqB (Run_or (O rfl) (Opd.g rfl id)) e33) rfl <| ?_
 refine WL_nil <| At_then ?_
 refine WC_cond (O rfl) (fun hc34 => ?_) (fun hc34 => ?_)
 ·
  replace hm := bif_t hc34 hm
  refine WC_seq <| WC_region ?_
  refine Wo (Run_move (O rfl)) rfl <| Wo (Run_assign (O rfl)) rfl <| ?_
  refine WL_nil <| At_then ?_
  refine WC_ret ?_
  refine At_then_ret <| ?_
  refine At_r1 rfl (ResIs.t rfl) ?_
  cases hm
  exact ⟨rfl, (hs.re 8 [] rfl)⟩
 ·
  replace hm := bif_f hc34 hm
  refine WC_skip ?_
  refine At_then <| WC_seq <| WC_region ?_
  refine Wo (Run_loadA (vs := [(sl v8), (sl v10), (sl v12), (sl v14), (sl v16)]) Tryd.underlying28 rfl ti28 (O rfl) (fun _ => (hs.box (i := 0) rfl).part 0 rfl) rfl) rfl <| Wo (Run_move (O rfl)) rfl <| ?_
  obtain ⟨r35, hr36, hm⟩ := bind_some' hm
  refine WL_call (f := 14) (first := []) (cap := []) (xs := [(.tmp 34), (.tmp 35)]) (vs := [(.agg #[(sl v8), (sl v10), (sl v12), (sl v14), (sl v16)]), (sl v2)]) (args := [(.agg #[(sl v8), (sl v10), (sl v12), (sl v14), (sl v16)]), (sl v2)]) Tryd.call14 Opd.f (.cons (O rfl) (.cons (O rfl) .nil)) rfl rfl (step_Next_ok (hs.re 8 [1, 2, 3, 4, 5, 6, 7, 0, 1, 2, 3, 4, 5, 6, 7] rfl) hr36) ?_
  rintro _ w39 ⟨v37, R38, rfl, hs⟩
  replace hs := Sat.n9 (Γ := Φ) hs rfl
  refine Wo (Run_move (O rfl)) rfl <| Wo (Run_extract (vs := [(sl v37), (.int .i64 r35.2)]) (O rfl) rfl) rfl <| Wo (Run_extract (vs := [(sl v37), (.int .i64 r35.2)]) (O rfl) rfl) rfl <| Wo (Run_assign (O rfl)) rfl <| Wo (Run_assign (O rfl)) rfl <| ?_
  refine WL_nil <| At_then <| WC_seq <| WC_region ?_
  refine Wo (Run_loadA (vs := [(sl v8), (sl v10), (sl v12), (sl v14), (sl v16)]) Tryd.underlying28 rfl ti28 (O rfl) (fun _ => (hs.box (i := 1) rfl).part 0 rfl) rfl) rfl <| Wo (Run_move (O rfl)) rfl <| ?_
  obtain ⟨r40, hr41, hm⟩ := bind_some' hm
  refine WL_call (f := 17) (first := []) (cap := []) (xs := [(.tmp 39), (.tmp 40)]) (vs := [(.agg #[(sl v8), (sl v10), (sl v12), (sl v14), (sl v16)]), (sl v2)]) (args := [(.agg #[(sl v8), (sl v10), (sl v12), (sl v14), (sl v16)]), (sl v2)]) Tryd.call17 Opd.f (.cons (O rfl) (.cons (O rfl) .nil)) rfl rfl (step_Enabled_ok (hs.re 9 [2, 3, 4, 5, 6, 7, 0, 1, 2, 3, 4, 5, 6, 7, 8] rfl) hr41) ?_
  rintro _ w44 ⟨v42, R43, rfl, hs⟩
  replace hs := Sat.n10 (Γ := Φ) hs rfl
  refine Wo (Run_assign (O rfl)) rfl <| ?_
  refine WL_nil <| At_then <| WC_seq <| WC_region ?_
  refine Wo (Run_assign Opd.c) rfl <| ?_
  refine WL_nil <| At_then <| WC_seq <| WC_seq <| WC_region ?_
  refine Wo (Run_assign Opd.c) rfl <| ?_
  refine WL_nil <| At_then ?_
  refine WC_block ?_
  refine WC_loop (σ := Bool × Int) (γ := Unit) (F := (scrutinylaw15_StepFires_L1 v1 r3 r6 r35 r40)) (N := FUEL) (s0 := (false, 0)) (r := r) (fun ⟨bounds46, i47⟩ (_ : Unit) w45 => Sat (imm (RSl (RI .i64)) [sl v2] v1 :: box b19 28 [(sl v8), (sl v10), (sl v12), (sl v14), (sl v16)] :: imm (RSl RS) [sl v8] r6.1.1 :: imm (RSl (RP (RI .i64) (RI .i64))) [sl v10] r6.1.2.1 :: imm (RSl (RI .i64)) [sl v12] r6.1.2.2.1 :: imm (RSl RS) [sl v14] r6.1.2.2.2.1 :: imm (RSl (RP (RI .i64) (RP RExpr (RSl (RP (RI .i64) RExpr))))) [sl v16] r6.1.2.2.2.2 :: osl (RSl (RI .i64)) 22 (sl v37) r35.1 R38 :: osl (RI .i64) 3 (sl v42) r40 R43 :: gl 0 (pow10L.map (Value.int .u64)) :: Φ) w45) (fun ⟨bounds46, i47⟩ (_ : Unit) => [(1, true, (sl v2)), (5, true, (.bool r3)), (6, true, (.pointer (some ⟨b19, 0, none⟩))), (8, true, (sl v37)), (9, true, (.int .i64 r35.2)), (10, true, (sl v42)), (11, true, (.bool bounds46)), (12, true, (.int .i64 i47))]) hm () (hs.re 10 [8, 2, 3, 4, 5, 6, 7, 1, 0, 9] rfl) rfl ?_
  rintro again48 ⟨bounds46, i47⟩ _ w45 hm hs
  unfold scrutinylaw15_StepFires_L1 at hm
  dsimp only at hm
  refine WC_seq <| WC_seq <| WC_region ?_
  refine Wo (Run_move (O rfl)) rfl <| Wo (Run_move (O rfl)) rfl <| Wo (Run_lenSlG Tryd.underlying22 (O rfl) (fun _ => (hs.own (i := 8) rfl).len)) rfl <| Wo (Run_ltI (O rfl) (O rfl)) rfl <| ?_
  refine WL_nil <| At_then ?_
  refine WC_cond (O rfl) (fun hc49 => ?_) (fun hc49 => ?_)
  ·
   replace hm := bif_t hc49 hm
   refine WC_skip ?_
   refine At_then <| WC_seq ?_
   refine WC_block ?_
   refine WC_seq <| WC_seq ?_
   refine WC_region_mixed [0, 0, 3, 4, 8, 16, 32, 32, 224, 288, 32, 1056, 2080, 4640, 8224, 16416, 32768, 98304, 163840, 262144, 262144, 1835008, 2359296, 262144, 262144, 17039360, 42205184, 67371008, 138674176, 268730368, 536903680, 1074003968, 2147483648, 6442450944, 2147483648, 2147483648, 53687091200, 70866960384, 148176371712, 277025390592, 551903297536, 2147483648, 3300682366976, 4400193994752, 8798240505856] (.q 0 0 (.q 1 1 (.q 2 3 (.q 3 7 (.q 4 15 (.q 5 31 (.q 6 63 (.q 7 127 (.q 8 255 (.q 9 511 (.q 10 1023 (.q 11 2047 (.q 12 4095 (.q 13 8191 (.q 14 16383 (.q 15 32767 (.q 16 65535 (.q 17 131071 (.q 18 262143 (.q 19 524287 (.q 20 1048575 (.q 21 2097151 (.q 22 4194303 (.q 23 8388607 (.q 24 16777215 (.q 25 33554431 (.q 26 67108863 (.q 27 134217727 (.q 28 268435455 (.q 29 536870911 (.q 30 1073741823 (.q 31 2147483647 (.q 32 4294967295 (.q 33 8589934591 (.q 34 17179869183 (.q 35 34359738367 (.q 36 68719476735 (.q 37 137438953471 (.q 38 274877906943 (.q 39 549755813887 (.q 40 1099511627775 (.q 41 2199023255551 (.l 42 4398046511103 (.q 43 8796093022207 (.q 44 17592186044415 .nil))))))))))))))))))))))))))))))))))))))))))))) (by kernel_rfl) (by kernel_rfl) ?_
   intro w50 hx51
   replace hs := hs.ext hx51
   refine WD_pure (fun _ => (Run_move (O rfl))) rfl rfl rfl rfl <| WD_pure (fun _ => (Run_move (O rfl))) rfl rfl rfl rfl <| ?_
   obtain ⟨e52, he53, hm⟩ := bind_some' hm
   refine WD_pure (fun _ => (Run_idxAddr (p := (elA (sl v42) i47 1)) Tryd.underlying22 ti3 (O rfl) (O rfl) (fun hg => (Own.atA (A := (RI .i64)) (v := (sl v42)) (hs.own (i := 8) rfl) he53).1))) rfl rfl rfl rfl <| WD_op (fun w => true = true → CellsAt w (elA (sl v42) i47 1) [(.int .i64 e52)]) (fun hg => (Own.cellsF (A := (RI .i64)) (v := (sl v42)) (hs.own (i := 8) rfl) he53 (fun _ h => openT3 h)).sub 0 rfl) (fun _ hJ => (Run_load1 (v := (.int .i64 e52)) Tryd.underlying3 rfl (O rfl) hJ)) rfl rfl rfl rfl <| ?_
   obtain ⟨b54, e55, hm⟩ := letv_some hm
   refine WD_pure (fun _ => (Run.eqB (Run_ltI (O rfl) Opd.c) e55)) rfl rfl rfl rfl <| WD_pure (fun _ => (Run_move (O rfl))) rfl rfl rfl rfl <| WD_pureG rfl rfl rfl rfl guard_neg (fun _ => (Run_move (O rfl))) rfl rfl rfl <| WD_pureG rfl rfl rfl rfl guard_neg (fun _ => (Run_move (O rfl))) rfl rfl rfl <| ?_
   obtain ⟨e56, he57, -, hm⟩ := callG_some hm
   refine WD_pureG rfl rfl rfl rfl guard_neg (fun _ => (Run_idxAddr (p := (elA (sl v42) i47 1)) Tryd.underlying22 ti3 (Opd.g rfl id) (Opd.g rfl id) (fun hg => (Own.atA (A := (RI .i64)) (v := (sl v42)) (hs.own (i := 8) rfl) (he57 hg)).1))) rfl rfl rfl <| WD_opG (fun w => (!b54) = true → CellsAt w (elA (sl v42) i47 1) [(.int .i64 e56)]) (fun hg => (Own.cellsF (A := (RI .i64)) (v := (sl v42)) (hs.own (i := 8) rfl) (he57 hg) (fun _ h => openT3 h)).sub 0 rfl) rfl rfl rfl rfl guard_neg (fun _ hJ => (Run_load1 (v := (.int .i64 e56)) Tryd.underlying3 rfl (Opd.g rfl id) hJ)) rfl rfl rfl <| WD_pureG rfl rfl rfl rfl guard_neg (fun _ => (Run_fieldAddr fo28_4 (O rfl))) rfl rfl rfl <| WD_opG (fun w => CellsAt w ⟨b19, 4, none⟩ [(sl v16)]) ((hs.box (i := 1) rfl).part 4 rfl) rfl rfl rfl rfl guard_neg (fun _ hJ => (Run_load1 (v := (sl v16)) Tryd.underlying26 rfl (Opd.g rfl id) (fun _ => hJ))) rfl rfl rfl <| WD_pureG rfl rfl rfl rfl guard_neg (fun _ => (Run_lenSlG Tryd.underlying26 (Opd.g rfl id) (fun hg => (hs.sl (i := 6) rfl).len))) rfl rfl rfl <| ?_
   obtain ⟨b58, e59, hm⟩ := letv_some hm
   refine WD_pureG rfl rfl rfl rfl guard_neg (fun _ => (Run.eqB (Run_geI (Opd.g rfl id) (Opd.g rfl id)) e59)) rfl rfl rfl <| ?_
   obtain ⟨b60, e61, hm⟩ := letv_some hm
   refine WD_pure (fun _ => (Run.eqB (Run_or (O rfl) (Opd.g rfl id)) e61)) rfl rfl rfl rfl <| WD_pure (fun _ => (Run_move (O rfl))) rfl rfl rfl rfl <| WD_pureG rfl rfl rfl rfl guard_neg (fun _ => (Run_move (O rfl))) rfl rfl rfl <| ?_
   obtain ⟨b62, e63, hm⟩ := letv_some hm
   refine WD_pureG rfl rfl rfl rfl guard_neg (fun _ => (Run.eqB (Run_gtI (Opd.g rfl id) Opd.c) e63)) rfl rfl rfl <| WD_pureG rfl rfl rfl rfl guard_neg (fun _ => (Run_move (Opd.g rfl id))) rfl rfl rfl <| WD_pureG rfl rfl rfl rfl guard_pos' (fun _ => (Run_move (O rfl))) rfl rfl rfl <| WD_pureG rfl rfl rfl rfl guard_pos' (fun _ => (Run_move (O rfl))) rfl rfl rfl <| ?_
   obtain ⟨e64, he65, -, hm⟩ := callG_some hm
   refine WD_pureG rfl rfl rfl rfl guard_pos' (fun _ => (Run_idxAddr (p := (elA (sl v42) i47 1)) Tryd.underlying22 ti3 (Opd.g rfl id) (Opd.g rfl id) (fun hg => (Own.atA (A := (RI .i64)) (v := (sl v42)) (hs.own (i := 8) rfl) (he65 hg)).1))) rfl rfl rfl <| WD_opG (fun w => ((!b60) && b62) = true → CellsAt w (elA (sl v42) i47 1) [(.int .i64 e64)]) (fun hg => (Own.cellsF (A := (RI .i64)) (v := (sl v42)) (hs.own (i := 8) rfl) (he65 hg) (fun _ h => openT3 h)).sub 0 rfl) rfl rfl rfl rfl guard_pos' (fun _ hJ => (Run_load1 (v := (.int .i64 e64)) Tryd.underlying3 rfl (Opd.g rfl id) hJ)) rfl rfl rfl <| WD_pureG rfl rfl rfl rfl guard_pos' (fun _ => (Run_move (O rfl))) rfl rfl rfl <| WD_pureG rfl rfl rfl rfl guard_pos' (fun _ => (Run_move (O rfl))) rfl rfl rfl <| WD_pureG rfl rfl rfl rfl guard_pos' (fun _ => (Run_sub (Opd.g rfl id) Opd.c)) rfl rfl rfl <| ?_
   obtain ⟨e66, he67, -, hm⟩ := callG_some hm
   refine WD_pureG rfl rfl rfl rfl guard_pos' (fun _ => (Run_idxAddr (p := (elA (sl v42) (IntKind.i64.wrap (i47 - 1)) 1)) Tryd.underlying22 ti3 (Opd.g rfl id) (Opd.g rfl id) (fun hg => (Own.atA (A := (RI .i64)) (v := (sl v42)) (hs.own (i := 8) rfl) (he67 hg)).1))) rfl rfl rfl <| WD_opG (fun w => ((!b60) && b62) = true → CellsAt w (elA (sl v42) (IntKind.i64.wrap (i47 - 1)) 1) [(.int .i64 e66)]) (fun hg => (Own.cellsF (A := (RI .i64)) (v := (sl v42)) (hs.own (i := 8) rfl) (he67 hg) (fun _ h => openT3 h)).sub 0 rfl) rfl rfl rfl rfl guard_pos' (fun _ hJ => (Run_load1 (v := (.int .i64 e66)) Tryd.underlying3 rfl (Opd.g rfl id) hJ)) rfl rfl rfl <| ?_
   obtain ⟨b68, e69, hm⟩ := letv_some hm
   refine WD_pureG rfl rfl rfl rfl guard_pos' (fun _ => (Run.eqB (Run_leI (Opd.g rfl id) (Opd.g rfl id)) e69)) rfl rfl rfl <| ?_
   obtain ⟨b70, e71, hm⟩ := letv_some hm
   refine WD_pureG rfl rfl rfl rfl guard_neg (fun _ => (Run.eqB (Run_and (Opd.g rfl id) (Opd.g rfl id)) e71)) rfl rfl rfl <| ?_
   obtain ⟨b72, e73, hm⟩ := letv_some hm
   refine WD_pure (fun _ => (Run.eqB (Run_or (O rfl) (Opd.g rfl id)) e73)) rfl rfl rfl rfl <| WD_pure (fun _ => (Run_move (O rfl))) rfl rfl rfl rfl <| WD_pureG rfl rfl rfl rfl guard_neg (fun _ => (Run_fieldAddr fo28_4 (O rfl))) rfl rfl rfl <| WD_opG (fun w => CellsAt w ⟨b19, 4, none⟩ [(sl v16)]) ((hs.box (i := 1) rfl).part 4 rfl) rfl rfl rfl rfl guard_neg (fun _ hJ => (Run_load1 (v := (sl v16)) Tryd.underlying26 rfl (Opd.g rfl id) (fun _ => hJ))) rfl rfl rfl <| WD_pureG rfl rfl rfl rfl guard_neg (fun _ => (Run_move (O rfl))) rfl rfl rfl <| WD_pureG rfl rfl rfl rfl guard_neg (fun _ => (Run_move (O rfl))) rfl rfl rfl <| ?_
   obtain ⟨e74, he75, -, hm⟩ := callG_some hm
   refine WD_pureG rfl rfl rfl rfl guard_neg (fun _ => (Run_idxAddr (p := (elA (sl v42) i47 1)) Tryd.underlying22 ti3 (Opd.g rfl id) (Opd.g rfl id) (fun hg => (Own.atA (A := (RI .i64)) (v := (sl v42)) (hs.own (i := 8) rfl) (he75 hg)).1))) rfl rfl rfl <| WD_opG (fun w => (!b72) = true → CellsAt w (elA (sl v42) i47 1) [(.int .i64 e74)]) (fun hg => (Own.cellsF (A := (RI .i64)) (v := (sl v42)) (hs.own (i := 8) rfl) (he75 hg) (fun _ h => openT3 h)).sub 0 rfl) rfl rfl rfl rfl guard_neg (fun _ hJ => (Run_load1 (v := (.int .i64 e74)) Tryd.underlying3 rfl (Opd.g rfl id) hJ)) rfl rfl rfl <| ?_
   obtain ⟨e76, he77, -, hm⟩ := callG_some hm
   obtain ⟨v78, v79, hC80, hN81, hR82, hR83⟩ := cellsM60 (g := (!b72)) (fun hg => (hs.sl (i := 6) rfl)) (fun hg => (he77 hg))
   replace hs := hs.addL [elem (!b72) (elA (sl v16) e74 6) [(.int .i64 e76.1), (.int .i64 e76.2.1.op), (.int .i64 e76.2.1.n), (.int .i64 e76.2.1.at_), (sl v78), (sl v79)], immG (!b72) (RSl RExpr) [sl v78] e76.2.1.l, immG (!b72) (RSl (RP (RI .i64) RExpr)) [sl v79] e76.2.2] rfl ⟨fun hg => ⟨hN81 hg, hC80 hg⟩, fun hg => ⟨_, rfl, hR82 hg⟩, fun hg => ⟨_, rfl, hR83 hg⟩, trivial⟩
   replace hs := Sat.n13 (Γ := Φ) hs rfl
   refine WD_pureG rfl rfl rfl rfl guard_neg (fun _ => (Run_idxAddr (p := (elA (sl v16) e74 6)) Tryd.underlying26 ti60 (Opd.g rfl id) (Opd.g rfl id) (fun hg => (SRd.atA (A := (RP (RI .i64) (RP RExpr (RSl (RP (RI .i64) RExpr))))) (v := (sl v16)) (hs.sl (i := 9) rfl) (he77 hg)).1))) rfl rfl rfl <| WD_pureG rfl rfl rfl rfl guard_neg (fun _ => (Run_fieldAddr fo60_1 (Opd.g rfl id))) rfl rfl rfl <| WD_opG (fun w => (!b72) = true → CellsAt w ((elA (sl v16) e74 6).add 1) [(.int .i64 e76.2.1.op), (.int .i64 e76.2.1.n), (.int .i64 e76.2.1.at_), (sl v78)]) (fun hg => (((hs.elem (i := 0) rfl) hg).sub (us := [(.int .i64 e76.2.1.op), (.int .i64 e76.2.1.n), (.int .i64 e76.2.1.at_), (sl v78)]) 1 rfl).sub 0 rfl) rfl rfl rfl rfl guard_neg (fun _ hJ => (Run_loadA (vs := [(.int .i64 e76.2.1.op), (.int .i64 e76.2.1.n), (.int .i64 e76.2.1.at_), (sl v78)]) Tryd.underlying57 rfl ti57 (Opd.g rfl id) hJ rfl)) rfl rfl rfl <| WD_pureG rfl rfl rfl rfl guard_neg (fun _ => (Run_move (O rfl))) rfl rfl rfl <| ?_
   refine WD_loud (pend' := [(37, fun w => (!b72) = true → CellsAt w (elA (sl v42) i47 1) [(.int .i64 e74)]), (33, fun w => CellsAt w ⟨b19, 4, none⟩ [(sl v16)]), (27, fun w => ((!b60) && b62) = true → CellsAt w (elA (sl v42) (IntKind.i64.wrap (i47 - 1)) 1) [(.int .i64 e66)]), (22, fun w => ((!b60) && b62) = true → CellsAt w (elA (sl v42) i47 1) [(.int .i64 e64)]), (11, fun w => CellsAt w ⟨b19, 4, none⟩ [(sl v16)]), (9, fun w => (!b54) = true → CellsAt w (elA (sl v42) i47 1) [(.int .i64 e56)]), (3, fun w => true = true → CellsAt w (elA (sl v42) i47 1) [(.int .i64 e52)])]) rfl (by kernel_rfl) ?_
   obtain ⟨r84, hr85, -, hm⟩ := callG_some hm
   refine WL_callG rfl rfl rfl guard_neg (f := 23) (first := []) (cap := []) (xs := [(.tmp 88), (.tmp 89)]) (vs := [(.agg #[(.int .i64 e76.2.1.op), (.int .i64 e76.2.1.n), (.int .i64 e76.2.1.at_), (sl v78)]), (sl v2)]) (args := [(.agg #[(.int .i64 e76.2.1.op), (.int .i64 e76.2.1.n), (.int .i64 e76.2.1.at_), (sl v78)]), (sl v2)]) Tryd.call23 Opd.f (.cons (Opd.g rfl id) (.cons (Opd.g rfl id) .nil)) rfl rfl (fun hg => scrutinyref13_Eval_ok ((hs.dupS (i := 1) rfl hg).re 14 [0, 4, 1, 2, 3, 4, 5, 6, 7, 8, 9, 10, 11, 12, 13] rfl) (hr85 hg)) ?_
   intro v87 w86 hv88 hz89
   replace hs := Sat.ofG (fun hg => (hv88 hg).2.re 13 [0, 1, 2, 3, 4, 5, 6, 7, 8, 9, 10, 11, 12] rfl) hz89 hs
   refine WL_sub1 (v := (.int .i64 r84)) (fun hg => (hv88 hg).1) ?_
   replace hs := Sat.n13 (Γ := Φ) hs rfl
   refine WL_nil ?_
   refine At_QK (allJ_cons (fun hg => (Own.cellsF (A := (RI .i64)) (v := (sl v42)) (hs.own (i := 11) rfl) (he75 hg) (fun _ h => openT3 h)).sub 0 rfl) (allJ_cons ((hs.box (i := 4) rfl).part 4 rfl) (allJ_cons (fun hg => (Own.cellsF (A := (RI .i64)) (v := (sl v42)) (hs.own (i := 11) rfl) (he67 hg) (fun _ h => openT3 h)).sub 0 rfl) (allJ_cons (fun hg => (Own.cellsF (A := (RI .i64)) (v := (sl v42)) (hs.own (i := 11) rfl) (he65 hg) (fun _ h => openT3 h)).sub 0 rfl) (allJ_cons ((hs.box (i := 4) rfl).part 4 rfl) (allJ_cons (fun hg => (Own.cellsF (A := (RI .i64)) (v := (sl v42)) (hs.own (i := 11) rfl) (he57 hg) (fun _ h => openT3 h)).sub 0 rfl) (allJ_cons (fun hg => (Own.cellsF (A := (RI .i64)) (v := (sl v42)) (hs.own (i := 11) rfl) he53 (fun _ h => openT3 h)).sub 0 rfl) allJ_nil))))))) ?_
   obtain ⟨b90, e91, hm⟩ := letv_some hm
   refine WD_pureG rfl rfl rfl rfl guard_neg (fun _ => (Run.eqB (Run_neI (Opd.g rfl id) Opd.c) e91)) rfl rfl rfl <| ?_
   obtain ⟨b92, e93, hm⟩ := letv_some hm
   refine WD_pure (fun _ => (Run.eqB (Run_or (O rfl) (Opd.g rfl id)) e93)) rfl rfl rfl rfl <| ?_
   refine WD_nil ?_
   refine At_then ?_
   refine WC_cond (O rfl) (fun hc94 => ?_) (fun hc94 => ?_)
   ·
    replace hm := bif_t hc94 hm
    refine WC_seq <| WC_region ?_
    refine Wo (Run_assign Opd.c) rfl <| ?_
    refine WL_nil <| At_then ?_
    refine WC_ret ?_
    refine At_then_ret <| At_blk_ret <| At_then_ret <| At_then_ret <| At_blk_ret <| At_then_ret <| ?_
    refine At_r1 rfl (ResIs.t rfl) ?_
    cases hm
    exact ⟨rfl, (hs.re 13 [] rfl)⟩
   ·
    replace hm := bif_f hc94 hm
    refine WC_skip ?_
    refine At_then <| WC_seq ?_
    refine WC_region_mixed [0, 0, 0, 0, 12, 16, 35, 64, 128, 128, 511, 2047] (.q 0 0 (.q 1 1 (.q 2 3 (.q 3 7 (.q 4 15 (.q 5 31 (.l 6 63 (.q 7 127 (.q 8 255 (.q 9 511 (.q 10 1023 (.q 11 2047 .nil)))))))))))) (by kernel_rfl) (by kernel_rfl) ?_
    intro w95 hx96
    replace hs := hs.ext hx96
    refine WD_op (fun w => CellsAt w ⟨b19, 0, none⟩ [(sl v8), (sl v10), (sl v12), (sl v14), (sl v16)]) ((hs.box (i := 4) rfl).part 0 rfl) (fun _ hJ => (Run_loadA (vs := [(sl v8), (sl v10), (sl v12), (sl v14), (sl v16)]) Tryd.underlying28 rfl ti28 (O rfl) (fun _ => hJ) rfl)) rfl rfl rfl rfl <| WD_pure (fun _ => (Run_move (O rfl))) rfl rfl rfl rfl <| WD_pure (fun _ => (Run_move (O rfl))) rfl rfl rfl rfl <| WD_pure (fun _ => (Run_move (O rfl))) rfl rfl rfl rfl <| ?_
    obtain ⟨e97, he98, hm⟩ := bind_some' hm
    refine WD_pure (fun _ => (Run_idxAddr (p := (elA (sl v42) i47 1)) Tryd.underlying22 ti3 (O rfl) (O rfl) (fun hg => (Own.atA (A := (RI .i64)) (v := (sl v42)) (hs.own (i := 11) rfl) he98).1))) rfl rfl rfl rfl <| WD_op (fun w => true = true → CellsAt w (elA (sl v42) i47 1) [(.int .i64 e97)]) (fun hg => (Own.cellsF (A := (RI .i64)) (v := (sl v42)) (hs.own (i := 11) rfl) he98 (fun _ h => openT3 h)).sub 0 rfl) (fun _ hJ => (Run_load1 (v := (.int .i64 e97)) Tryd.underlying3 rfl (O rfl) hJ)) rfl rfl rfl rfl <| ?_
    refine WD_loud (pend' := []) rfl (by kernel_rfl) ?_
    obtain ⟨r99, hr100, hm⟩ := bind_some' hm
    refine WL_call (f := 12) (first := []) (cap := []) (xs := [(.tmp 94), (.tmp 95), (.tmp 99)]) (vs := [(.agg #[(sl v8), (sl v10), (sl v12), (sl v14), (sl v16)]), (sl v2), (.int .i64 e97)]) (args := [(.agg #[(sl v8), (sl v10), (sl v12), (sl v14), (sl v16)]), (sl v2), (.int .i64 e97)]) Tryd.call12 Opd.f (.cons (O rfl) (.cons (O rfl) (.cons (O rfl) .nil))) rfl rfl (step_Fire_ok (hs.re 13 [5, 6, 7, 8, 9, 3, 0, 1, 2, 3, 4, 5, 6, 7, 8, 9, 10, 11, 12] rfl) hr100) ?_
    rintro _ w103 ⟨v101, R102, rfl, hs⟩
    replace hs := Sat.n14 (Γ := Φ) hs rfl
    refine WL_nil ?_
    refine At_QK allJ_nil ?_
    refine WD_pure (fun _ => (Run_move (O rfl))) rfl rfl rfl rfl <| WD_pure (fun _ => (Run_extract (vs := [(sl v101), (.int .i64 r99.2)]) (O rfl) rfl)) rfl rfl rfl rfl <| WD_pure (fun _ => (Run_extract (vs := [(sl v101), (.int .i64 r99.2)]) (O rfl) rfl)) rfl rfl rfl rfl <| WD_pure (fun _ => (Run_assign (O rfl))) rfl rfl rfl rfl <| WD_pure (fun _ => (Run_assign (O rfl))) rfl rfl rfl rfl <| ?_
    refine WD_nil ?_
    refine At_then <| WC_seq <| WC_seq <| WC_region ?_
    refine Wo (Run_move (O rfl)) rfl <| Wo (Run_neI (O rfl) Opd.c) rfl <| ?_
    refine WL_nil <| At_then ?_
    refine WC_cond (O rfl) (fun hc104 => ?_) (fun hc104 => ?_)
    ·
     replace hm := bif_t hc104 hm
     refine WC_seq <| WC_region ?_
     refine Wo (Run_assign Opd.c) rfl <| ?_
     refine WL_nil <| At_then ?_
     refine WC_exit ?_
     refine At_then_exit <| At_blk_here <| ?_
     refine At_then <| WC_region ?_
     refine Wo (Run_move (O rfl)) rfl <| Wo (Run_add (O rfl) Opd.c) rfl <| Wo (Run_assign (O rfl)) rfl <| ?_
     refine WL_nil ?_
     exact At_again (true, (IntKind.i64.wrap (i47 + 1))) () hm (hs.re 14 [4, 5, 6, 7, 8, 9, 10, 11, 12, 13] rfl) rfl
    ·
     replace hm := bif_f hc104 hm
     refine WC_skip ?_
     refine At_then <| WC_seq <| WC_seq <| WC_region ?_
     refine Wo (Run_move (O rfl)) rfl <| Wo (Run_lenSlG Tryd.underlying22 (O rfl) (fun _ => (hs.own (i := 0) rfl).len)) rfl <| Wo (Run_move (O rfl)) rfl <| Wo (Run_lenSlG Tryd.underlying22 (O rfl) (fun hg => (hs.sl (i := 4) rfl).len)) rfl <| ?_
     obtain ⟨b105, e106, hm⟩ := letv_some hm
     refine Wo (Run.eqB (Run_neI (O rfl) (O rfl)) e106) rfl <| Wo (Run_move (O rfl)) rfl <| Wg rfl guard_neg (Run_move (O rfl)) rfl <| ?_
     obtain ⟨b107, e108, hm⟩ := letv_some hm
     refine Wg rfl guard_neg (Run.eqB (Run_eqI (Opd.g rfl id) Opd.c) e108) rfl <| Wg rfl guard_neg (Run_move (Opd.g rfl id)) rfl <| WL_opG rfl rfl rfl rfl guard_pos' (Run_move (O rfl)) rfl rfl rfl <| WL_opG rfl rfl rfl rfl guard_pos' (Run_move (O rfl)) rfl rfl rfl <| ?_
     replace hs := hs.freeze (i := 0) rfl
     obtain ⟨r109, hr110, -, hm⟩ := callG_some hm
     refine WL_callG rfl rfl rfl guard_pos' (f := 22) (first := []) (cap := []) (xs := [(.tmp 114), (.tmp 115)]) (vs := [(sl v37), (sl v101)]) (args := [(sl v37), (sl v101)]) Tryd.call22 Opd.f (.cons (Opd.g rfl id) (.cons (Opd.g rfl id) .nil)) rfl rfl (fun hg => scrutinyref15_Place_s2_ok (hs.re 14 [11, 0, 0, 1, 2, 3, 4, 5, 6, 7, 8, 9, 10, 12, 13] rfl) (hr110 hg)) ?_
     intro v112 w111 hv113 hz114
     replace hs := Sat.ofG (fun hg => (hv113 hg).2.re 14 [1, 2, 3, 4, 5, 6, 7, 8, 9, 10, 11, 0, 12, 13] rfl) hz114 hs
     refine WL_sub1 (v := (.int .i64 r109)) (fun hg => (hv113 hg).1) ?_
     replace hs := Sat.n14 (Γ := Φ) hs rfl
     obtain ⟨b115, e116, hm⟩ := letv_some hm
     refine WL_opG rfl rfl rfl rfl guard_pos' (Run.eqB (Run_ltI (Opd.g rfl id) Opd.c) e116) rfl rfl rfl <| ?_
     obtain ⟨b117, e118, hm⟩ := letv_some hm
     refine Wg rfl guard_neg (Run.eqB (Run_and (Opd.g rfl id) (Opd.g rfl id)) e118) rfl <| ?_
     obtain ⟨b119, e120, hm⟩ := letv_some hm
     refine Wo (Run.eqB (Run_or (O rfl) (Opd.g rfl id)) e120) rfl <| ?_
     refine WL_nil <| At_then ?_
     refine WC_cond (O rfl) (fun hc121 => ?_) (fun hc121 => ?_)
     ·
      replace hm := bif_t hc121 hm
      refine WC_seq <| WC_region ?_
      refine Wo (Run_assign Opd.c) rfl <| ?_
      refine WL_nil <| At_then ?_
      refine WC_ret ?_
      refine At_then_ret <| At_blk_ret <| At_then_ret <| At_then_ret <| At_blk_ret <| At_then_ret <| ?_
      refine At_r1 rfl (ResIs.t rfl) ?_
      cases hm
      exact ⟨rfl, (hs.re 14 [] rfl)⟩
     ·
      replace hm := bif_f hc121 hm
      refine WC_skip ?_
      refine At_then <| WC_seq <| WC_region ?_
      refine Wo (Run_assign Opd.c) rfl <| ?_
      refine WL_nil <| At_then ?_
      refine WC_block ?_
      refine WC_loop (σ := Int) (γ := Unit) (F := (scrutinylaw15_StepFires_L2 v1 r6 r40 bounds46 i47 again48 r99)) (N := FUEL) (s0 := 0) (r := r) (fun k123 (_ : Unit) w122 => Sat (imm (RSl (RI .i64)) [sl v2] v1 :: box b19 28 [(sl v8), (sl v10), (sl v12), (sl v14), (sl v16)] :: imm (RSl RS) [sl v8] r6.1.1 :: imm (RSl (RP (RI .i64) (RI .i64))) [sl v10] r6.1.2.1 :: imm (RSl (RI .i64)) [sl v12] r6.1.2.2.1 :: imm (RSl RS) [sl v14] r6.1.2.2.2.1 :: imm (RSl (RP (RI .i64) (RP RExpr (RSl (RP (RI .i64) RExpr))))) [sl v16] r6.1.2.2.2.2 :: osl (RSl (RI .i64)) 22 (sl v37) r35.1 R38 :: osl (RI .i64) 3 (sl v42) r40 R43 :: imm (RSl (RI .i64)) [sl v101] r99.1 :: gl 0 (pow10L.map (Value.int .u64)) :: Φ) w122) (fun k123 (_ : Unit) => [(1, true, (sl v2)), (5, true, (.bool r3)), (6, true, (.pointer (some ⟨b19, 0, none⟩))), (8, true, (sl v37)), (9, true, (.int .i64 r35.2)), (10, true, (sl v42)), (11, true, (.bool bounds46)), (12, true, (.int .i64 i47)), (13, true, (sl v101)), (15, true, (.int .i64 k123))]) hm () (hs.re 14 [4, 5, 6, 7, 8, 9, 10, 11, 12, 0, 13] rfl) rfl ?_
      rintro again124 k123 _ w122 hm hs
      unfold scrutinylaw15_StepFires_L2 at hm
      refine WC_seq <| WC_seq <| WC_region ?_
      refine Wo (Run_move (O rfl)) rfl <| Wo (Run_move (O rfl)) rfl <| Wo (Run_lenSlG Tryd.underlying22 (O rfl) (fun hg => (hs.sl (i := 0) rfl).len)) rfl <| Wo (Run_ltI (O rfl) (O rfl)) rfl <| ?_
      refine WL_nil <| At_then ?_
      refine WC_cond (O rfl) (fun hc125 => ?_) (fun hc125 => ?_)
      ·
       replace hm := bif_t hc125 hm
       refine WC_skip ?_
       refine At_then <| WC_seq ?_
       refine WC_block ?_
       refine WC_seq <| WC_region ?_
       refine Wo (Run_move (O rfl)) rfl <| Wo (Run_move (O rfl)) rfl <| ?_
       obtain ⟨e126, he127, hm⟩ := bind_some' hm
       refine Wo (Run_idxAddr (p := (elA (sl v2) k123 1)) Tryd.underlying22 ti3 (O rfl) (O rfl) (fun hg => (SRd.atA (A := (RI .i64)) (v := (sl v2)) (hs.sl (i := 0) rfl) he127).1)) rfl <| Wo (Run_load1 (v := (.int .i64 e126)) Tryd.underlying3 rfl (O rfl) (fun hg => (SRd.cellsF (A := (RI .i64)) (v := (sl v2)) (hs.sl (i := 0) rfl) he127 (fun _ h => openT3 h)).sub 0 rfl)) rfl <| Wo (Run_assign (O rfl)) rfl <| ?_
       refine WL_nil <| At_then <| WC_seq <| WC_seq <| WC_region ?_
       refine Wo (Run_assign Opd.c) rfl <| ?_
       refine WL_nil <| At_then ?_
       refine WC_block ?_
       refine WC_loop (σ := Int × Int) (γ := Unit) (F := (scrutinylaw15_StepFires_L3 v1 r6 r40 i47 r99 k123 again124)) (N := FUEL) (s0 := (e126, 0)) (r := r) (fun ⟨want129, j130⟩ (_ : Unit) w128 => Sat (imm (RSl (RI .i64)) [sl v2] v1 :: box b19 28 [(sl v8), (sl v10), (sl v12), (sl v14), (sl v16)] :: imm (RSl RS) [sl v8] r6.1.1 :: imm (RSl (RP (RI .i64) (RI .i64))) [sl v10] r6.1.2.1 :: imm (RSl (RI .i64)) [sl v12] r6.1.2.2.1 :: imm (RSl RS) [sl v14] r6.1.2.2.2.1 :: imm (RSl (RP (RI .i64) (RP RExpr (RSl (RP (RI .i64) RExpr))))) [sl v16] r6.1.2.2.2.2 :: osl (RSl (RI .i64)) 22 (sl v37) r35.1 R38 :: osl (RI .i64) 3 (sl v42) r40 R43 :: imm (RSl (RI .i64)) [sl v101] r99.1 :: gl 0 (pow10L.map (Value.int .u64)) :: Φ) w128) (fun ⟨want129, j130⟩ (_ : Unit) => [(1, true, (sl v2)), (5, true, (.bool r3)), (6, true, (.pointer (some ⟨b19, 0, none⟩))), (8, true, (sl v37)), (9, true, (.int .i64 r35.2)), (10, true, (sl v42)), (11, true, (.bool bounds46)), (12, true, (.int .i64 i47)), (13, true, (sl v101)), (15, true, (.int .i64 k123)), (16, true, (.int .i64 want129)), (17, true, (.int .i64 j130))]) hm () (hs.re 11 [0, 1, 2, 3, 4, 5, 6, 7, 8, 9, 10] rfl) rfl ?_
       rintro again131 ⟨want129, j130⟩ _ w128 hm hs
       unfold scrutinylaw15_StepFires_L3 at hm
       dsimp only at hm
       refine WC_seq <| WC_seq ?_
       refine WC_region_mixed [0, 0, 2, 0, 0, 24, 32, 68, 128, 256, 512, 1025] (.q 0 0 (.q 1 1 (.q 2 3 (.q 3 7 (.q 4 15 (.q 5 31 (.q 6 63 (.q 7 127 (.q 8 255 (.q 9 511 (.q 10 1023 (.q 11 2047 .nil)))))))))))) (by kernel_rfl) (by kernel_rfl) ?_
       intro w132 hx133
       replace hs := hs.ext hx133
       refine WD_pure (fun _ => (Run_move (O rfl))) rfl rfl rfl rfl <| WD_pure (fun _ => (Run_fieldAddr fo28_4 (O rfl))) rfl rfl rfl rfl <| WD_op (fun w => CellsAt w ⟨b19, 4, none⟩ [(sl v16)]) ((hs.box (i := 1) rfl).part 4 rfl) (fun _ hJ => (Run_load1 (v := (sl v16)) Tryd.underlying26 rfl (O rfl) (fun _ => hJ))) rfl rfl rfl rfl <| WD_pure (fun _ => (Run_move (O rfl))) rfl rfl rfl rfl <| WD_pure (fun _ => (Run_move (O rfl))) rfl rfl rfl rfl <| ?_
       obtain ⟨e134, he135, hm⟩ := bind_some' hm
       refine WD_pure (fun _ => (Run_idxAddr (p := (elA (sl v42) i47 1)) Tryd.underlying22 ti3 (O rfl) (O rfl) (fun hg => (Own.atA (A := (RI .i64)) (v := (sl v42)) (hs.own (i := 8) rfl) he135).1))) rfl rfl rfl rfl <| WD_op (fun w => true = true → CellsAt w (elA (sl v42) i47 1) [(.int .i64 e134)]) (fun hg => (Own.cellsF (A := (RI .i64)) (v := (sl v42)) (hs.own (i := 8) rfl) he135 (fun _ h => openT3 h)).sub 0 rfl) (fun _ hJ => (Run_load1 (v := (.int .i64 e134)) Tryd.underlying3 rfl (O rfl) hJ)) rfl rfl rfl rfl <| ?_
       obtain ⟨e136, he137, hm⟩ := bind_some' hm
       obtain ⟨v138, v139, hC140, hN141, hR142, hR143⟩ := cellsM60 (g := true) (fun hg => (hs.sl (i := 6) rfl)) (fun hg => he137)
       replace hs := hs.addL [elem true (elA (sl v16) e134 6) [(.int .i64 e136.1), (.int .i64 e136.2.1.op), (.int .i64 e136.2.1.n), (.int .i64 e136.2.1.at_), (sl v138), (sl v139)], imm (RSl RExpr) [sl v138] e136.2.1.l, imm (RSl (RP (RI .i64) RExpr)) [sl v139] e136.2.2] rfl ⟨fun hg => ⟨hN141 hg, hC140 hg⟩, ⟨_, rfl, hR142 rfl⟩, ⟨_, rfl, hR143 rfl⟩, trivial⟩
       replace hs := Sat.n14 (Γ := Φ) hs rfl
       refine WD_pure (fun _ => (Run_idxAddr (p := (elA (sl v16) e134 6)) Tryd.underlying26 ti60 (O rfl) (O rfl) (fun hg => (SRd.atA (A := (RP (RI .i64) (RP RExpr (RSl (RP (RI .i64) RExpr))))) (v := (sl v16)) (hs.sl (i := 9) rfl) he137).1))) rfl rfl rfl rfl <| WD_pure (fun _ => (Run_fieldAddr fo60_2 (O rfl))) rfl rfl rfl rfl <| WD_op (fun w => true = true → CellsAt w ((elA (sl v16) e134 6).add 5) [(sl v139)]) (fun hg => (((hs.elem (i := 0) rfl) hg).sub (us := [(sl v139)]) 5 rfl).sub 0 rfl) (fun _ hJ => (Run_load1 (v := (sl v139)) Tryd.underlying58 rfl (O rfl) hJ)) rfl rfl rfl rfl <| WD_pure (fun _ => (Run_lenSlG Tryd.underlying58 (O rfl) (fun hg => (hs.sl (i := 2) rfl).len))) rfl rfl rfl rfl <| WD_pure (fun _ => (Run_ltI (O rfl) (O rfl))) rfl rfl rfl rfl <| ?_
       refine WD_nil ?_
       refine At_then ?_
       refine WC_cond (O rfl) (fun hc144 => ?_) (fun hc144 => ?_)
       ·
        replace hm := bif_t hc144 hm
        refine WC_skip ?_
        refine At_then <| WC_seq ?_
        refine WC_block ?_
        refine WC_seq ?_
        refine WC_region_mixed [0, 1, 0, 0, 12, 16, 34, 64, 128, 0, 768, 1024, 2048, 0, 12288] (.q 0 0 (.q 1 1 (.q 2 3 (.q 3 7 (.q 4 15 (.q 5 31 (.q 6 63 (.q 7 127 (.q 8 255 (.q 9 511 (.q 10 1023 (.q 11 2047 (.q 12 4095 (.q 13 8191 (.q 14 16383 .nil))))))))))))))) (by kernel_rfl) (by kernel_rfl) ?_
        intro w145 hx146
        replace hs := hs.ext hx146
        refine WD_pure (fun _ => (Run_fieldAddr fo28_4 (O rfl))) rfl rfl rfl rfl <| WD_op (fun w => CellsAt w ⟨b19, 4, none⟩ [(sl v16)]) ((hs.box (i := 4) rfl).part 4 rfl) (fun _ hJ => (Run_load1 (v := (sl v16)) Tryd.underlying26 rfl (O rfl) (fun _ => hJ))) rfl rfl rfl rfl <| WD_pure (fun _ => (Run_move (O rfl))) rfl rfl rfl rfl <| WD_pure (fun _ => (Run_move (O rfl))) rfl rfl rfl rfl <| ?_
        obtain ⟨e147, he148, hm⟩ := bind_some' hm
        refine WD_pure (fun _ => (Run_idxAddr (p := (elA (sl v42) i47 1)) Tryd.underlying22 ti3 (O rfl) (O rfl) (fun hg => (Own.atA (A := (RI .i64)) (v := (sl v42)) (hs.own (i := 11) rfl) he148).1))) rfl rfl rfl rfl <| WD_op (fun w => true = true → CellsAt w (elA (sl v42) i47 1) [(.int .i64 e147)]) (fun hg => (Own.cellsF (A := (RI .i64)) (v := (sl v42)) (hs.own (i := 11) rfl) he148 (fun _ h => openT3 h)).sub 0 rfl) (fun _ hJ => (Run_load1 (v := (.int .i64 e147)) Tryd.underlying3 rfl (O rfl) hJ)) rfl rfl rfl rfl <| ?_
        obtain ⟨e149, he150, hm⟩ := bind_some' hm
        obtain ⟨v151, v152, hC153, hN154, hR155, hR156⟩ := cellsM60 (g := true) (fun hg => (hs.sl (i := 9) rfl)) (fun hg => he150)
        replace hs := hs.addL [elem true (elA (sl v16) e147 6) [(.int .i64 e149.1), (.int .i64 e149.2.1.op), (.int .i64 e149.2.1.n), (.int .i64 e149.2.1.at_), (sl v151), (sl v152)], imm (RSl RExpr) [sl v151] e149.2.1.l, imm (RSl (RP (RI .i64) RExpr)) [sl v152] e149.2.2] rfl ⟨fun hg => ⟨hN154 hg, hC153 hg⟩, ⟨_, rfl, hR155 rfl⟩, ⟨_, rfl, hR156 rfl⟩, trivial⟩
        replace hs := Sat.n17 (Γ := Φ) hs rfl
        refine WD_pure (fun _ => (Run_idxAddr (p := (elA (sl v16) e147 6)) Tryd.underlying26 ti60 (O rfl) (O rfl) (fun hg => (SRd.atA (A := (RP (RI .i64) (RP RExpr (RSl (RP (RI .i64) RExpr))))) (v := (sl v16)) (hs.sl (i := 12) rfl) he150).1))) rfl rfl rfl rfl <| WD_pure (fun _ => (Run_fieldAddr fo60_2 (O rfl))) rfl rfl rfl rfl <| WD_op (fun w => true = true → CellsAt w ((elA (sl v16) e147 6).add 5) [(sl v152)]) (fun hg => (((hs.elem (i := 0) rfl) hg).sub (us := [(sl v152)]) 5 rfl).sub 0 rfl) (fun _ hJ => (Run_load1 (v := (sl v152)) Tryd.underlying58 rfl (O rfl) hJ)) rfl rfl rfl rfl <| WD_pure (fun _ => (Run_move (O rfl))) rfl rfl rfl rfl <| ?_
        obtain ⟨e157, he158, hm⟩ := bind_some' hm
        obtain ⟨v159, hC160, hN161, hR162⟩ := cellsM62 (g := true) (fun hg => (hs.sl (i := 2) rfl)) (fun hg => he158)
        replace hs := hs.addL [elem true (elA (sl v152) j130 5) [(.int .i64 e157.1), (.int .i64 e157.2.op), (.int .i64 e157.2.n), (.int .i64 e157.2.at_), (sl v159)], imm (RSl RExpr) [sl v159] e157.2.l] rfl ⟨fun hg => ⟨hN161 hg, hC160 hg⟩, ⟨_, rfl, hR162 rfl⟩, trivial⟩
        replace hs := Sat.n19 (Γ := Φ) hs rfl
        refine WD_pure (fun _ => (Run_idxAddr (p := (elA (sl v152) j130 5)) Tryd.underlying58 ti62 (O rfl) (O rfl) (fun hg => (SRd.atA (A := (RP (RI .i64) RExpr)) (v := (sl v152)) (hs.sl (i := 4) rfl) he158).1))) rfl rfl rfl rfl <| WD_pure (fun _ => (Run_fieldAddr fo62_0 (O rfl))) rfl rfl rfl rfl <| WD_op (fun w => true = true → CellsAt w ((elA (sl v152) j130 5).add 0) [(.int .i64 e157.1)]) (fun hg => (((hs.elem (i := 0) rfl) hg).sub (us := [(.int .i64 e157.1)]) 0 rfl).sub 0 rfl) (fun _ hJ => (Run_load1 (v := (.int .i64 e157.1)) Tryd.underlying3 rfl (O rfl) hJ)) rfl rfl rfl rfl <| WD_pure (fun _ => (Run_move (O rfl))) rfl rfl rfl rfl <| WD_pure (fun _ => (Run_eqI (O rfl) (O rfl))) rfl rfl rfl rfl <| ?_
        refine WD_nil ?_
        refine At_then ?_
        refine WC_cond (O rfl) (fun hc163 => ?_) (fun hc163 => ?_)
        ·
         replace hm := bif_t hc163 hm
         refine WC_region_mixed [0, 1, 0, 0, 12, 16, 34, 64, 128, 0, 768, 1024, 2048, 0, 12288, 32767] (.q 0 0 (.q 1 1 (.q 2 3 (.q 3 7 (.q 4 15 (.q 5 31 (.q 6 63 (.q 7 127 (.q 8 255 (.q 9 511 (.q 10 1023 (.q 11 2047 (.q 12 4095 (.q 13 8191 (.l 14 16383 (.q 15 32767 .nil)))))))))))))))) (by kernel_rfl) (by kernel_rfl) ?_
         intro w164 hx165
         replace hs := hs.ext hx165
         refine WD_pure (fun _ => (Run_fieldAddr fo28_4 (O rfl))) rfl rfl rfl rfl <| WD_op (fun w => CellsAt w ⟨b19, 4, none⟩ [(sl v16)]) ((hs.box (i := 9) rfl).part 4 rfl) (fun _ hJ => (Run_load1 (v := (sl v16)) Tryd.underlying26 rfl (O rfl) (fun _ => hJ))) rfl rfl rfl rfl <| WD_pure (fun _ => (Run_move (O rfl))) rfl rfl rfl rfl <| WD_pure (fun _ => (Run_move (O rfl))) rfl rfl rfl rfl <| ?_
         obtain ⟨e166, he167, hm⟩ := bind_some' hm
         refine WD_pure (fun _ => (Run_idxAddr (p := (elA (sl v42) i47 1)) Tryd.underlying22 ti3 (O rfl) (O rfl) (fun hg => (Own.atA (A := (RI .i64)) (v := (sl v42)) (hs.own (i := 16) rfl) he167).1))) rfl rfl rfl rfl <| WD_op (fun w => true = true → CellsAt w (elA (sl v42) i47 1) [(.int .i64 e166)]) (fun hg => (Own.cellsF (A := (RI .i64)) (v := (sl v42)) (hs.own (i := 16) rfl) he167 (fun _ h => openT3 h)).sub 0 rfl) (fun _ hJ => (Run_load1 (v := (.int .i64 e166)) Tryd.underlying3 rfl (O rfl) hJ)) rfl rfl rfl rfl <| ?_
         obtain ⟨e168, he169, hm⟩ := bind_some' hm
         obtain ⟨v170, v171, hC172, hN173, hR174, hR175⟩ := cellsM60 (g := true) (fun hg => (hs.sl (i := 14) rfl)) (fun hg => he169)
         replace hs := hs.addL [elem true (elA (sl v16) e166 6) [(.int .i64 e168.1), (.int .i64 e168.2.1.op), (.int .i64 e168.2.1.n), (.int .i64 e168.2.1.at_), (sl v170), (sl v171)], imm (RSl RExpr) [sl v170] e168.2.1.l, imm (RSl (RP (RI .i64) RExpr)) [sl v171] e168.2.2] rfl ⟨fun hg => ⟨hN173 hg, hC172 hg⟩, ⟨_, rfl, hR174 rfl⟩, ⟨_, rfl, hR175 rfl⟩, trivial⟩
         replace hs := Sat.n22 (Γ := Φ) hs rfl
         refine WD_pure (fun _ => (Run_idxAddr (p := (elA (sl v16) e166 6)) Tryd.underlying26 ti60 (O rfl) (O rfl) (fun hg => (SRd.atA (A := (RP (RI .i64) (RP RExpr (RSl (RP (RI .i64) RExpr))))) (v := (sl v16)) (hs.sl (i := 17) rfl) he169).1))) rfl rfl rfl rfl <| WD_pure (fun _ => (Run_fieldAddr fo60_2 (O rfl))) rfl rfl rfl rfl <| WD_op (fun w => true = true → CellsAt w ((elA (sl v16) e166 6).add 5) [(sl v171)]) (fun hg => (((hs.elem (i := 0) rfl) hg).sub (us := [(sl v171)]) 5 rfl).sub 0 rfl) (fun _ hJ => (Run_load1 (v := (sl v171)) Tryd.underlying58 rfl (O rfl) hJ)) rfl rfl rfl rfl <| WD_pure (fun _ => (Run_move (O rfl))) rfl rfl rfl rfl <| ?_
         obtain ⟨e176, he177, hm⟩ := bind_some' hm
         obtain ⟨v178, hC179, hN180, hR181⟩ := cellsM62 (g := true) (fun hg => (hs.sl (i := 2) rfl)) (fun hg => he177)
         replace hs := hs.addL [elem true (elA (sl v171) j130 5) [(.int .i64 e176.1), (.int .i64 e176.2.op), (.int .i64 e176.2.n), (.int .i64 e176.2.at_), (sl v178)], imm (RSl RExpr) [sl v178] e176.2.l] rfl ⟨fun hg => ⟨hN180 hg, hC179 hg⟩, ⟨_, rfl, hR181 rfl⟩, trivial⟩
         replace hs := Sat.n24 (Γ := Φ) hs rfl
         refine WD_pure (fun _ => (Run_idxAddr (p := (elA (sl v171) j130 5)) Tryd.underlying58 ti62 (O rfl) (O rfl) (fun hg => (SRd.atA (A := (RP (RI .i64) RExpr)) (v := (sl v171)) (hs.sl (i := 4) rfl) he177).1))) rfl rfl rfl rfl <| WD_pure (fun _ => (Run_fieldAddr fo62_1 (O rfl))) rfl rfl rfl rfl <| WD_op (fun w => true = true → CellsAt w ((elA (sl v171) j130 5).add 1) [(.int .i64 e176.2.op), (.int .i64 e176.2.n), (.int .i64 e176.2.at_), (sl v178)]) (fun hg => (((hs.elem (i := 0) rfl) hg).sub (us := [(.int .i64 e176.2.op), (.int .i64 e176.2.n), (.int .i64 e176.2.at_), (sl v178)]) 1 rfl).sub 0 rfl) (fun _ hJ => (Run_loadA (vs := [(.int .i64 e176.2.op), (.int .i64 e176.2.n), (.int .i64 e176.2.at_), (sl v178)]) Tryd.underlying57 rfl ti57 (O rfl) hJ rfl)) rfl rfl rfl rfl <| WD_pure (fun _ => (Run_move (O rfl))) rfl rfl rfl rfl <| ?_
         refine WD_loud (pend' := [(8, fun w => true = true → CellsAt w ((elA (sl v16) e166 6).add 5) [(sl v171)]), (5, fun w => true = true → CellsAt w (elA (sl v42) i47 1) [(.int .i64 e166)]), (1, fun w => CellsAt w ⟨b19, 4, none⟩ [(sl v16)])]) rfl (by kernel_rfl) ?_
         obtain ⟨r182, hr183, hm⟩ := bind_some' hm
         refine WL_call (f := 23) (first := []) (cap := []) (xs := [(.tmp 171), (.tmp 172)]) (vs := [(.agg #[(.int .i64 e176.2.op), (.int .i64 e176.2.n), (.int .i64 e176.2.at_), (sl v178)]), (sl v2)]) (args := [(.agg #[(.int .i64 e176.2.op), (.int .i64 e176.2.n), (.int .i64 e176.2.at_), (sl v178)]), (sl v2)]) Tryd.call23 Opd.f (.cons (O rfl) (.cons (O rfl) .nil)) rfl rfl (scrutinyref13_Eval_ok (hs.re 24 [1, 13, 0, 1, 2, 3, 4, 5, 6, 7, 8, 9, 10, 11, 12, 13, 14, 15, 16, 17, 18, 19, 20, 21, 22, 23] rfl) hr183) ?_
         rintro _ w184 ⟨rfl, hs⟩
         replace hs := Sat.n24 (Γ := Φ) hs rfl
         refine WL_nil ?_
         refine At_QK (allJ_cons (fun hg => (((hs.elem (i := 2) rfl) hg).sub (us := [(sl v171)]) 5 rfl).sub 0 rfl) (allJ_cons (fun hg => (Own.cellsF (A := (RI .i64)) (v := (sl v42)) (hs.own (i := 21) rfl) he167 (fun _ h => openT3 h)).sub 0 rfl) (allJ_cons ((hs.box (i := 14) rfl).part 4 rfl) allJ_nil))) ?_
         refine WD_pure (fun _ => (Run_assign (O rfl))) rfl rfl rfl rfl <| ?_
         refine WD_nil ?_
         refine At_blk_normal ?_
         refine At_then <| WC_region ?_
         refine Wo (Run_move (O rfl)) rfl <| Wo (Run_add (O rfl) Opd.c) rfl <| Wo (Run_assign (O rfl)) rfl <| ?_
         refine WL_nil ?_
         exact At_again (r182, (IntKind.i64.wrap (j130 + 1))) () hm (hs.re 24 [13, 14, 15, 16, 17, 18, 19, 20, 21, 22, 23] rfl) rfl
        ·
         replace hm := bif_f hc163 hm
         refine WC_skip ?_
         refine At_blk_normal ?_
         refine At_then <| WC_region ?_
         refine Wo (Run_move (O rfl)) rfl <| Wo (Run_add (O rfl) Opd.c) rfl <| Wo (Run_assign (O rfl)) rfl <| ?_
         refine WL_nil ?_
         exact At_again (want129, (IntKind.i64.wrap (j130 + 1))) () hm (hs.re 19 [8, 9, 10, 11, 12, 13, 14, 15, 16, 17, 18] rfl) rfl
       ·
        replace hm := bif_f hc144 hm
        refine WC_exit ?_
        refine At_then_exit <| At_then_exit <| At_blk_here <| ?_
        refine At_then <| WC_seq <| WC_region ?_
        refine Wo (Run_move (O rfl)) rfl <| Wo (Run_move (O rfl)) rfl <| ?_
        obtain ⟨e185, he186, hm⟩ := bind_some' hm
        refine Wo (Run_idxAddr (p := (elA (sl v101) k123 1)) Tryd.underlying22 ti3 (O rfl) (O rfl) (fun hg => (SRd.atA (A := (RI .i64)) (v := (sl v101)) (hs.sl (i := 12) rfl) he186).1)) rfl <| Wo (Run_load1 (v := (.int .i64 e185)) Tryd.underlying3 rfl (O rfl) (fun hg => (SRd.cellsF (A := (RI .i64)) (v := (sl v101)) (hs.sl (i := 12) rfl) he186 (fun _ h => openT3 h)).sub 0 rfl)) rfl <| Wo (Run_move (O rfl)) rfl <| Wo (Run_neI (O rfl) (O rfl)) rfl <| ?_
        refine WL_nil <| At_then ?_
        refine WC_cond (O rfl) (fun hc187 => ?_) (fun hc187 => ?_)
        ·
         replace hm := bif_t hc187 hm
         refine WC_seq <| WC_region ?_
         refine Wo (Run_assign Opd.c) rfl <| ?_
         refine WL_nil <| At_then ?_
         refine WC_ret ?_
         refine At_blk_ret <| At_then_ret <| At_then_ret <| At_blk_ret <| At_blk_ret <| At_then_ret <| At_then_ret <| At_blk_ret <| At_then_ret <| ?_
         refine At_r1 rfl (ResIs.t rfl) ?_
         cases hm
         exact ⟨rfl, (hs.re 14 [] rfl)⟩
        ·
         replace hm := bif_f hc187 hm
         refine WC_skip ?_
         refine At_blk_normal ?_
         refine At_then <| WC_region ?_
         refine Wo (Run_move (O rfl)) rfl <| Wo (Run_add (O rfl) Opd.c) rfl <| Wo (Run_assign (O rfl)) rfl <| ?_
         refine WL_nil ?_
         exact At_again (IntKind.i64.wrap (k123 + 1)) () hm (hs.re 14 [3, 4, 5, 6, 7, 8, 9, 10, 11, 12, 13] rfl) rfl
      ·
       replace hm := bif_f hc125 hm
       refine WC_exit ?_
       refine At_then_exit <| At_then_exit <| At_blk_here <| ?_
       refine At_blk_normal ?_
       refine At_then <| WC_region ?_
       refine Wo (Run_move (O rfl)) rfl <| Wo (Run_add (O rfl) Opd.c) rfl <| Wo (Run_assign (O rfl)) rfl <| ?_
       refine WL_nil ?_
       exact At_again (bounds46, (IntKind.i64.wrap (i47 + 1))) () hm (hs.re 11 [0, 1, 2, 3, 4, 5, 6, 7, 8, 10] rfl) rfl
  ·
   replace hm := bif_f hc49 hm
   refine WC_exit ?_
   refine At_then_exit <| At_then_exit <| At_blk_here <| ?_
   refine At_then <| WC_seq <| WC_seq <| WC_region ?_
   refine Wo (Run_move (O rfl)) rfl <| ?_
   refine WL_nil <| At_then ?_
   refine WC_cond (O rfl) (fun hc188 => ?_) (fun hc188 => ?_)
   ·
    replace hm := bif_t hc188 hm
    refine WC_seq <| WC_region ?_
    refine Wo (Run_move (O rfl)) rfl <| Wo (Run_move (O rfl)) rfl <| WL_opG rfl rfl rfl rfl guard_pos (Run_move (O rfl)) rfl rfl rfl <| ?_
    obtain ⟨b189, e190, hm⟩ := letv_some hm
    refine WL_opG rfl rfl rfl rfl guard_pos (Run.eqB (Run_eqI (Opd.g rfl id) Opd.c) e190) rfl rfl rfl <| ?_
    obtain ⟨b191, e192, hm⟩ := letv_some hm
    refine Wo (Run.eqB (Run_and (O rfl) (Opd.g rfl id)) e192) rfl <| Wo (Run_move (O rfl)) rfl <| WL_opG rfl rfl rfl rfl guard_pos (Run_move (O rfl)) rfl rfl rfl <| WL_opG rfl rfl rfl rfl guard_pos (Run_lenSlG Tryd.underlying37 (Opd.g rfl id) (fun _ => (hs.own (i := 7) rfl).len)) rfl rfl rfl <| ?_
    obtain ⟨b193, e194, hm⟩ := letv_some hm
    refine WL_opG rfl rfl rfl rfl guard_pos (Run.eqB (Run_eqI (Opd.g rfl id) Opd.c) e194) rfl rfl rfl <| ?_
    obtain ⟨b195, e196, hm⟩ := letv_some hm
    refine Wo (Run.eqB (Run_and (O rfl) (Opd.g rfl id)) e196) rfl <| Wo (Run_assign (O rfl)) rfl <| ?_
    refine WL_nil <| At_then ?_
    refine WC_ret ?_
    refine At_then_ret <| ?_
    refine At_r1 rfl (ResIs.t rfl) ?_
    cases hm
    exact ⟨rfl, (hs.re 10 [] rfl)⟩
   ·
    replace hm := bif_f hc188 hm
    refine WC_skip ?_
    refine At_then <| WC_seq <| WC_region ?_
    refine Wo (Run_move (O rfl)) rfl <| Wo (Run_move (O rfl)) rfl <| WL_opG rfl rfl rfl rfl guard_pos (Run_move (O rfl)) rfl rfl rfl <| ?_
    obtain ⟨b197, e198, hm⟩ := letv_some hm
    refine WL_opG rfl rfl rfl rfl guard_pos (Run.eqB (Run_eqI (Opd.g rfl id) Opd.c) e198) rfl rfl rfl <| ?_
    obtain ⟨b199, e200, hm⟩ := letv_some hm
    refine Wo (Run.eqB (Run_and (O rfl) (Opd.g rfl id)) e200) rfl <| Wo (Run_move (O rfl)) rfl <| WL_opG rfl rfl rfl rfl guard_pos (Run_move (O rfl)) rfl rfl rfl <| WL_opG rfl rfl rfl rfl guard_pos (Run_lenSlG Tryd.underlying22 (Opd.g rfl id) (fun _ => (hs.own (i := 8) rfl).len)) rfl rfl rfl <| ?_
    obtain ⟨b201, e202, hm⟩ := letv_some hm
    refine WL_opG rfl rfl rfl rfl guard_pos (Run.eqB (Run_gtI (Opd.g rfl id) Opd.c) e202) rfl rfl rfl <| WL_opG rfl rfl rfl rfl guard_pos (Run_move (Opd.g rfl id)) rfl rfl rfl <| WL_opG rfl rfl rfl rfl guard_pos' (Run_move (O rfl)) rfl rfl rfl <| WL_opG rfl rfl rfl rfl guard_pos' (Run_lenSlG Tryd.underlying37 (Opd.g rfl id) (fun _ => (hs.own (i := 7) rfl).len)) rfl rfl rfl <| WL_opG rfl rfl rfl rfl guard_pos' (Run_move (O rfl)) rfl rfl rfl <| WL_opG rfl rfl rfl rfl guard_pos' (Run_lenSlG Tryd.underlying22 (Opd.g rfl id) (fun _ => (hs.own (i := 8) rfl).len)) rfl rfl rfl <| ?_
    obtain ⟨b203, e204, hm⟩ := letv_some hm
    refine WL_opG rfl rfl rfl rfl guard_pos' (Run.eqB (Run_leI (Opd.g rfl id) (Opd.g rfl id)) e204) rfl rfl rfl <| ?_
    obtain ⟨b205, e206, hm⟩ := letv_some hm
    refine WL_opG rfl rfl rfl rfl guard_pos (Run.eqB (Run_and (Opd.g rfl id) (Opd.g rfl id)) e206) rfl rfl rfl <| WL_opG rfl rfl rfl rfl guard_pos (Run_move (Opd.g rfl id)) rfl rfl rfl <| WL_opG rfl rfl rfl rfl guard_pos' (Run_move (O rfl)) rfl rfl rfl <| WL_opG rfl rfl rfl rfl guard_pos' (Run_lenSlG Tryd.underlying37 (Opd.g rfl id) (fun _ => (hs.own (i := 7) rfl).len)) rfl rfl rfl <| ?_
    obtain ⟨b207, e208, hm⟩ := letv_some hm
    refine WL_opG rfl rfl rfl rfl guard_pos' (Run.eqB (Run_geI (Opd.g rfl id) Opd.c) e208) rfl rfl rfl <| ?_
    obtain ⟨b209, e210, hm⟩ := letv_some hm
    refine WL_opG rfl rfl rfl rfl guard_pos (Run.eqB (Run_and (Opd.g rfl id) (Opd.g rfl id)) e210) rfl rfl rfl <| WL_opG rfl rfl rfl rfl guard_pos (Run_move (Opd.g rfl id)) rfl rfl rfl <| WL_opG rfl rfl rfl rfl guard_neg' (Run_move (O rfl)) rfl rfl rfl <| WL_opG rfl rfl rfl rfl guard_neg' (Run_lenSlG Tryd.underlying22 (Opd.g rfl id) (fun _ => (hs.own (i := 8) rfl).len)) rfl rfl rfl <| ?_
    obtain ⟨b211, e212, hm⟩ := letv_some hm
    refine WL_opG rfl rfl rfl rfl guard_neg' (Run.eqB (Run_eqI (Opd.g rfl id) Opd.c) e212) rfl rfl rfl <| WL_opG rfl rfl rfl rfl guard_neg' (Run_move (Opd.g rfl id)) rfl rfl rfl <| WL_opG rfl rfl rfl rfl guard_pos' (Run_move (O rfl)) rfl rfl rfl <| WL_opG rfl rfl rfl rfl guard_pos' (Run_move (O rfl)) rfl rfl rfl <| ?_
    refine WS_litG (A := (RSl (RI .i64))) (xs := [v1]) (zs := [(sl (none, 0, 0))]) (cells := [(sl v2)]) (parts := [(0, (.tmp 218))]) rfl rfl rfl guard_pos' hs Tryd.underlying37 ti22 rfl rfl rfl (.cons (Opd.g rfl id) .nil) (by kernel_rfl) rfl (fun hg => (ARd.cons (A := (RSl (RI .i64))) (c := [(sl v2)]) (x := v1) ⟨_, rfl, (hs.sl (i := 0) rfl)⟩ ARd.nil)) rfl ?_
    intro v213 w214 hs
    replace hs := hs.freeze (i := 8) rfl
    obtain ⟨r215, hr216, -, hm⟩ := callG_some hm
    refine WL_callG rfl rfl rfl guard_pos' (f := 19) (first := []) (cap := []) (xs := [(.tmp 217), (.tmp 219)]) (vs := [(sl v37), (sl v213)]) (args := [(sl v37), (sl v213)]) Tryd.call19 Opd.f (.cons (Opd.g rfl id) (.cons (Opd.g rfl id) .nil)) rfl rfl (fun hg => scrutinyref02_Vecs_ok ((hs.dupS (i := 0) rfl hg).re 12 [9, 0, 1, 2, 3, 4, 5, 6, 7, 8, 9, 10, 11] rfl) (hr216 hg)) ?_
    intro v218 w217 hv219 hz220
    replace hs := Sat.ofG (fun hg => (hv219 hg).2.re 11 [0, 1, 2, 3, 4, 5, 6, 7, 8, 9, 10] rfl) hz220 hs
    refine WL_sub1 (v := (.bool r215)) (fun hg => (hv219 hg).1) ?_
    replace hs := Sat.n11 (Γ := Φ) hs rfl
    obtain ⟨b221, e222, hm⟩ := letv_some hm
    refine WL_opG rfl rfl rfl rfl guard_neg' (Run.eqB (Run_and (Opd.g rfl id) (Opd.g rfl id)) e222) rfl rfl rfl <| ?_
    obtain ⟨b223, e224, hm⟩ := letv_some hm
    refine WL_opG rfl rfl rfl rfl guard_pos (Run.eqB (Run_or (Opd.g rfl id) (Opd.g rfl id)) e224) rfl rfl rfl <| ?_
    obtain ⟨b225, e226, hm⟩ := letv_some hm
    refine Wo (Run.eqB (Run_and (O rfl) (Opd.g rfl id)) e226) rfl <| Wo (Run_assign (O rfl)) rfl <| ?_
    refine WL_nil <| At_then ?_
    refine WC_ret ?_
    refine At_r1 rfl (ResIs.t rfl) ?_
    cases hm
    exact ⟨rfl, (hs.re 11 [] rfl)⟩
end Go.Proofs.YtjdabjpjafkogaaDoor
namespace Go.Proofs.YtjdabjpjafkogaaDoor
mutual
def Ex.sz : Ex → Nat
 | .mk _ _ _ l => szL l + 1
def szL : List Ex → Nat
 | [] => 0
 | x :: r => Ex.sz x + szL r
end
theorem Ex.sz_l (e : Ex) : e.sz = szL e.l + 1 := by cases e; simp only [Ex.sz, Ex.l]
theorem sz_pos (e : Ex) : 1 ≤ e.sz := by rw [Ex.sz_l]; omega
theorem sz_mem {x : Ex} : ∀ {l : List Ex}, x ∈ l → x.sz ≤ szL l
 | y :: l, h => by
  simp only [szL]
  rcases List.mem_cons.1 h with rfl | h
  ·omega
  ·have := sz_mem h; omega
theorem szL_len : ∀ (l : List Ex), l.length ≤ szL l
 | [] => Nat.le_refl _
 | x :: l => by have := szL_len l; have := sz_pos x; simp only [szL, List.length_cons]; omega
theorem sz_lt {e x : Ex} (h : x ∈ e.l) : x.sz < e.sz := by have := sz_mem h; rw [Ex.sz_l e]; omega
theorem len_lt (e : Ex) : e.l.length < e.sz := by have := szL_len e.l; rw [Ex.sz_l e]; omega
theorem bind_s {α ρ : Type} (x : α) (k : α → Option ρ) : (some x).bind k = k x := rfl
theorem letv_e {α ρ : Type} (x : α) (k : α → Option ρ) : letv x k = k x := rfl
theorem callG_tt {α ρ : Type} (d : α) (m : Option α) (k : α → Option ρ) : callG true d m k = m.bind k := rfl
theorem callG_ff {α ρ : Type} (d : α) (m : Option α) (k : α → Option ρ) : callG false d m k = k d := rfl
theorem idx_mid {l pre r : List Ex} {x : Ex} (h : l = pre ++ x :: r) : idx l (pre.length : Int) = some x := by subst h; simp [idx]
theorem next_ix {n : Nat} (h : n < 4611686018427387904) : IntKind.i64.wrap ((n : Int) + 1) = ((n + 1 : Nat) : Int) := by rw [w64 (by omega)]; omega
theorem lt_t {l pre r : List Ex} {x : Ex} (h : l = pre ++ x :: r) : decide ((pre.length : Int) < (List.length l : Int)) = true := by subst h; simp; omega
theorem lt_f {l pre : List Ex} (h : l = pre ++ []) : decide ((pre.length : Int) < (List.length l : Int)) = false := by subst h; simp
def tyFin (op a : Int) (i b t : Bool) : Int × Int × Int :=
 bif decide (op ≤ 6) && i then (1, 0, 0)
 else bif decide (6 < op) && decide (op ≤ 12) && i || op == 13 || op == 14 || decide (15 ≤ op) && decide (op ≤ 19) && b then (2, 0, 0)
 else bif decide (15 ≤ op) && t then (3, 0, 0) else (0, 4, a)
mutual
def ty : Ex → Int × Int × Int
 | .mk op _ a l => tyA op a l true true true
def tyA (op a : Int) : List Ex → Bool → Bool → Bool → Int × Int × Int
 | [], i, b, t => tyFin op a i b t
 | x :: r, i, b, t => bif (ty x).2.1 != 0 then (0, (ty x).2.1, (ty x).2.2) else tyA op a r (i && (ty x).1 == 1) (b && (ty x).1 == 2) (t && (ty x).1 != 1)
end
def wantOf (op : Int) : Int := bif op == 1 || op == 2 || op == 13 || op == 14 then 0 else bif op == 6 || op == 15 || op == 20 || op == 21 || op == 22 then 1 else 2
def mayH (op n len want vars : Int) : Bool :=
 !(decide (op < 1) || decide (24 < op) || len != want) && !((op == 1) && (decide (n < 0) || decide (1073741824 < n)) || (op == 2) && (decide (n < 0) || decide (vars ≤ n)) || decide (2 < op) && n != 0)
mutual
def mayE (vars : Int) : Ex → Bool
 | .mk op n _ l => mayH op n (l.length : Int) (wantOf op) vars && mayL vars l
def mayL (vars : Int) : List Ex → Bool
 | [] => true
 | x :: r => mayE vars x && mayL vars r
end
theorem mayE_eq (vars : Int) (e : Ex) : mayE vars e = (mayH e.op e.n (e.l.length : Int) (wantOf e.op) vars && mayL vars e.l) := by cases e; simp only [mayE, Ex.op, Ex.n, Ex.l]
def tr (b : Bool) : Int := bif b then 1 else 0
def evF (op n : Int) (v : List Int) (a b : Int) : Int :=
 bif op == 1 then n else bif op == 2 then (bif decide (n < 0) || decide ((List.length v : Int) ≤ n) then 0 else v.getD n.toNat 0)
 else bif op == 3 then IntKind.i64.wrap (a + b) else bif op == 5 then IntKind.i64.wrap (a * b) else bif op == 6 then IntKind.i64.wrap (0 - a) else bif op == 4 then IntKind.i64.wrap (a - b)
 else bif op == 8 then tr ((a == b) != true) else bif op == 7 then tr ((a == b) != false) else bif op == 19 then tr ((a == b) != false)
 else bif op == 12 then tr (decide (a < b) != true) else bif op == 9 then tr (decide (a < b) != false) else bif op == 11 then tr (decide (a ≤ b) != true) else bif op == 10 then tr (decide (a ≤ b) != false)
 else bif op == 13 then 1 else bif op == 15 then IntKind.i64.wrap (1 - a) else bif op == 16 then IntKind.i64.wrap (a * b) else bif op == 17 then max a b else bif op == 18 then max (IntKind.i64.wrap (1 - a)) b else 0
mutual
def ev (v : List Int) : Ex → Int
 | .mk op n _ l => evF op n v (ev0 v l) (ev1 v l)
def ev0 (v : List Int) : List Ex → Int
 | [] => 0
 | x :: _ => ev v x
def ev1 (v : List Int) : List Ex → Int
 | [] => 0
 | _ :: r => ev0 v r
end
theorem ev_eq (v : List Int) (e : Ex) : ev v e = evF e.op e.n v (ev0 v e.l) (ev1 v e.l) := by cases e; simp only [ev, Ex.op, Ex.n, Ex.l]
def rtFin (op a len i b t : Int) : Int × Int × Int :=
 bif decide (op ≤ 6) && (i == len) then (1, 0, 0)
 else bif decide (7 ≤ op) && decide (op ≤ 12) && (i == len) || op == 13 || op == 14 then (2, 0, 0)
 else bif decide (15 ≤ op) && decide (op ≤ 19) && (b == len) then (2, 0, 0)
 else bif decide (15 ≤ op) && (b + t == len) then (3, 0, 0) else (0, 4, a)
mutual
def rt : Ex → Int × Int × Int
 | .mk op _ a l => rtA op a (l.length : Int) l 0 0 0
def rtA (op a len : Int) : List Ex → Int → Int → Int → Int × Int × Int
 | [], i, b, t => rtFin op a len i b t
 | x :: r, i, b, t => bif (rt x).2.1 != 0 then (0, (rt x).2.1, (rt x).2.2) else rtA op a len r (bif (rt x).1 == 1 then i + 1 else i) (bif (rt x).1 == 2 then b + 1 else b) (bif (rt x).1 == 3 then t + 1 else t)
end
theorem rt_eq (e : Ex) : rt e = rtA e.op e.at_ (e.l.length : Int) e.l 0 0 0 := by cases e; simp only [rt, Ex.op, Ex.at_, Ex.l]
theorem callG_v {α ρ : Type} (g : Bool) (d v : α) (k : α → Option ρ) : callG g d (some v) k = k (bif g then v else d) := by cases g <;> rfl
theorem rtA_two (op a len : Int) : ∀ (l : List Ex) (i b t : Int), (rtA op a len l i b t).1 = 2 → 7 ≤ op ∧ op ≤ 19
 | [], i, b, t, h => by
  simp only [rtA, rtFin] at h
  cases c1 : (decide (op ≤ 6) && (i == len))
  ·rw [c1] at h
   simp only [cond_false] at h
   cases c2 : (decide (7 ≤ op) && decide (op ≤ 12) && (i == len) || op == 13 || op == 14)
   ·rw [c2] at h
    simp only [cond_false] at h
    cases c3 : (decide (15 ≤ op) && decide (op ≤ 19) && (b == len))
    ·rw [c3] at h
     simp only [cond_false] at h
     cases c4 : (decide (15 ≤ op) && (b + t == len))
     ·rw [c4] at h; simp at h
     ·rw [c4] at h; simp at h
    ·simp only [Bool.and_eq_true, decide_eq_true_eq] at c3; omega
   ·simp only [Bool.or_eq_true, Bool.and_eq_true, decide_eq_true_eq, beq_iff_eq] at c2; omega
  ·rw [c1] at h; simp at h
 | x :: r, i, b, t, h => by
  simp only [rtA] at h
  cases c : ((rt x).2.1 != 0)
  ·rw [c] at h; exact rtA_two op a len r _ _ _ h
  ·rw [c] at h; simp at h
theorem rtA_less (op a len : Int) (h15 : 15 ≤ op) (h19 : op ≤ 19) : ∀ (l : List Ex) (i b t : Int), b + l.length < len → (rtA op a len l i b t).1 ≠ 2
 | [], i, b, t, hb, h => by
  simp only [rtA, rtFin] at h
  have c1 : decide (op ≤ 6) = false := decide_eq_false (by omega)
  have c2 : decide (op ≤ 12) = false := decide_eq_false (by omega)
  have c3 : (op == 13) = false := beq_eq_false_iff_ne.2 (by omega)
  have c4 : (op == 14) = false := beq_eq_false_iff_ne.2 (by omega)
  have c5 : (b == len) = false := beq_eq_false_iff_ne.2 (by simp at hb; omega)
  rw [c1, c2, c3, c4, c5] at h
  simp only [Bool.false_and, Bool.and_false, Bool.or_false, cond_false] at h
  cases c6 : (decide (15 ≤ op) && (b + t == len))
  ·rw [c6] at h; simp at h
  ·rw [c6] at h; simp at h
 | x :: r, i, b, t, hb, h => by
  simp only [rtA] at h
  simp only [List.length_cons] at hb
  cases c : ((rt x).2.1 != 0)
  ·rw [c] at h
   refine rtA_less op a len h15 h19 r _ _ _ ?_ h
   cases (rt x).1 == 2
   ·simp only [cond_false]; omega
   ·simp only [cond_true]; omega
  ·rw [c] at h; simp at h
theorem rtA_all (op a len : Int) (h15 : 15 ≤ op) (h19 : op ≤ 19) : ∀ (l : List Ex) (i b t : Int), b + l.length ≤ len → (rtA op a len l i b t).1 = 2 → ∀ x ∈ l, (rt x).1 = 2 ∧ (rt x).2.1 = 0
 | [], _, _, _, _, _, x, hx => by cases hx
 | y :: r, i, b, t, hb, h, x, hx => by
  simp only [rtA] at h
  simp only [List.length_cons] at hb
  cases c : ((rt y).2.1 != 0)
  ·rw [c] at h
   simp only [cond_false] at h
   cases c2 : ((rt y).1 == 2)
   ·rw [c2] at h
    exact absurd h (rtA_less op a len h15 h19 r _ _ _ (by simp only [cond_false]; omega))
   ·rw [c2] at h
    rcases List.mem_cons.1 hx with rfl | hx
    ·exact ⟨by simpa using c2, by simpa using c⟩
    ·exact rtA_all op a len h15 h19 r _ _ _ (by simp only [cond_true]; omega) h x hx
  ·rw [c] at h; simp at h
theorem tr01 (b : Bool) : tr b = 0 ∨ tr b = 1 := by cases b; exact .inl rfl; exact .inr rfl
theorem ev01 (v : List Int) {l : List Ex} (h : ∀ x ∈ l, ev v x = 0 ∨ ev v x = 1) : (ev0 v l = 0 ∨ ev0 v l = 1) ∧ (ev1 v l = 0 ∨ ev1 v l = 1) := by
 match l, h with
 | [], _ => exact ⟨.inl (by simp only [ev0]), .inl (by simp only [ev1])⟩
 | [x], h => exact ⟨by simp only [ev0]; exact h x (by simp), .inl (by simp only [ev1, ev0])⟩
 | x :: y :: r, h => exact ⟨by simp only [ev0]; exact h x (by simp), by simp only [ev1, ev0]; exact h y (by simp)⟩
theorem evF01 (op n : Int) (v : List Int) (a b : Int) (h7 : 7 ≤ op) (h19 : op ≤ 19) (hab : 15 ≤ op → (a = 0 ∨ a = 1) ∧ (b = 0 ∨ b = 1)) : evF op n v a b = 0 ∨ evF op n v a b = 1 := by
 have : op = 7 ∨ op = 8 ∨ op = 9 ∨ op = 10 ∨ op = 11 ∨ op = 12 ∨ op = 13 ∨ op = 14 ∨ op = 15 ∨ op = 16 ∨ op = 17 ∨ op = 18 ∨ op = 19 := by omega
 rcases this with rfl | rfl | rfl | rfl | rfl | rfl | rfl | rfl | rfl | rfl | rfl | rfl | rfl
 ·exact tr01 _
 ·exact tr01 _
 ·exact tr01 _
 ·exact tr01 _
 ·exact tr01 _
 ·exact tr01 _
 ·exact .inr rfl
 ·exact .inl rfl
 ·obtain ⟨ha, _⟩ := hab (by omega)
  rcases ha with rfl | rfl
  ·exact .inr rfl
  ·exact .inl rfl
 ·obtain ⟨ha, hb⟩ := hab (by omega)
  rcases ha with rfl | rfl <;> rcases hb with rfl | rfl
  ·exact .inl rfl
  ·exact .inl rfl
  ·exact .inl rfl
  ·exact .inr rfl
 ·obtain ⟨ha, hb⟩ := hab (by omega)
  rcases ha with rfl | rfl <;> rcases hb with rfl | rfl
  ·exact .inl rfl
  ·exact .inr rfl
  ·exact .inr rfl
  ·exact .inr rfl
 ·obtain ⟨ha, hb⟩ := hab (by omega)
  rcases ha with rfl | rfl <;> rcases hb with rfl | rfl
  ·exact .inr rfl
  ·exact .inr rfl
  ·exact .inl rfl
  ·exact .inr rfl
 ·exact tr01 _
theorem bool01 (v : List Int) : ∀ (N : Nat) (e : Ex), e.sz ≤ N → (rt e).1 = 2 → ev v e = 0 ∨ ev v e = 1 := by
 intro N
 induction N with
 | zero => intro e h; have := sz_pos e; omega
 | succ N ih =>
  intro e h h2
  rw [rt_eq] at h2
  obtain ⟨h7, h19⟩ := rtA_two _ _ _ _ _ _ _ h2
  rw [ev_eq]
  refine evF01 _ _ _ _ _ h7 h19 (fun h15 => ev01 v (fun x hx => ?_))
  have := rtA_all _ _ _ h15 h19 _ _ _ _ (by omega) h2 x hx
  exact ih x (by have := sz_lt hx; omega) this.1
theorem may_facts {vars : Int} {e : Ex} (h : mayE vars e = true) : (1 ≤ e.op ∧ e.op ≤ 24) ∧ (e.l.length : Int) = wantOf e.op ∧ (e.op = 1 → 0 ≤ e.n ∧ e.n ≤ 1073741824) ∧ (e.op = 2 → 0 ≤ e.n ∧ e.n < vars) ∧ ∀ x ∈ e.l, mayE vars x = true := by
 rw [mayE_eq] at h
 simp only [mayH, Bool.and_eq_true, Bool.not_eq_true', Bool.or_eq_false_iff, decide_eq_false_iff_not, bne_eq_false_iff_eq, Bool.and_eq_false_imp, beq_iff_eq] at h
 obtain ⟨⟨⟨⟨h1, h2⟩, h3⟩, ⟨h4, h5⟩, _⟩, h6⟩ := h
 refine ⟨by omega, h3, fun h => by have := h4 h; omega, fun h => by have := h5 h; omega, ?_⟩
 have : ∀ (l : List Ex), mayL vars l = true → ∀ x ∈ l, mayE vars x = true := fun l => by
  induction l with
  | nil => intro _ x hx; cases hx
  | cons y r ih =>
   intro h x hx
   simp only [mayL, Bool.and_eq_true] at h
   rcases List.mem_cons.1 hx with rfl | hx
   ·exact h.1
   ·exact ih h.2 x hx
 exact this _ h6
theorem rtA_low (op a len : Int) (h12 : op ≤ 12) : ∀ (l : List Ex) (i b t : Int), i + l.length < len → (rtA op a len l i b t).1 = 0
 | [], i, b, t, hb => by
  simp only [rtA, rtFin]
  have c5 : (i == len) = false := beq_eq_false_iff_ne.2 (by simp at hb; omega)
  have c3 : (op == 13) = false := beq_eq_false_iff_ne.2 (by omega)
  have c4 : (op == 14) = false := beq_eq_false_iff_ne.2 (by omega)
  have c6 : decide (15 ≤ op) = false := decide_eq_false (by omega)
  rw [c3, c4, c5, c6]
  simp only [Bool.and_false, Bool.or_false, Bool.false_and, cond_false]
 | x :: r, i, b, t, hb => by
  simp only [rtA]
  simp only [List.length_cons] at hb
  cases ((rt x).2.1 != 0)
  ·refine rtA_low op a len h12 r _ _ _ ?_
   cases (rt x).1 == 1
   ·simp only [cond_false]; omega
   ·simp only [cond_true]; omega
  ·rfl
theorem rtA_ints (op a len : Int) (h12 : op ≤ 12) : ∀ (l : List Ex) (i b t : Int), i + l.length ≤ len → (rtA op a len l i b t).1 ≠ 0 → ∀ x ∈ l, (rt x).1 = 1
 | [], _, _, _, _, _, x, hx => by cases hx
 | y :: r, i, b, t, hb, h, x, hx => by
  simp only [rtA] at h
  simp only [List.length_cons] at hb
  cases c : ((rt y).2.1 != 0)
  ·rw [c] at h
   simp only [cond_false] at h
   cases c2 : ((rt y).1 == 1)
   ·rw [c2] at h
    exact absurd (rtA_low op a len h12 r _ _ _ (by simp only [cond_false]; omega)) h
   ·rw [c2] at h
    rcases List.mem_cons.1 hx with rfl | hx
    ·simpa using c2
    ·exact rtA_ints op a len h12 r _ _ _ (by simp only [cond_true]; omega) h x hx
  ·rw [c] at h; exact absurd rfl h
theorem rtA_one (op a len : Int) : ∀ (l : List Ex) (i b t : Int), (rtA op a len l i b t).1 = 1 → op ≤ 6
 | [], i, b, t, h => by
  simp only [rtA, rtFin] at h
  cases c1 : (decide (op ≤ 6) && (i == len))
  ·rw [c1] at h
   simp only [cond_false] at h
   cases c2 : (decide (7 ≤ op) && decide (op ≤ 12) && (i == len) || op == 13 || op == 14)
   ·rw [c2] at h
    simp only [cond_false] at h
    cases c3 : (decide (15 ≤ op) && decide (op ≤ 19) && (b == len))
    ·rw [c3] at h
     simp only [cond_false] at h
     cases c4 : (decide (15 ≤ op) && (b + t == len))
     ·rw [c4] at h; simp at h
     ·rw [c4] at h; simp at h
    ·rw [c3] at h; simp at h
   ·rw [c2] at h; simp at h
  ·simp only [Bool.and_eq_true, decide_eq_true_eq] at c1; exact c1.1
 | x :: r, i, b, t, h => by
  simp only [rtA] at h
  cases c : ((rt x).2.1 != 0)
  ·rw [c] at h; exact rtA_one op a len r _ _ _ h
  ·rw [c] at h; simp at h
theorem child_types {vars : Int} {e : Ex} (hm : mayE vars e = true) (h : (rt e).1 = 1 ∨ (rt e).1 = 2) : ∀ x ∈ e.l, (rt x).1 = 1 ∨ (rt x).1 = 2 := by
 intro x hx
 obtain ⟨_, hw, _⟩ := may_facts hm
 rw [rt_eq] at h
 by_cases h12 : e.op ≤ 12
 ·exact .inl (rtA_ints e.op e.at_ (e.l.length : Int) h12 e.l 0 0 0 (by omega) (by rcases h with h | h <;> rw [h] <;> decide) x hx)
 ·have h2 : (rtA e.op e.at_ (e.l.length : Int) e.l 0 0 0).1 = 2 := by
   rcases h with h | h
   ·have := rtA_one _ _ _ _ _ _ _ h; omega
   ·exact h
  have h719 := rtA_two _ _ _ _ _ _ _ h2
  by_cases h15 : 15 ≤ e.op
  ·exact .inr (rtA_all _ _ _ h15 h719.2 _ _ _ _ (by omega) h2 x hx).1
  ·have hop : e.op = 13 ∨ e.op = 14 := by omega
   have hw0 : wantOf e.op = 0 := by rcases hop with h | h <;> rw [h] <;> rfl
   rw [hw0] at hw
   have : e.l = [] := List.eq_nil_of_length_eq_zero (by omega)
   rw [this] at hx; cases hx
end Go.Proofs.YtjdabjpjafkogaaDoor
namespace Go.Proofs.YtjdabjpjafkogaaDoor
def keysT : List Str := [[116, 114, 117, 101], [102, 97, 108, 115, 101], [88], [70], [71], [85], [82], [118, 97, 114], [112, 114, 111, 99]]
def textsT : List Str := [[], [], [], [43], [45], [42], [45], [61, 61], [33, 61], [60], [60, 61], [62], [62, 61], [116, 114, 117, 101], [102, 97, 108, 115, 101], [33], [38], [124], [45, 62], [60, 45, 62], [88], [70], [71], [85], [82]]
def txtT (op : Int) : Str := textsT.getD op.toNat []
namespace Pa
abbrev Tok := Int × Str × Int × Int
abbrev Out := Except (Int × Int) (Ex × List Tok)
def key (s : Str) : Bool := keysT.contains s
def sgn (t : Tok) : Bool := t.1 == 3 || (t.1 == 1 && key t.2.1)
def ops : Nat → List Int
 | 1 => [19]
 | 2 => [18]
 | 3 => [17]
 | 4 => [16]
 | 5 => [23, 24]
 | 6 => [15, 20, 21, 22]
 | 7 => [7, 8, 9, 10, 11, 12]
 | 8 => [3, 4]
 | 9 => [5]
 | 10 => [6]
 | 11 => [13, 14]
 | _ => []
def fnd (l : List Int) (t : Tok) : Option Int := bif sgn t then l.find? (fun o => txtT o == t.2.1) else none
def opOf (s : Nat) (t : Tok) : Option Int := fnd (ops s) t
def kd : Nat → Nat
 | 6 => 0
 | 10 => 0
 | 1 => 1
 | 2 => 1
 | 5 => 1
 | 7 => 1
 | 3 => 2
 | 4 => 2
 | 8 => 2
 | 9 => 2
 | 11 => 3
 | _ => 4
def counted (s : Nat) : Bool := s == 1 || s == 2 || s == 5 || s == 6 || s == 10
def dn (s : Nat) (d : Int) : Int := bif counted s then d + 1 else d
def deepB (s : Nat) (d : Int) : Bool := counted s && decide (320 ≤ d)
def nx (s : Nat) : Nat := bif s == 7 then 8 else s
def at_ (names : List Str) (v : Str) : Option Nat := names.findIdx? (fun x => v == x)
def open_ (t : Tok) : Bool := t.1 == 3 && t.2.1 == [40]
def close_ (t : Tok) : Bool := t.1 == 3 && t.2.1 == [41]
def name_ (t : Tok) : Bool := t.1 == 1 && !key t.2.1
def one' (k : Int) (a : Int) (r : Out) : Out := r.map fun p => (.mk k 0 a [p.1], p.2)
def two' (k : Int) (a : Int) (x : Ex) (r : Out) : Out := r.map fun p => (.mk k 0 a [x, p.1], p.2)
inductive Job where
 | line (s : Nat)
 | loop (s : Nat) (a : Ex)
open Job
inductive P (names : List Str) : Job → Int → List Tok → Out → Prop
 | big {s d t ts} : deepB s d = true → P names (line s) d (t :: ts) (.error (9, t.2.2.2))
 | pre {s d t ts k r} : kd s = 0 → deepB s d = false → opOf s t = some k → P names (line s) (dn s d) ts r → P names (line s) d (t :: ts) (one' k t.2.2.2 r)
 | other {s d t ts r} : kd s = 0 → deepB s d = false → opOf s t = none → P names (line (s + 1)) (dn s d) (t :: ts) r → P names (line s) d (t :: ts) r
 | rErr {s d ts e} : kd s = 1 → deepB s d = false → P names (line (s + 1)) (dn s d) ts (.error e) → P names (line s) d ts (.error e)
 | rOne {s d ts a t ts'} : kd s = 1 → deepB s d = false → P names (line (s + 1)) (dn s d) ts (.ok (a, t :: ts')) → opOf s t = none → P names (line s) d ts (.ok (a, t :: ts'))
 | rTwo {s d ts a t ts' k r} : kd s = 1 → deepB s d = false → P names (line (s + 1)) (dn s d) ts (.ok (a, t :: ts')) → opOf s t = some k → P names (line (nx s)) (dn s d) ts' r → P names (line s) d ts (two' k t.2.2.2 a r)
 | lErr {s d ts e} : kd s = 2 → P names (line (s + 1)) d ts (.error e) → P names (line s) d ts (.error e)
 | lGo {s d ts a ts' r} : kd s = 2 → P names (line (s + 1)) d ts (.ok (a, ts')) → P names (loop s a) d ts' r → P names (line s) d ts r
 | lpEnd {s a d t ts} : opOf s t = none → P names (loop s a) d (t :: ts) (.ok (a, t :: ts))
 | lpErr {s a d t ts k e} : opOf s t = some k → P names (line (s + 1)) d ts (.error e) → P names (loop s a) d (t :: ts) (.error e)
 | lpGo {s a d t ts k b ts' r} : opOf s t = some k → P names (line (s + 1)) d ts (.ok (b, ts')) → P names (loop s (.mk k 0 t.2.2.2 [a, b])) d ts' r → P names (loop s a) d (t :: ts) r
 | oWord {s d t ts k} : kd s = 3 → opOf s t = some k → P names (line s) d (t :: ts) (.ok (.mk k 0 t.2.2.2 [], ts))
 | oNum {s d t ts} : kd s = 3 → opOf s t = none → (t.1 == 2) = true → P names (line s) d (t :: ts) (.ok (.mk 1 t.2.2.1 t.2.2.2 [], ts))
 | oVar {s d t ts i} : kd s = 3 → opOf s t = none → (t.1 == 2) = false → name_ t = true → at_ names t.2.1 = some i → P names (line s) d (t :: ts) (.ok (.mk 2 (i : Int) t.2.2.2 [], ts))
 | oName {s d t ts} : kd s = 3 → opOf s t = none → (t.1 == 2) = false → name_ t = true → at_ names t.2.1 = none → P names (line s) d (t :: ts) (.error (3, t.2.2.2))
 | oOpen {s d t ts a c ts'} : kd s = 3 → opOf s t = none → (t.1 == 2) = false → name_ t = false → open_ t = true → P names (line 1) d ts (.ok (a, c :: ts')) → close_ c = true → P names (line s) d (t :: ts) (.ok (a, ts'))
 | oErr {s d t ts e} : kd s = 3 → opOf s t = none → (t.1 == 2) = false → name_ t = false → open_ t = true → P names (line 1) d ts (.error e) → P names (line s) d (t :: ts) (.error e)
 | oClose {s d t ts a c ts'} : kd s = 3 → opOf s t = none → (t.1 == 2) = false → name_ t = false → open_ t = true → P names (line 1) d ts (.ok (a, c :: ts')) → close_ c = false → P names (line s) d (t :: ts) (.error (2, c.2.2.2))
 | oForm {s d t ts} : kd s = 3 → opOf s t = none → (t.1 == 2) = false → name_ t = false → open_ t = false → P names (line s) d (t :: ts) (.error (2, t.2.2.2))
theorem deep_kd {s : Nat} {d : Int} (h : deepB s d = true) : kd s = 0 ∨ kd s = 1 := by
 unfold deepB counted at h
 simp only [Bool.and_eq_true, Bool.or_eq_true, beq_iff_eq] at h
 rcases h.1 with (((rfl | rfl) | rfl) | rfl) | rfl <;> simp [kd]
theorem P.det {names : List Str} {j : Job} {d : Int} {ts : List Tok} {r r' : Out} (h : P names j d ts r) (h' : P names j d ts r') : r = r' := by
 induction h generalizing r' with
 | big h0 => have := deep_kd h0; cases h' <;> simp_all
 | pre h0 h1 h2 h3 ih => cases h' <;> simp_all <;> (rename_i h4; rw [ih h4])
 | other h0 h1 h2 h3 ih =>
  cases h' with
  | other _ _ _ h => exact ih h
  | _ => simp_all
 | rErr h0 h1 h2 ih =>
  cases h' with
  | rErr _ _ h => exact ih h
  | rOne _ _ h => cases ih h
  | rTwo _ _ h => cases ih h
  | _ => simp_all
 | rOne h0 h1 h2 h3 ih =>
  cases h' with
  | rErr _ _ h => cases ih h
  | rOne _ _ h => exact ih h
  | rTwo _ _ h h4 => cases ih h; simp_all
  | _ => simp_all
 | rTwo h0 h1 h2 h3 h4 ih ih2 =>
  cases h' with
  | rErr _ _ h => cases ih h
  | rOne _ _ h => cases ih h; simp_all
  | rTwo _ _ h h5 h6 => cases ih h; rw [h3] at h5; cases h5; rw [ih2 h6]
  | _ => simp_all
 | lErr h0 h1 ih =>
  cases h' with
  | lErr _ h => exact ih h
  | lGo _ h => cases ih h
  | big h => have := deep_kd h; simp_all
  | _ => simp_all
 | lGo h0 h1 h2 ih ih2 =>
  cases h' with
  | lErr _ h => cases ih h
  | lGo _ h h3 => cases ih h; exact ih2 h3
  | big h => have := deep_kd h; simp_all
  | _ => simp_all
 | lpEnd h0 => cases h' <;> simp_all
 | lpErr h0 h1 ih =>
  cases h' with
  | lpErr _ h => exact ih h
  | lpGo _ h => cases ih h
  | _ => simp_all
 | lpGo h0 h1 h2 ih ih2 =>
  cases h' with
  | lpErr _ h => cases ih h
  | lpGo h4 h h3 => cases ih h; rw [h0] at h4; cases h4; exact ih2 h3
  | _ => simp_all
 | oOpen h0 h1 h2 h3 h4 h5 h6 ih =>
  cases h' with
  | oOpen _ _ _ _ _ h _ => cases ih h; rfl
  | oErr _ _ _ _ _ h => cases ih h
  | oClose _ _ _ _ _ h h7 => cases ih h; simp_all
  | big h => have := deep_kd h; simp_all
  | _ => simp_all
 | oErr h0 h1 h2 h3 h4 h5 ih =>
  cases h' with
  | oOpen _ _ _ _ _ h _ => cases ih h
  | oErr _ _ _ _ _ h => exact ih h
  | oClose _ _ _ _ _ h h7 => cases ih h
  | big h => have := deep_kd h; simp_all
  | _ => simp_all
 | oClose h0 h1 h2 h3 h4 h5 h6 ih =>
  cases h' with
  | oOpen _ _ _ _ _ h _ => cases ih h; simp_all
  | oErr _ _ _ _ _ h => cases ih h
  | oClose _ _ _ _ _ h h7 => cases ih h; rfl
  | big h => have := deep_kd h; simp_all
  | _ => simp_all
 | oWord h0 h1 => cases h' <;> first | (rename_i h; have := deep_kd h; simp_all; done) | simp_all
 | oNum h0 h1 h2 => cases h' <;> first | (rename_i h; have := deep_kd h; simp_all; done) | simp_all
 | oVar h0 h1 h2 h3 h4 => cases h' <;> first | (rename_i h; have := deep_kd h; simp_all; done) | simp_all
 | oName h0 h1 h2 h3 h4 => cases h' <;> first | (rename_i h; have := deep_kd h; simp_all; done) | simp_all
 | oForm h0 h1 h2 h3 h4 => cases h' <;> first | (rename_i h; have := deep_kd h; simp_all; done) | simp_all
def Ends : List Tok → Prop
 | [] => False
 | t :: ts => Ends ts ∨ (ts = [] ∧ t.1 = 4)
theorem Ends.tail {t : Tok} {ts : List Tok} (h : Ends (t :: ts)) (h4 : t.1 ≠ 4) : Ends ts := by
 rcases h with h | ⟨_, h⟩
 ·exact h
 ·exact absurd h h4
theorem Ends.ne {ts : List Tok} (h : Ends ts) : ∃ t r, ts = t :: r := by
 cases ts with
 | nil => exact h.elim
 | cons t r => exact ⟨t, r, rfl⟩
theorem sgn_ne {t : Tok} (h : sgn t = true) : t.1 ≠ 4 := by
 unfold sgn at h
 intro h4
 rw [h4] at h; simp at h
theorem fnd_sgn {l : List Int} {t : Tok} {k : Int} (h : fnd l t = some k) : sgn t = true := by
 unfold fnd at h
 cases hs : sgn t
 ·rw [hs] at h; cases h
 ·rfl
theorem fnd_ne {l : List Int} {t : Tok} {k : Int} (h : fnd l t = some k) : t.1 ≠ 4 := sgn_ne (fnd_sgn h)
theorem op_ne {s : Nat} {t : Tok} {k : Int} (h : opOf s t = some k) : t.1 ≠ 4 := fnd_ne h
def shorter : Job → Nat → Nat → Prop
 | line _, a, b => a < b
 | loop _ _, a, b => a ≤ b
theorem P.ends {names : List Str} {j : Job} {d : Int} {ts : List Tok} {r : Out} (h : P names j d ts r) : Ends ts → ∀ p, r = .ok p → Ends p.2 ∧ shorter j p.2.length ts.length := by
 induction h with
 | big => intro _ p h; cases h
 | @pre s d t ts k r h0 h1 h2 h3 ih =>
  intro he p h
  cases r with
  | error e => cases h
  | ok q =>
   obtain ⟨i1, i2⟩ := ih (he.tail (op_ne h2)) q rfl
   cases h
   refine ⟨i1, ?_⟩
   simp only [shorter, List.length_cons] at *; omega
 | other h0 h1 h2 h3 ih => intro he p h; exact ih he p h
 | rErr => intro _ p h; cases h
 | rOne h0 h1 h2 h3 ih => intro he p h; exact ih he p h
 | @rTwo s d ts a t ts' k r h0 h1 h2 h3 h4 ih ih2 =>
  intro he p h
  cases r with
  | error e => cases h
  | ok q =>
   obtain ⟨i1, i2⟩ := ih he _ rfl
   obtain ⟨i3, i4⟩ := ih2 (i1.tail (op_ne h3)) q rfl
   cases h
   refine ⟨i3, ?_⟩
   simp only [shorter, List.length_cons] at *; omega
 | lErr => intro _ p h; cases h
 | lGo h0 h1 h2 ih ih2 =>
  intro he p h
  obtain ⟨i1, i2⟩ := ih he _ rfl
  obtain ⟨i3, i4⟩ := ih2 i1 p h
  refine ⟨i3, ?_⟩
  simp only [shorter] at *; omega
 | lpEnd h0 => intro he p h; cases h; exact ⟨he, Nat.le_refl _⟩
 | lpErr => intro _ p h; cases h
 | lpGo h0 h1 h2 ih ih2 =>
  intro he p h
  obtain ⟨i1, i2⟩ := ih (he.tail (op_ne h0)) _ rfl
  obtain ⟨i3, i4⟩ := ih2 i1 p h
  refine ⟨i3, ?_⟩
  simp only [shorter, List.length_cons] at *; omega
 | oWord h0 h1 => intro he p h; cases h; exact ⟨he.tail (op_ne h1), Nat.lt_succ_self _⟩
 | oNum h0 h1 h2 => intro he p h; cases h; exact ⟨he.tail (by have := beq_iff_eq.1 h2; omega), Nat.lt_succ_self _⟩
 | oVar h0 h1 h2 h3 h4 => intro he p h; cases h; exact ⟨he.tail (by unfold name_ at h3; simp only [Bool.and_eq_true, beq_iff_eq] at h3; omega), Nat.lt_succ_self _⟩
 | oName => intro _ p h; cases h
 | oOpen h0 h1 h2 h3 h4 h5 h6 ih =>
  intro he p h
  cases h
  obtain ⟨i1, i2⟩ := ih (he.tail (by unfold open_ at h4; simp only [Bool.and_eq_true, beq_iff_eq] at h4; omega)) _ rfl
  refine ⟨i1.tail (by unfold close_ at h6; simp only [Bool.and_eq_true, beq_iff_eq] at h6; omega), ?_⟩
  simp only [shorter, List.length_cons] at *; omega
 | oErr => intro _ p h; cases h
 | oClose => intro _ p h; cases h
 | oForm => intro _ p h; cases h
theorem P.err {names : List Str} {j : Job} {d : Int} {ts : List Tok} {r : Out} (h : P names j d ts r) : ∀ e, r = .error e → e.1 = 9 ∨ e.1 = 2 ∨ e.1 = 3 := by
 induction h with
 | big => intro e h; cases h; exact .inl rfl
 | @pre s d t ts k r h0 h1 h2 h3 ih =>
  intro e h
  cases r with
  | error e' => cases h; exact ih _ rfl
  | ok q => cases h
 | other h0 h1 h2 h3 ih => exact ih
 | rErr _ _ _ ih => exact ih
 | rOne => intro e h; cases h
 | @rTwo s d ts a t ts' k r h0 h1 h2 h3 h4 ih ih2 =>
  intro e h
  cases r with
  | error e' => cases h; exact ih2 _ rfl
  | ok q => cases h
 | lErr _ _ ih => exact ih
 | lGo _ _ _ _ ih => exact ih
 | lpEnd => intro e h; cases h
 | lpErr _ _ ih => exact ih
 | lpGo _ _ _ _ ih => exact ih
 | oWord => intro e h; cases h
 | oNum => intro e h; cases h
 | oVar => intro e h; cases h
 | oName => intro e h; cases h; exact .inr (.inr rfl)
 | oOpen => intro e h; cases h
 | oErr _ _ _ _ _ _ ih => exact ih
 | oClose => intro e h; cases h; exact .inr (.inl rfl)
 | oForm => intro e h; cases h; exact .inr (.inl rfl)
end Pa
end Go.Proofs.YtjdabjpjafkogaaDoor
namespace Go.Proofs.YtjdabjpjafkogaaDoor
namespace Sy
open Pa
abbrev Cmd := Int × Ex × List (Int × Ex)
abbrev Mdl := List Str × List (Int × Int) × List Int × List Str × List Cmd
abbrev Err := Int × Int
noncomputable def readE (names : List Str) (ts : List Tok) : Out :=
 open Classical in if h : ∃ r, P names (.line 1) 0 ts r then Classical.choose h else .error (2, 0)
theorem readE_eq {names : List Str} {ts : List Tok} {r : Out} (h : P names (.line 1) 0 ts r) : readE names ts = r := by
 unfold readE
 rw [dif_pos ⟨r, h⟩]
 exact (Classical.choose_spec (⟨r, h⟩ : ∃ r, P names (.line 1) 0 ts r)).det h
theorem readE_ok {names : List Str} {ts : List Tok} {p : Ex × List Tok} (h : readE names ts = .ok p) : P names (.line 1) 0 ts (.ok p) := by
 unfold readE at h
 split at h
 ·rename_i hx
  have := Classical.choose_spec hx
  rw [h] at this; exact this
 ·cases h
def isT (k : Int) (x : Str) (t : Tok) : Bool := (t.1 == k) && (t.2.1 == x)
def headP : List Tok → Int
 | [] => 0
 | t :: _ => t.2.2.2
def isH (k : Int) (x : Str) : List Tok → Bool
 | [] => false
 | t :: _ => isT k x t
def sSign (x : Str) (ts : List Tok) : Except Err (List Tok) := match ts with
 | [] => .error (2, 0)
 | t :: r => bif isT 3 x t then .ok r else .error (2, t.2.2.2)
def sName (full : Bool) (names procs : List Str) (ts : List Tok) : Except Err (Str × List Tok) := match ts with
 | [] => .error (2, 0)
 | t :: r => bif t.1 != 1 then .error (2, t.2.2.2) else bif key t.2.1 || names.contains t.2.1 || procs.contains t.2.1 then .error (3, t.2.2.2) else bif full then .error (9, t.2.2.2) else .ok (t.2.1, r)
def sNum1 (neg : Bool) (ts : List Tok) : Except Err (Int × List Tok) := match ts with
 | [] => .error (2, 0)
 | t :: r => bif t.1 != 2 then .error (2, t.2.2.2) else .ok (bif neg then IntKind.i64.wrap (0 - t.2.2.1) else t.2.2.1, r)
def sNum (ts : List Tok) : Except Err (Int × List Tok) := bif isH 3 [45] ts then sNum1 true ts.tail else sNum1 false ts
def rightB (lo hi : Int) : Bool := !(decide (hi < lo)) && !(decide (lo < -1073741824)) && !(decide (1073741824 < hi)) && !(decide (65535 < IntKind.i64.wrap (hi - lo)))
def sVar (m : Mdl) (ts : List Tok) : Except Err (Mdl × List Tok) :=
 match sName (decide (16 ≤ (m.1.length : Int))) m.1 m.2.2.2.1 ts with
 | .error e => .error e
 | .ok (name, ts1) => match sNum ts1 with
  | .error e => .error e
  | .ok (lo, ts2) => match sNum ts2 with
   | .error e => .error e
   | .ok (hi, ts3) => match sNum ts3 with
    | .error e => .error e
    | .ok (first, ts4) => match sSign [59] ts4 with
     | .error e => .error e
     | .ok ts5 => bif !(rightB lo hi) || decide (first < lo) || decide (hi < first) then .error (5, headP ts1) else .ok ((m.1 ++ [name], m.2.1 ++ [(lo, hi)], m.2.2.1 ++ [first], m.2.2.2.1, m.2.2.2.2), ts5)
noncomputable def sExpr (want : Int) (names : List Str) (ts : List Tok) : Except Err (Ex × List Tok) :=
 match readE names ts with
 | .error e => .error e
 | .ok (x, r) => bif (rt x).2.1 != 0 then .error ((rt x).2.1, (rt x).2.2) else bif (rt x).1 != want then .error (4, x.at_) else .ok (x, r)
def idxI (names : List Str) (v : Str) : Int := match at_ names v with
 | some i => (i : Int)
 | none => -1
def twice (acc : List (Int × Ex)) (i : Int) : Bool := acc.any (fun s => s.1 == i)
noncomputable def sSets (names : List Str) : Nat → List (Int × Ex) → List Tok → Except Err (List (Int × Ex) × List Tok)
 | 0, _, _ => .error (2, 0)
 | f + 1, acc, ts => match ts with
  | [] => .error (2, 0)
  | t :: r => bif t.1 != 1 then .error (2, t.2.2.2) else bif decide (idxI names t.2.1 < 0) || twice acc (idxI names t.2.1) then .error (3, t.2.2.2) else
   match sSign [61] r with
   | .error e => .error e
   | .ok r1 => match sExpr 1 names r1 with
    | .error e => .error e
    | .ok (x, r2) => bif isH 3 [44] r2 then sSets names f (acc ++ [(idxI names t.2.1, x)]) r2.tail else .ok (acc ++ [(idxI names t.2.1, x)], r2)
noncomputable def sCmd (m : Mdl) (ts : List Tok) : Except Err (Mdl × List Tok) :=
 bif decide (256 ≤ (m.2.2.2.2.length : Int)) then .error (9, headP ts) else
 match sExpr 2 m.1 ts with
 | .error e => .error e
 | .ok (g, r1) => match sSign [58] r1 with
  | .error e => .error e
  | .ok r2 => match sSets m.1 (r2.length + 1) [] r2 with
   | .error e => .error e
   | .ok (sets, r3) => match sSign [59] r3 with
    | .error e => .error e
    | .ok r4 => .ok ((m.1, m.2.1, m.2.2.1, m.2.2.2.1, m.2.2.2.2 ++ [(IntKind.i64.wrap ((m.2.2.2.1.length : Int) - 1), g, sets)]), r4)
noncomputable def sCmds : Nat → Mdl → List Tok → Except Err (Mdl × List Tok)
 | 0, _, _ => .error (2, 0)
 | f + 1, m, ts => bif isH 3 [125] ts then .ok (m, ts.tail) else match sCmd m ts with
  | .error e => .error e
  | .ok (m', r) => sCmds f m' r
noncomputable def sProc (m : Mdl) (ts : List Tok) : Except Err (Mdl × List Tok) :=
 match sName false m.1 m.2.2.2.1 ts with
 | .error e => .error e
 | .ok (name, r1) => match sSign [123] r1 with
  | .error e => .error e
  | .ok r2 => sCmds (r2.length + 1) (m.1, m.2.1, m.2.2.1, m.2.2.2.1 ++ [name], m.2.2.2.2) r2
noncomputable def sItems : Nat → Mdl → List Tok → Except Err Mdl
 | 0, _, _ => .error (2, 0)
 | f + 1, m, ts => match ts with
  | [] => .error (2, 0)
  | t :: r => bif t.1 == 4 then (bif m.1.isEmpty then .error (2, t.2.2.2) else .ok m)
   else bif isT 1 [118, 97, 114] t then (match sVar m r with
    | .error e => .error e
    | .ok (m', r') => sItems f m' r')
   else bif isT 1 [112, 114, 111, 99] t then (match sProc m r with
    | .error e => .error e
    | .ok (m', r') => sItems f m' r')
   else .error (2, t.2.2.2)
noncomputable def sys (l : List Tok) : Except Err Mdl := sItems (l.length + 1) ([], [], [], [], []) l
def outS : Except Err Mdl → Mdl × Int × Int
 | .ok m => (m, 0, 0)
 | .error e => (([], [], [], [], []), e.1, e.2)
/-! what is read is shorter, and ends as it ended -/
def Shorter (ts ts' : List Tok) : Prop := Pa.Ends ts' ∧ ts'.length < ts.length
theorem isT_ne {k : Int} {x : Str} {t : Tok} (h : isT k x t = true) (hk : k ≠ 4) : t.1 ≠ 4 := by
 unfold isT at h
 simp only [Bool.and_eq_true, beq_iff_eq] at h
 omega
theorem sSign_ok {x : Str} {ts r : List Tok} (he : Pa.Ends ts) (h : sSign x ts = .ok r) : Shorter ts r := by
 obtain ⟨t, ts', rfl⟩ := he.ne
 simp only [sSign] at h
 cases hc : isT 3 x t
 ·rw [hc] at h; cases h
 ·rw [hc] at h; cases h
  exact ⟨he.tail (isT_ne hc (by decide)), Nat.lt_succ_self _⟩
theorem sName_ok {full : Bool} {names procs : List Str} {ts : List Tok} {p : Str × List Tok} (he : Pa.Ends ts) (h : sName full names procs ts = .ok p) :
  Shorter ts p.2 ∧ key p.1 = false ∧ names.contains p.1 = false ∧ procs.contains p.1 = false ∧ full = false := by
 obtain ⟨t, ts', rfl⟩ := he.ne
 simp only [sName] at h
 cases h1 : (t.1 != 1)
 ·rw [h1] at h
  simp only [cond_false] at h
  cases h2 : (key t.2.1 || names.contains t.2.1 || procs.contains t.2.1)
  ·rw [h2] at h
   simp only [cond_false] at h
   cases full
   ·cases h
    simp only [Bool.or_eq_false_iff] at h2
    have : t.1 = 1 := by simpa using h1
    exact ⟨⟨he.tail (by omega), Nat.lt_succ_self _⟩, h2.1.1, h2.1.2, h2.2, rfl⟩
   ·cases h
  ·rw [h2] at h; cases h
 ·rw [h1] at h; cases h
theorem sNum1_ok {neg : Bool} {ts : List Tok} {p : Int × List Tok} (he : Pa.Ends ts) (h : sNum1 neg ts = .ok p) : Shorter ts p.2 := by
 obtain ⟨t, ts', rfl⟩ := he.ne
 simp only [sNum1] at h
 cases h1 : (t.1 != 2)
 ·rw [h1] at h
  cases h
  have : t.1 = 2 := by simpa using h1
  exact ⟨he.tail (by omega), Nat.lt_succ_self _⟩
 ·rw [h1] at h; cases h
theorem isH_ends {k : Int} {x : Str} {ts : List Tok} (he : Pa.Ends ts) (hk : k ≠ 4) (h : isH k x ts = true) : Pa.Ends ts.tail ∧ ts.tail.length + 1 = ts.length := by
 obtain ⟨t, ts', rfl⟩ := he.ne
 exact ⟨he.tail (isT_ne h hk), rfl⟩
theorem sNum_ok {ts : List Tok} {p : Int × List Tok} (he : Pa.Ends ts) (h : sNum ts = .ok p) : Shorter ts p.2 := by
 unfold sNum at h
 cases hc : isH 3 [45] ts
 ·rw [hc] at h; exact sNum1_ok he h
 ·rw [hc] at h
  obtain ⟨h1, h2⟩ := isH_ends he (by decide) hc
  obtain ⟨h3, h4⟩ := sNum1_ok h1 h
  exact ⟨h3, by omega⟩
theorem sExpr_ok {want : Int} {names : List Str} {ts : List Tok} {p : Ex × List Tok} (he : Pa.Ends ts) (h : sExpr want names ts = .ok p) :
  Shorter ts p.2 ∧ P names (.line 1) 0 ts (.ok p) ∧ (rt p.1).2.1 = 0 ∧ (rt p.1).1 = want := by
 unfold sExpr at h
 cases hr : readE names ts with
 | error e => rw [hr] at h; cases h
 | ok q =>
  obtain ⟨x, r⟩ := q
  rw [hr] at h
  simp only at h
  cases h1 : ((rt x).2.1 != 0)
  ·rw [h1] at h
   simp only [cond_false] at h
   cases h2 : ((rt x).1 != want)
   ·rw [h2] at h
    cases h
    have hp := readE_ok hr
    exact ⟨hp.ends he _ rfl, hp, by simpa using h1, by simpa using h2⟩
   ·rw [h2] at h; cases h
  ·rw [h1] at h; cases h
theorem Shorter.trans {a b c : List Tok} (h : Shorter a b) (k : Shorter b c) : Shorter a c := ⟨k.1, Nat.lt_trans k.2 h.2⟩
theorem sSets_ok {names : List Str} : ∀ (f : Nat) (acc : List (Int × Ex)) (ts : List Tok) (p : List (Int × Ex) × List Tok), Pa.Ends ts → sSets names f acc ts = .ok p → Shorter ts p.2 := by
 intro f
 induction f with
 | zero => intro _ _ _ _ h; simp [sSets] at h
 | succ f ih =>
  intro acc ts p he h
  obtain ⟨t, r, rfl⟩ := he.ne
  simp only [sSets] at h
  cases h1 : (t.1 != 1)
  case true => rw [h1] at h; cases h
  rw [h1] at h
  simp only [cond_false] at h
  cases h2 : (decide (idxI names t.2.1 < 0) || twice acc (idxI names t.2.1))
  case true => rw [h2] at h; cases h
  rw [h2] at h
  simp only [cond_false] at h
  have ht : t.1 = 1 := by simpa using h1
  have he1 := he.tail (by omega)
  cases h3 : sSign [61] r with
  | error e => rw [h3] at h; cases h
  | ok r1 =>
   rw [h3] at h
   simp only at h
   have s1 := sSign_ok he1 h3
   cases h4 : sExpr 1 names r1 with
   | error e => rw [h4] at h; cases h
   | ok q =>
    obtain ⟨x, r2⟩ := q
    rw [h4] at h
    simp only at h
    have s2 : Shorter r1 r2 := (sExpr_ok s1.1 h4).1
    have s12 : Shorter (t :: r) r2 := ⟨s2.1, by have := s1.2; have := s2.2; simp only [List.length_cons]; omega⟩
    cases h5 : isH 3 [44] r2
    ·rw [h5] at h
     cases h
     exact s12
    ·rw [h5] at h
     simp only [cond_true] at h
     obtain ⟨e1, e2⟩ := isH_ends s2.1 (by decide) h5
     have := ih _ _ _ e1 h
     exact ⟨this.1, by have := this.2; have := s12.2; omega⟩
theorem sVar_ok {m : Mdl} {ts : List Tok} {p : Mdl × List Tok} (he : Pa.Ends ts) (h : sVar m ts = .ok p) : Shorter ts p.2 ∧
  ∃ name lo hi first, p.1 = (m.1 ++ [name], m.2.1 ++ [(lo, hi)], m.2.2.1 ++ [first], m.2.2.2.1, m.2.2.2.2) ∧ rightB lo hi = true ∧ lo ≤ first ∧ first ≤ hi ∧ m.1.length < 16 ∧ m.1.contains name = false := by
 unfold sVar at h
 cases h1 : sName (decide (16 ≤ (m.1.length : Int))) m.1 m.2.2.2.1 ts with
 | error e => rw [h1] at h; cases h
 | ok q1 =>
  obtain ⟨name, ts1⟩ := q1
  rw [h1] at h
  simp only at h
  obtain ⟨s1, _, hnm, _, hfull⟩ := sName_ok he h1
  cases h2 : sNum ts1 with
  | error e => rw [h2] at h; cases h
  | ok q2 =>
   obtain ⟨lo, ts2⟩ := q2
   rw [h2] at h
   simp only at h
   have s2 := sNum_ok s1.1 h2
   cases h3 : sNum ts2 with
   | error e => rw [h3] at h; cases h
   | ok q3 =>
    obtain ⟨hi, ts3⟩ := q3
    rw [h3] at h
    simp only at h
    have s3 := sNum_ok s2.1 h3
    cases h4 : sNum ts3 with
    | error e => rw [h4] at h; cases h
    | ok q4 =>
     obtain ⟨first, ts4⟩ := q4
     rw [h4] at h
     simp only at h
     have s4 := sNum_ok s3.1 h4
     cases h5 : sSign [59] ts4 with
     | error e => rw [h5] at h; cases h
     | ok ts5 =>
      rw [h5] at h
      simp only at h
      have s5 := sSign_ok s4.1 h5
      cases h6 : (!(rightB lo hi) || decide (first < lo) || decide (hi < first))
      ·rw [h6] at h
       cases h
       simp only [Bool.or_eq_false_iff, decide_eq_false_iff_not, Bool.not_eq_false'] at h6
       simp only [decide_eq_false_iff_not] at hfull
       exact ⟨(((s1.trans s2).trans s3).trans s4).trans s5, name, lo, hi, first, rfl, h6.1.1, by omega, by omega, by omega, hnm⟩
      ·rw [h6] at h; cases h
theorem sCmd_ok {m : Mdl} {ts : List Tok} {p : Mdl × List Tok} (he : Pa.Ends ts) (h : sCmd m ts = .ok p) : Shorter ts p.2 ∧
  ∃ g r1 r2 sets r3, m.2.2.2.2.length < 256 ∧ sExpr 2 m.1 ts = .ok (g, r1) ∧ Pa.Ends r2 ∧ sSets m.1 (r2.length + 1) [] r2 = .ok (sets, r3) ∧
   p.1 = (m.1, m.2.1, m.2.2.1, m.2.2.2.1, m.2.2.2.2 ++ [(IntKind.i64.wrap ((m.2.2.2.1.length : Int) - 1), g, sets)]) ∧ sSign [58] r1 = .ok r2 ∧ sSign [59] r3 = .ok p.2 := by
 unfold sCmd at h
 cases h0 : decide (256 ≤ (m.2.2.2.2.length : Int))
 case true => rw [h0] at h; cases h
 rw [h0] at h
 simp only [cond_false] at h
 simp only [decide_eq_false_iff_not] at h0
 cases h1 : sExpr 2 m.1 ts with
 | error e => rw [h1] at h; cases h
 | ok q1 =>
  obtain ⟨g, r1⟩ := q1
  rw [h1] at h
  simp only at h
  have s1 := (sExpr_ok he h1).1
  cases h2 : sSign [58] r1 with
  | error e => rw [h2] at h; cases h
  | ok r2 =>
   rw [h2] at h
   simp only at h
   have s2 := sSign_ok s1.1 h2
   cases h3 : sSets m.1 (r2.length + 1) [] r2 with
   | error e => rw [h3] at h; cases h
   | ok q3 =>
    obtain ⟨sets, r3⟩ := q3
    rw [h3] at h
    simp only at h
    have s3 := sSets_ok _ _ _ _ s2.1 h3
    cases h4 : sSign [59] r3 with
    | error e => rw [h4] at h; cases h
    | ok r4 =>
     rw [h4] at h
     cases h
     have s4 := sSign_ok s3.1 h4
     exact ⟨((s1.trans s2).trans s3).trans s4, g, r1, r2, sets, r3, by omega, rfl, s2.1, h3, rfl, h2, h4⟩
end Sy
end Go.Proofs.YtjdabjpjafkogaaDoor
