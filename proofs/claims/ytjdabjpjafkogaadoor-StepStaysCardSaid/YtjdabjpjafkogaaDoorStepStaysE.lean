/-
  Own texts for the statement StepStays, cut down to what it needs: Walk16, Walk17, Walk25. (cut and joined by a program)
-/
import Derived.Test.YtjdabjpjafkogaaDoorStepStaysA
import Derived.Test.YtjdabjpjafkogaaDoorStepStaysB
import Derived.Test.YtjdabjpjafkogaaDoorStepStaysC
import Derived.Test.YtjdabjpjafkogaaDoorStepStaysD
namespace Go.Proofs.YtjdabjpjafkogaaDoor
open Go.Proofs
set_option maxRecDepth 100000 in
set_option maxHeartbeats 4000000 in
theorem step_fired_c1_ok {τ : Type} {J : Nat × τ → List Nat → Item} {l : Nat} {k_yield : Nat × τ → (List Int) → Int → Option (Nat × τ)} (ih_yield : ∀ {Φ : Ctx} {w : World} {y : Nat × τ} {R : List Nat} {a27 : (List Int)} {a29 : Int} {v28 : SLV} {r : Nat × τ}, Sat (J y R :: imm (RSl (RI .i64)) [sl v28] a27 :: Φ) w → k_yield y a27 a29 = some r → Yld Tryd.prog l [(sl v28), (.int .i64 a29)] w (fun u w' => u = .bool (Nat.beq r.1 0) ∧ ∃ R' : List Nat, Sat (J r R' :: Φ) w')) {Φ : Ctx} {w : World} {y : (Nat × τ)} {Names : (List Str)} {Schema : (List (Int × Int))} {Init : (List Int)} {Procs : (List Str)} {Cmd : (List (Int × Ex × (List (Int × Ex))))} {x : (List Int)} {R : List Nat} {b : Nat} {b3 : Nat} {v5 : SLV} {v7 : SLV} {v9 : SLV} {v11 : SLV} {v13 : SLV} {v15 : SLV} {r : (Nat × τ)} (hs : Sat (J y R :: box b 28 [(sl v5), (sl v7), (sl v9), (sl v11), (sl v13)] :: box b3 22 [(sl v15)] :: imm (RSl RS) [sl v5] Names :: imm (RSl (RP (RI .i64) (RI .i64))) [sl v7] Schema :: imm (RSl (RI .i64)) [sl v9] Init :: imm (RSl RS) [sl v11] Procs :: imm (RSl (RP (RI .i64) (RP RExpr (RSl (RP (RI .i64) RExpr))))) [sl v13] Cmd :: imm (RSl (RI .i64)) [sl v15] x :: Φ) w) (hm : step_fired_c1 k_yield y Names Schema Init Procs Cmd x = some r) :
  CallsR Tryd.prog 45 [(.func (.yield l) #[] #[]), (.pointer (some ⟨b, 0, none⟩)), (.pointer (some ⟨b3, 0, none⟩))] w (fun v w' => ∃ R3 : List Nat, v = (.tuple #[]) ∧ Sat (J r R3 :: box b 28 [(sl v5), (sl v7), (sl v9), (sl v11), (sl v13)] :: imm (RSl RS) [sl v5] Names :: imm (RSl (RP (RI .i64) (RI .i64))) [sl v7] Schema :: imm (RSl (RI .i64)) [sl v9] Init :: imm (RSl RS) [sl v11] Procs :: imm (RSl (RP (RI .i64) (RP RExpr (RSl (RP (RI .i64) RExpr))))) [sl v13] Cmd :: box b3 22 [(sl v15)] :: imm (RSl (RI .i64)) [sl v15] x :: Φ) w') := by
 refine CallsX_enter Tryd.func45 rfl Tryd.ntmps45 rfl ?_
 unfold step_fired_c1 at hm
 refine WC_seq <| WC_region ?_
 refine Wo (Run_loadA (vs := [(sl v5), (sl v7), (sl v9), (sl v11), (sl v13)]) Tryd.underlying28 rfl ti28 (O rfl) (fun _ => (hs.box (i := 1) rfl).part 0 rfl) rfl) rfl <| Wo (Run_load1 (v := (sl v15)) Tryd.underlying22 rfl (O rfl) (fun _ => (hs.box (i := 2) rfl).part 0 rfl)) rfl <| ?_
 obtain ⟨r4, hr5, hm⟩ := bind_some' hm
 refine WL_call (f := 17) (first := []) (cap := []) (xs := [(.tmp 6), (.tmp 7)]) (vs := [(.agg #[(sl v5), (sl v7), (sl v9), (sl v11), (sl v13)]), (sl v15)]) (args := [(.agg #[(sl v5), (sl v7), (sl v9), (sl v11), (sl v13)]), (sl v15)]) Tryd.call17 Opd.f (.cons (O rfl) (.cons (O rfl) .nil)) rfl rfl (step_Enabled_ok (m := (Names, Schema, Init, Procs, Cmd)) (hs.re 9 [3, 4, 5, 6, 7, 8, 0, 1, 2, 3, 4, 5, 6, 7, 8] rfl) hr5) ?_
 rintro _ w8 ⟨v6, R7, rfl, hs⟩
 replace hs := Sat.n10 (Γ := Φ) hs rfl
 refine Wo (Run_lenSlG Tryd.underlying22 (O rfl) (fun _ => (hs.own (i := 0) rfl).len)) rfl <| Wo (Run_move Opd.c) rfl <| ?_
 refine WL_nil <| At_then ?_
 refine WC_block ?_
 refine WC_loop (σ := (Nat × τ) × Int) (γ := List Nat) (F := (step_fired_c1_L1 k_yield Names Schema Init Procs Cmd x r4)) (N := FUEL) (s0 := (y, 0)) (r := r) (fun ⟨y10, t12⟩ R11 w9 => Sat (J y10 R11 :: box b 28 [(sl v5), (sl v7), (sl v9), (sl v11), (sl v13)] :: imm (RSl RS) [sl v5] Names :: imm (RSl (RP (RI .i64) (RI .i64))) [sl v7] Schema :: imm (RSl (RI .i64)) [sl v9] Init :: imm (RSl RS) [sl v11] Procs :: imm (RSl (RP (RI .i64) (RP RExpr (RSl (RP (RI .i64) RExpr))))) [sl v13] Cmd :: box b3 22 [(sl v15)] :: imm (RSl (RI .i64)) [sl v15] x :: osl (RI .i64) 3 (sl v6) r4 R7 :: Φ) w9) (fun ⟨y10, t12⟩ R11 => [(0, true, (.func (.yield l) #[] #[])), (1, true, (.pointer (some ⟨b, 0, none⟩))), (2, true, (.pointer (some ⟨b3, 0, none⟩))), (8, true, (sl v6)), (9, true, (.int .i64 (List.length r4 : Int))), (10, true, (.int .i64 t12))]) hm R (hs.re 10 [1, 2, 4, 5, 6, 7, 8, 3, 9, 0] rfl) rfl ?_
 rintro again13 ⟨y10, t12⟩ R11 w9 hm hs
 unfold step_fired_c1_L1 at hm
 dsimp only at hm
 refine WC_seq <| WC_region ?_
 refine Wo (Run_ltI (O rfl) (O rfl)) rfl <| ?_
 refine WL_nil <| At_then <| WC_seq ?_
 refine WC_cond (O rfl) (fun hc14 => ?_) (fun hc14 => ?_)
 ·
  replace hm := bif_t hc14 hm
  refine WC_skip ?_
  refine At_then <| WC_seq ?_
  refine WC_block ?_
  refine WC_seq <| WC_region ?_
  obtain ⟨e15, he16, hm⟩ := bind_some' hm
  refine Wo (Run_idxAddr (p := (elA (sl v6) t12 1)) Tryd.underlying22 ti3 (O rfl) (O rfl) (fun hg => (Own.atA (A := (RI .i64)) (v := (sl v6)) (hs.own (i := 9) rfl) he16).1)) rfl <| Wo (Run_load1 (v := (.int .i64 e15)) Tryd.underlying3 rfl (O rfl) (fun hg => (Own.cellsF (A := (RI .i64)) (v := (sl v6)) (hs.own (i := 9) rfl) he16 (fun _ h => openT3 h)).sub 0 rfl)) rfl <| Wo (Run_assign (O rfl)) rfl <| ?_
  refine WL_nil <| At_then <| WC_seq <| WC_region ?_
  refine Wo (Run_move (O rfl)) rfl <| Wo (Run_loadA (vs := [(sl v5), (sl v7), (sl v9), (sl v11), (sl v13)]) Tryd.underlying28 rfl ti28 (O rfl) (fun _ => (hs.box (i := 1) rfl).part 0 rfl) rfl) rfl <| Wo (Run_load1 (v := (sl v15)) Tryd.underlying22 rfl (O rfl) (fun _ => (hs.box (i := 7) rfl).part 0 rfl)) rfl <| Wo (Run_move (O rfl)) rfl <| ?_
  obtain ⟨r17, hr18, hm⟩ := bind_some' hm
  refine WL_call (f := 12) (first := []) (cap := []) (xs := [(.tmp 15), (.tmp 16), (.tmp 17)]) (vs := [(.agg #[(sl v5), (sl v7), (sl v9), (sl v11), (sl v13)]), (sl v15), (.int .i64 e15)]) (args := [(.agg #[(sl v5), (sl v7), (sl v9), (sl v11), (sl v13)]), (sl v15), (.int .i64 e15)]) Tryd.call12 Opd.f (.cons (O rfl) (.cons (O rfl) (.cons (O rfl) .nil))) rfl rfl (step_Fire_ok (m := (Names, Schema, Init, Procs, Cmd)) (hs.re 10 [2, 3, 4, 5, 6, 8, 0, 1, 2, 3, 4, 5, 6, 7, 8, 9] rfl) hr18) ?_
  rintro _ w21 ⟨v19, R20, rfl, hs⟩
  replace hs := Sat.n11 (Γ := Φ) hs rfl
  refine Wo (Run_extract (vs := [(sl v19), (.int .i64 r17.2)]) (O rfl) rfl) rfl <| Wo (Run_extract (vs := [(sl v19), (.int .i64 r17.2)]) (O rfl) rfl) rfl <| ?_
  replace hs := hs.freeze (i := 0) rfl
  obtain ⟨r22, hr23, hm⟩ := bind_some' hm
  refine WL_yield (l := l) (xs := [(.tmp 19), (.tmp 20)]) (vs := [(sl v19), (.int .i64 r17.2)]) (O rfl) (.cons (O rfl) (.cons (O rfl) .nil)) rfl (ih_yield (hs.re 11 [1, 0, 0, 2, 3, 4, 5, 6, 7, 8, 9, 10] rfl) hr23) ?_
  rintro _ w24 ⟨rfl, R25, hs⟩
  replace hs := Sat.n11 (Γ := Φ) hs rfl
  refine Wo (Run_notB (O rfl)) rfl <| ?_
  refine WL_nil <| At_then ?_
  refine WC_cond (O rfl) (fun hc26 => ?_) (fun hc26 => ?_)
  ·
   replace hm := bif_t hc26 hm
   refine WC_ret ?_
   refine At_blk_ret <| At_then_ret <| At_then_ret <| At_blk_ret <| ?_
   refine At_r0 rfl  ?_
   cases hm
   exact ⟨R25, rfl, (hs.re 11 [0, 2, 3, 4, 5, 6, 7, 8, 9] rfl)⟩
  ·
   replace hm := bif_f hc26 hm
   refine WC_skip ?_
   refine At_blk_normal ?_
   refine At_then <| WC_region ?_
   refine Wo (Run_add (O rfl) Opd.c) rfl <| Wo (Run_move (O rfl)) rfl <| ?_
   refine WL_nil ?_
   exact At_again (r22, (IntKind.i64.wrap (t12 + 1))) R25 hm (hs.re 11 [0, 2, 3, 4, 5, 6, 7, 8, 9, 10] rfl) rfl
 ·
  replace hm := bif_f hc14 hm
  refine WC_exit ?_
  refine At_then_exit <| At_then_exit <| At_blk_here <| ?_
  refine At_e0 rfl  ?_
  cases hm
  exact ⟨R11, rfl, (hs.re 10 [0, 1, 2, 3, 4, 5, 6, 7, 8] rfl)⟩
set_option maxRecDepth 100000 in
set_option maxHeartbeats 4000000 in
theorem step_Next_ok {Φ : Ctx} {w : World} {m : ((List Str) × (List (Int × Int)) × (List Int) × (List Str) × (List (Int × Ex × (List (Int × Ex)))))} {v11 : (List Int)} {v1 : SLV} {v3 : SLV} {v5 : SLV} {v7 : SLV} {v9 : SLV} {v12 : SLV} {r : ((List (List Int)) × Int)} (hs : Sat (imm (RSl RS) [sl v1] m.1 :: imm (RSl (RP (RI .i64) (RI .i64))) [sl v3] m.2.1 :: imm (RSl (RI .i64)) [sl v5] m.2.2.1 :: imm (RSl RS) [sl v7] m.2.2.2.1 :: imm (RSl (RP (RI .i64) (RP RExpr (RSl (RP (RI .i64) RExpr))))) [sl v9] m.2.2.2.2 :: imm (RSl (RI .i64)) [sl v12] v11 :: gl 0 (pow10L.map (Value.int .u64)) :: Φ) w) (hm : step_Next m v11 = some r) :
  CallsR Tryd.prog 14 [(.agg #[(sl v1), (sl v3), (sl v5), (sl v7), (sl v9)]), (sl v12)] w (fun v w' => ∃ v4 : SLV, ∃ R5 : List Nat, v = (.tuple #[(sl v4), (.int .i64 r.2)]) ∧ Sat (osl (RSl (RI .i64)) 22 (sl v4) r.1 R5 :: Φ) w') := by
 refine CallsX_enter Tryd.func14 rfl Tryd.ntmps14 rfl ?_
 unfold step_Next at hm
 refine WC_seq <| WC_region ?_
 refine WS_box (zs := [(sl v1), (sl v3), (sl v5), (sl v7), (sl v9)]) hs (O rfl) rfl rfl ?_
 intro b7 w8 hs
 replace hs := Sat.n8 (Γ := Φ) hs rfl
 refine WS_alloc (zs := [(sl (none, 0, 0))]) hs ti37 rfl rfl ?_
 intro b9 w10 hs
 replace hs := Sat.n9 (Γ := Φ) hs rfl
 refine WS_alloc (zs := [(.int .i64 0)]) hs ti32 rfl rfl ?_
 intro b11 w12 hs
 replace hs := Sat.n10 (Γ := Φ) hs rfl
 refine WL_nil <| At_then <| WC_seq <| WC_region ?_
 refine WS_alloc (zs := [(sl (none, 0, 0)), (.map none)]) hs ti75 rfl rfl ?_
 intro b13 w14 hs
 replace hs := Sat.n11 (Γ := Φ) hs rfl
 refine WL_nil <| At_then <| WC_seq <| WC_seq <| WC_region ?_
 refine Wo (Run_loadA (vs := [(sl v1), (sl v3), (sl v5), (sl v7), (sl v9)]) Tryd.underlying28 rfl ti28 (O rfl) (fun _ => (hs.box (i := 3) rfl).part 0 rfl) rfl) rfl <| Wo (Run_move (O rfl)) rfl <| ?_
 obtain ⟨r15, hr16, hm⟩ := bind_some' hm
 refine WL_call (f := 30) (first := []) (cap := []) (xs := [(.tmp 9), (.tmp 10)]) (vs := [(.agg #[(sl v1), (sl v3), (sl v5), (sl v7), (sl v9)]), (sl v12)]) (args := [(.agg #[(sl v1), (sl v3), (sl v5), (sl v7), (sl v9)]), (sl v12)]) Tryd.call30 Opd.f (.cons (O rfl) (.cons (O rfl) .nil)) rfl rfl (step_fired_ok (hs.re 11 [4, 5, 6, 7, 8, 9, 0, 1, 2, 3, 4, 5, 6, 7, 8, 9, 10] rfl) hr16) ?_
 rintro _ w19 ⟨v17, v18, rfl, hs⟩
 replace hs := Sat.n19 (Γ := Φ) hs rfl
 refine WL_nil <| At_then ?_
 refine WC_block ?_
 replace hs := hs.addDfrs
 replace hs := hs.re 20 [0, 1, 2, 3, 4, 5, 6, 7, 8, 9, 10, 11, 12, 13, 14, 15, 16, 17, 18, 19] rfl
 refine WC_rangeFunc (first := []) (cap := [(.pointer (some ⟨v17, 0, none⟩)), (.pointer (some ⟨v18, 0, none⟩))]) [] Tryd.call45 (O rfl) hs (fun l27 b28 rec29 w52 hr30 hs => ?_)
 replace hs := Sat.n21 (Γ := Φ) hs rfl
 replace hs := hs.addNil (RSl (RI .i64)) 22
 replace hs := hs.addNilM mk73 mv73
 replace hs : Sat (loopI l27 rec29 .ready none :: imm (RSl (RI .i64)) [sl v12] v11 :: box b9 37 [(sl (none, 0, 0))] :: box b11 32 [(.int .i64 0)] :: box b13 75 [(sl (none, 0, 0)), (.map none)] :: osl (RSl (RI .i64)) 22 (sl (none, 0, 0)) [] [] :: omap mk73 mv73 (.map none) none :: dfrs (b28 :: []) :: gl 0 (pow10L.map (Value.int .u64)) :: box v17 28 [(sl v1), (sl v3), (sl v5), (sl v7), (sl v9)] :: imm (RSl RS) [sl v1] m.1 :: imm (RSl (RP (RI .i64) (RI .i64))) [sl v3] m.2.1 :: imm (RSl (RI .i64)) [sl v5] m.2.2.1 :: imm (RSl RS) [sl v7] m.2.2.2.1 :: imm (RSl (RP (RI .i64) (RP RExpr (RSl (RP (RI .i64) RExpr))))) [sl v9] m.2.2.2.2 :: box v18 22 [(sl v12)] :: imm (RSl (RI .i64)) [sl v12] v11 :: box b7 28 [(sl v1), (sl v3), (sl v5), (sl v7), (sl v9)] :: imm (RSl RS) [sl v1] m.1 :: imm (RSl (RP (RI .i64) (RI .i64))) [sl v3] m.2.1 :: imm (RSl (RI .i64)) [sl v5] m.2.2.1 :: imm (RSl RS) [sl v7] m.2.2.2.1 :: imm (RSl (RP (RI .i64) (RP RExpr (RSl (RP (RI .i64) RExpr))))) [sl v9] m.2.2.2.2 :: imm (RSl (RI .i64)) [sl v12] v11 :: gl 0 (pow10L.map (Value.int .u64)) :: Φ) w52 := hs.re 23 [2, 21, 14, 13, 12, 1, 0, 3, 22, 4, 5, 6, 7, 8, 9, 10, 11, 15, 16, 17, 18, 19, 20, 21, 22] rfl
 obtain ⟨R53, hs⟩ := Sat.pack ((fun (y : Nat × (Int × (List (List Int)) × (Option (List (Str × Bool))))) (g : (SLV × List Nat × Option Nat)) => [loopI l27 rec29 (stOf y.1) (jmpOf [.ret] y.1), imm (RSl (RI .i64)) [sl v12] v11, box b9 37 [(sl (none, 0, 0))], box b11 32 [(.int .i64 y.2.1)], box b13 75 [(sl g.1), (.map g.2.2)], osl (RSl (RI .i64)) 22 (sl g.1) y.2.2.1 g.2.1, omap mk73 mv73 (.map g.2.2) y.2.2.2, dfrs (b28 :: []), gl 0 (pow10L.map (Value.int .u64))]) (0, (0, [], none))) ((none, 0, 0), [], none) (box v17 28 [(sl v1), (sl v3), (sl v5), (sl v7), (sl v9)] :: imm (RSl RS) [sl v1] m.1 :: imm (RSl (RP (RI .i64) (RI .i64))) [sl v3] m.2.1 :: imm (RSl (RI .i64)) [sl v5] m.2.2.1 :: imm (RSl RS) [sl v7] m.2.2.2.1 :: imm (RSl (RP (RI .i64) (RP RExpr (RSl (RP (RI .i64) RExpr))))) [sl v9] m.2.2.2.2 :: box v18 22 [(sl v12)] :: imm (RSl (RI .i64)) [sl v12] v11 :: box b7 28 [(sl v1), (sl v3), (sl v5), (sl v7), (sl v9)] :: imm (RSl RS) [sl v1] m.1 :: imm (RSl (RP (RI .i64) (RI .i64))) [sl v3] m.2.1 :: imm (RSl (RI .i64)) [sl v5] m.2.2.1 :: imm (RSl RS) [sl v7] m.2.2.2.1 :: imm (RSl (RP (RI .i64) (RP RExpr (RSl (RP (RI .i64) RExpr))))) [sl v9] m.2.2.2.2 :: imm (RSl (RI .i64)) [sl v12] v11 :: gl 0 (pow10L.map (Value.int .u64)) :: Φ) hs
 obtain ⟨r54, hr55, hm⟩ := bind_some' hm
 refine CallsR.mono (step_fired_c1_ok (τ := (Int × (List (List Int)) × (Option (List (Str × Bool))))) (J := (fun y R => pack ((fun (y : Nat × (Int × (List (List Int)) × (Option (List (Str × Bool))))) (g : (SLV × List Nat × Option Nat)) => [loopI l27 rec29 (stOf y.1) (jmpOf [.ret] y.1), imm (RSl (RI .i64)) [sl v12] v11, box b9 37 [(sl (none, 0, 0))], box b11 32 [(.int .i64 y.2.1)], box b13 75 [(sl g.1), (.map g.2.2)], osl (RSl (RI .i64)) 22 (sl g.1) y.2.2.1 g.2.1, omap mk73 mv73 (.map g.2.2) y.2.2.2, dfrs (b28 :: []), gl 0 (pow10L.map (Value.int .u64))]) y) R)) (l := l27) (k_yield := step_Next_Y1) ?_ (hs.re 17 [0, 1, 7, 2, 3, 4, 5, 6, 8, 2, 3, 4, 5, 6, 8, 9, 10, 11, 12, 13, 14, 15, 16] rfl) hr55) ?_
 ·
  intro Φ w33 y31 R32 a35 a37 v36 r hs hm
  unfold step_Next_Y1 at hm
  obtain ⟨hc34, hm⟩ := chk_some hm
  replace hc34 := Nat.eq_of_beq_eq_true hc34
  obtain ⟨⟨v23, R24, v26⟩, hs⟩ := hs.unpack
  replace hs : Sat (loopI l27 rec29 (stOf y31.1) (jmpOf [.ret] y31.1) :: imm (RSl (RI .i64)) [sl v12] v11 :: box b9 37 [(sl (none, 0, 0))] :: box b11 32 [(.int .i64 y31.2.1)] :: box b13 75 [(sl v23), (.map v26)] :: osl (RSl (RI .i64)) 22 (sl v23) y31.2.2.1 R24 :: omap mk73 mv73 (.map v26) y31.2.2.2 :: dfrs (b28 :: []) :: gl 0 (pow10L.map (Value.int .u64)) :: imm (RSl (RI .i64)) [sl v36] a35 :: Φ) w33 := hs
  rw [hc34] at hs
  replace hs : Sat (loopI l27 rec29 .ready none :: imm (RSl (RI .i64)) [sl v12] v11 :: box b9 37 [(sl (none, 0, 0))] :: box b11 32 [(.int .i64 y31.2.1)] :: box b13 75 [(sl v23), (.map v26)] :: osl (RSl (RI .i64)) 22 (sl v23) y31.2.2.1 R24 :: omap mk73 mv73 (.map v26) y31.2.2.2 :: dfrs (b28 :: []) :: gl 0 (pow10L.map (Value.int .u64)) :: imm (RSl (RI .i64)) [sl v36] a35 :: Φ) w33 := hs
  refine Yld_of (vs := [(sl v36), (.int .i64 a37)]) hr30 hs rfl rfl ?_
  refine WC.sub [(1, true, (sl v12)), (4, true, (.pointer (some ⟨b9, 0, none⟩))), (5, true, (.pointer (some ⟨b11, 0, none⟩))), (6, true, (.pointer (some ⟨b13, 0, none⟩))), (12, true, (sl v36)), (13, true, (.int .i64 a37))] rfl ?_
  refine WC_seq <| WC_region ?_
  refine Wo (Run_assign (O rfl)) rfl <| ?_
  refine WL_nil <| At_then <| WC_region ?_
  refine Wo (Run_assign (O rfl)) rfl <| ?_
  refine WL_nil ?_
  refine At_begin hr30 hs (i := 0) rfl (fun w38 hs => ?_)
  replace hs := Sat.n10 (Γ := Φ) hs rfl
  refine WC_block ?_
  refine WC_seq <| WC_seq <| WC_region ?_
  refine Wo (Run_move (O rfl)) rfl <| Wo (Run_neI (O rfl) Opd.c) rfl <| ?_
  refine WL_nil <| At_then ?_
  refine WC_cond (O rfl) (fun hc39 => ?_) (fun hc39 => ?_)
  ·
   replace hm := bif_t hc39 hm
   refine WC_seq <| WC_region ?_
   refine Wo (Run_move (O rfl)) rfl <| ?_
   refine WS_store (us := [(sl (none, 0, 0))]) (vs' := [(sl (none, 0, 0))]) hs 2 rfl ti37 (O rfl) Opd.c rfl rfl rfl rfl rfl ?_
   intro w40 hs
   replace hs := Sat.n10 (Γ := Φ) hs rfl
   refine WS_store (us := [(.int .i64 a37)]) (vs' := [(.int .i64 a37)]) hs 3 rfl ti32 (O rfl) (O rfl) rfl rfl rfl rfl rfl ?_
   intro w41 hs
   replace hs := Sat.n10 (Γ := Φ) hs rfl
   refine WL_nil <| At_then ?_
   refine WC_ret ?_
   refine At_then_ret <| At_blk_ret <| ?_
   refine At_round_ret hr30 hs (i := 0) rfl (fun w42 hs => ?_)
   cases hm
   replace hs : Sat (loopI l27 rec29 .done (some (.ret)) :: imm (RSl (RI .i64)) [sl v12] v11 :: box b9 37 [(sl (none, 0, 0))] :: box b11 32 [(.int .i64 a37)] :: box b13 75 [(sl v23), (.map v26)] :: osl (RSl (RI .i64)) 22 (sl v23) y31.2.2.1 R24 :: omap mk73 mv73 (.map v26) y31.2.2.2 :: dfrs (b28 :: []) :: gl 0 (pow10L.map (Value.int .u64)) :: Φ) w42 := hs.re 10 [0, 1, 2, 3, 4, 5, 6, 7, 8] rfl
   obtain ⟨R43, hs⟩ := Sat.pack ((fun (y : Nat × (Int × (List (List Int)) × (Option (List (Str × Bool))))) (g : (SLV × List Nat × Option Nat)) => [loopI l27 rec29 (stOf y.1) (jmpOf [.ret] y.1), imm (RSl (RI .i64)) [sl v12] v11, box b9 37 [(sl (none, 0, 0))], box b11 32 [(.int .i64 y.2.1)], box b13 75 [(sl g.1), (.map g.2.2)], osl (RSl (RI .i64)) 22 (sl g.1) y.2.2.1 g.2.1, omap mk73 mv73 (.map g.2.2) y.2.2.2, dfrs (b28 :: []), gl 0 (pow10L.map (Value.int .u64))]) (1, (a37, y31.2.2.1, y31.2.2.2))) (v23, R24, v26) Φ hs
   exact ⟨rfl, R43, hs⟩
  ·
   replace hm := bif_f hc39 hm
   refine WC_skip ?_
   refine At_then <| WC_region ?_
   refine Wo (Run_move (O rfl)) rfl <| ?_
   obtain ⟨r44, hr45, hm⟩ := bind_some' hm
   refine WL_call (f := 31) (first := []) (cap := []) (xs := [(.tmp 6), (.tmp 17)]) (vs := [(.pointer (some ⟨b13, 0, none⟩)), (sl v36)]) (args := [(.pointer (some ⟨b13, 0, none⟩)), (sl v36)]) Tryd.call31 Opd.f (.cons (O rfl) (.cons (O rfl) .nil)) rfl rfl (step_seen_add_ok (hs.re 10 [4, 9, 5, 6, 8, 0, 1, 2, 3, 7, 8, 9] rfl) hr45) ?_
   rintro _ w49 ⟨v46, R47, v48, rfl, hs⟩
   replace hs := Sat.n10 (Γ := Φ) hs rfl
   refine WL_nil ?_
   refine At_blk_normal ?_
   refine At_round hr30 hs (i := 3) rfl (fun w50 hs => ?_)
   cases hm
   replace hs : Sat (loopI l27 rec29 .ready none :: imm (RSl (RI .i64)) [sl v12] v11 :: box b9 37 [(sl (none, 0, 0))] :: box b11 32 [(.int .i64 y31.2.1)] :: box b13 75 [(sl v46), (.map v48)] :: osl (RSl (RI .i64)) 22 (sl v46) r44.1 R47 :: omap mk73 mv73 (.map v48) r44.2 :: dfrs (b28 :: []) :: gl 0 (pow10L.map (Value.int .u64)) :: Φ) w50 := hs.re 10 [3, 4, 5, 6, 0, 1, 2, 7, 8] rfl
   obtain ⟨R51, hs⟩ := Sat.pack ((fun (y : Nat × (Int × (List (List Int)) × (Option (List (Str × Bool))))) (g : (SLV × List Nat × Option Nat)) => [loopI l27 rec29 (stOf y.1) (jmpOf [.ret] y.1), imm (RSl (RI .i64)) [sl v12] v11, box b9 37 [(sl (none, 0, 0))], box b11 32 [(.int .i64 y.2.1)], box b13 75 [(sl g.1), (.map g.2.2)], osl (RSl (RI .i64)) 22 (sl g.1) y.2.2.1 g.2.1, omap mk73 mv73 (.map g.2.2) y.2.2.2, dfrs (b28 :: []), gl 0 (pow10L.map (Value.int .u64))]) (0, (y31.2.1, r44.1, r44.2))) (v46, R47, v48) Φ hs
   exact ⟨rfl, R51, hs⟩
 ·
  rintro _ w57 ⟨R56, rfl, hs⟩
  replace hs := hs.re 23 [0, 1, 2, 3, 4, 5, 6, 7, 8, 9, 10, 11, 12, 13, 14, 15, 16, 17, 18, 19, 20, 21, 22] rfl
  rcases bif_some hm with ⟨hq, hm⟩ | ⟨hq, hm⟩
  ·
   replace hq := Nat.eq_of_beq_eq_true hq
   obtain ⟨⟨v59, R60, v61⟩, hs⟩ := hs.unpack
   replace hs : Sat (loopI l27 rec29 (stOf r54.1) (jmpOf [.ret] r54.1) :: imm (RSl (RI .i64)) [sl v12] v11 :: box b9 37 [(sl (none, 0, 0))] :: box b11 32 [(.int .i64 r54.2.1)] :: box b13 75 [(sl v59), (.map v61)] :: osl (RSl (RI .i64)) 22 (sl v59) r54.2.2.1 R60 :: omap mk73 mv73 (.map v61) r54.2.2.2 :: dfrs (b28 :: []) :: gl 0 (pow10L.map (Value.int .u64)) :: box v17 28 [(sl v1), (sl v3), (sl v5), (sl v7), (sl v9)] :: imm (RSl RS) [sl v1] m.1 :: imm (RSl (RP (RI .i64) (RI .i64))) [sl v3] m.2.1 :: imm (RSl (RI .i64)) [sl v5] m.2.2.1 :: imm (RSl RS) [sl v7] m.2.2.2.1 :: imm (RSl (RP (RI .i64) (RP RExpr (RSl (RP (RI .i64) RExpr))))) [sl v9] m.2.2.2.2 :: box v18 22 [(sl v12)] :: imm (RSl (RI .i64)) [sl v12] v11 :: imm (RSl RS) [sl v1] m.1 :: imm (RSl (RP (RI .i64) (RI .i64))) [sl v3] m.2.1 :: imm (RSl (RI .i64)) [sl v5] m.2.2.1 :: imm (RSl RS) [sl v7] m.2.2.2.1 :: imm (RSl (RP (RI .i64) (RP RExpr (RSl (RP (RI .i64) RExpr))))) [sl v9] m.2.2.2.2 :: imm (RSl (RI .i64)) [sl v12] v11 :: box b7 28 [(sl v1), (sl v3), (sl v5), (sl v7), (sl v9)] :: imm (RSl RS) [sl v1] m.1 :: imm (RSl (RP (RI .i64) (RI .i64))) [sl v3] m.2.1 :: imm (RSl (RI .i64)) [sl v5] m.2.2.1 :: imm (RSl RS) [sl v7] m.2.2.2.1 :: imm (RSl (RP (RI .i64) (RP RExpr (RSl (RP (RI .i64) RExpr))))) [sl v9] m.2.2.2.2 :: imm (RSl (RI .i64)) [sl v12] v11 :: gl 0 (pow10L.map (Value.int .u64)) :: Φ) w57 := hs
   rw [hq] at hs
   refine LoopEnd.go hr30 (Γ := imm (RSl (RI .i64)) [sl v12] v11 :: box b9 37 [(sl (none, 0, 0))] :: box b11 32 [(.int .i64 r54.2.1)] :: box b13 75 [(sl v59), (.map v61)] :: osl (RSl (RI .i64)) 22 (sl v59) r54.2.2.1 R60 :: omap mk73 mv73 (.map v61) r54.2.2.2 :: dfrs (b28 :: []) :: gl 0 (pow10L.map (Value.int .u64)) :: box v17 28 [(sl v1), (sl v3), (sl v5), (sl v7), (sl v9)] :: imm (RSl RS) [sl v1] m.1 :: imm (RSl (RP (RI .i64) (RI .i64))) [sl v3] m.2.1 :: imm (RSl (RI .i64)) [sl v5] m.2.2.1 :: imm (RSl RS) [sl v7] m.2.2.2.1 :: imm (RSl (RP (RI .i64) (RP RExpr (RSl (RP (RI .i64) RExpr))))) [sl v9] m.2.2.2.2 :: box v18 22 [(sl v12)] :: imm (RSl (RI .i64)) [sl v12] v11 :: imm (RSl RS) [sl v1] m.1 :: imm (RSl (RP (RI .i64) (RI .i64))) [sl v3] m.2.1 :: imm (RSl (RI .i64)) [sl v5] m.2.2.1 :: imm (RSl RS) [sl v7] m.2.2.2.1 :: imm (RSl (RP (RI .i64) (RP RExpr (RSl (RP (RI .i64) RExpr))))) [sl v9] m.2.2.2.2 :: imm (RSl (RI .i64)) [sl v12] v11 :: box b7 28 [(sl v1), (sl v3), (sl v5), (sl v7), (sl v9)] :: imm (RSl RS) [sl v1] m.1 :: imm (RSl (RP (RI .i64) (RI .i64))) [sl v3] m.2.1 :: imm (RSl (RI .i64)) [sl v5] m.2.2.1 :: imm (RSl RS) [sl v7] m.2.2.2.1 :: imm (RSl (RP (RI .i64) (RP RExpr (RSl (RP (RI .i64) RExpr))))) [sl v9] m.2.2.2.2 :: imm (RSl (RI .i64)) [sl v12] v11 :: gl 0 (pow10L.map (Value.int .u64)) :: Φ) hs (fun w62 hs => ?_)
   refine At_blk_normal ?_
   refine At_then <| WC_seq <| WC_seq <| WC_region ?_
   refine Wo (Run_fieldAddr fo75_0 (O rfl)) rfl <| Wo (Run_load1 (v := (sl v59)) Tryd.underlying37 rfl (O rfl) (fun _ => (hs.box (i := 3) rfl).part 0 rfl)) rfl <| Wo (Run_lenSlG Tryd.underlying37 (O rfl) (fun _ => (hs.own (i := 4) rfl).len)) rfl <| Wo (Run_eqI (O rfl) Opd.c) rfl <| ?_
   refine WL_nil <| At_then ?_
   refine WC_cond (O rfl) (fun hc63 => ?_) (fun hc63 => ?_)
   ·
    replace hm := bif_t hc63 hm
    refine WC_region ?_
    refine Wo (Run_move (O rfl)) rfl <| ?_
    obtain ⟨r64, hr65, hm⟩ := bind_some' hm
    refine WL_call (f := 27) (first := []) (cap := []) (xs := [(.tmp 23)]) (vs := [(sl v12)]) (args := [(sl v12)]) Tryd.call27 Opd.f (.cons (O rfl) .nil) rfl rfl (slices_Clone_int_int_ok (hs.re 30 [0, 0, 1, 2, 3, 4, 5, 6, 7, 8, 9, 10, 11, 12, 13, 14, 15, 16, 17, 18, 19, 20, 21, 22, 23, 24, 25, 26, 27, 28, 29] rfl) hr65) ?_
    rintro _ w68 ⟨v66, R67, rfl, hs⟩
    replace hs := hs.re 31 [0, 2, 3, 4, 5, 6, 7, 8, 30] rfl
    replace hs := Sat.n9 (Γ := Φ) hs rfl
    replace hs := hs.freeze (i := 0) rfl
    obtain ⟨r69, hr70, hm⟩ := bind_some' hm
    refine WL_call (f := 31) (first := []) (cap := []) (xs := [(.tmp 6), (.tmp 24)]) (vs := [(.pointer (some ⟨b13, 0, none⟩)), (sl v66)]) (args := [(.pointer (some ⟨b13, 0, none⟩)), (sl v66)]) Tryd.call31 Opd.f (.cons (O rfl) (.cons (O rfl) .nil)) rfl rfl (step_seen_add_ok (hs.re 9 [3, 0, 4, 5, 7, 0, 1, 2, 6, 7, 8] rfl) hr70) ?_
    rintro _ w74 ⟨v71, R72, v73, rfl, hs⟩
    replace hs := Sat.n9 (Γ := Φ) hs rfl
    refine WL_nil <| At_then <| WC_seq <| WC_region ?_
    refine Wo (Run_fieldAddr fo75_0 (O rfl)) rfl <| Wo (Run_load1 (v := (sl v71)) Tryd.underlying37 rfl (O rfl) (fun _ => (hs.box (i := 0) rfl).part 0 rfl)) rfl <| ?_
    refine WS_store (us := [(sl v71)]) (vs' := [(sl v71)]) hs 4 rfl ti37 (O rfl) (O rfl) rfl rfl rfl rfl rfl ?_
    intro w75 hs
    replace hs := Sat.n9 (Γ := Φ) hs rfl
    refine WS_store (us := [(.int .i64 0)]) (vs' := [(.int .i64 0)]) hs 5 rfl ti32 (O rfl) Opd.c rfl rfl rfl rfl rfl ?_
    intro w76 hs
    replace hs := Sat.n9 (Γ := Φ) hs rfl
    refine WL_nil <| At_then ?_
    refine WC_ret ?_
    replace hs := hs.re 9 [6, 0, 1, 2, 3, 4, 5, 7, 8] rfl
    refine At_marks (b28 :: []) hs (fun w77 hs => ?_)
    refine At_r2 rfl (ResIs.c1 (vs := [(sl v71)]) rfl Tryd.underlying37 rfl ((hs.box (i := 4) rfl).part 0 rfl) rfl) (ResIs.c1 (vs := [(.int .i64 0)]) rfl Tryd.underlying32 rfl ((hs.box (i := 5) rfl).part 0 rfl) rfl) ?_
    cases hm
    exact ⟨v71, R72, rfl, (hs.re 8 [1] rfl)⟩
   ·
    replace hm := bif_f hc63 hm
    refine WC_skip ?_
    refine At_then <| WC_seq <| WC_region ?_
    refine Wo (Run_fieldAddr fo75_0 (O rfl)) rfl <| Wo (Run_load1 (v := (sl v59)) Tryd.underlying37 rfl (O rfl) (fun _ => (hs.box (i := 3) rfl).part 0 rfl)) rfl <| ?_
    refine WS_store (us := [(sl v59)]) (vs' := [(sl v59)]) hs 1 rfl ti37 (O rfl) (O rfl) rfl rfl rfl rfl rfl ?_
    intro w78 hs
    replace hs := hs.re 30 [1, 2, 4, 6, 7, 29] rfl
    replace hs := Sat.n6 (Γ := Φ) hs rfl
    refine WS_store (us := [(.int .i64 0)]) (vs' := [(.int .i64 0)]) hs 1 rfl ti32 (O rfl) Opd.c rfl rfl rfl rfl rfl ?_
    intro w79 hs
    replace hs := Sat.n6 (Γ := Φ) hs rfl
    refine WL_nil <| At_then ?_
    refine WC_ret ?_
    replace hs := hs.re 6 [3, 0, 1, 2, 4, 5] rfl
    refine At_marks (b28 :: []) hs (fun w80 hs => ?_)
    refine At_r2 rfl (ResIs.c1 (vs := [(sl v59)]) rfl Tryd.underlying37 rfl ((hs.box (i := 0) rfl).part 0 rfl) rfl) (ResIs.c1 (vs := [(.int .i64 0)]) rfl Tryd.underlying32 rfl ((hs.box (i := 1) rfl).part 0 rfl) rfl) ?_
    cases hm
    exact ⟨v59, R60, rfl, (hs.re 5 [2] rfl)⟩
  ·
   rcases bif_some hm with ⟨hq, hm⟩ | ⟨hq, hm⟩
   ·
    replace hq := Nat.eq_of_beq_eq_true hq
    obtain ⟨⟨v82, R83, v84⟩, hs⟩ := hs.unpack
    replace hs : Sat (loopI l27 rec29 (stOf r54.1) (jmpOf [.ret] r54.1) :: imm (RSl (RI .i64)) [sl v12] v11 :: box b9 37 [(sl (none, 0, 0))] :: box b11 32 [(.int .i64 r54.2.1)] :: box b13 75 [(sl v82), (.map v84)] :: osl (RSl (RI .i64)) 22 (sl v82) r54.2.2.1 R83 :: omap mk73 mv73 (.map v84) r54.2.2.2 :: dfrs (b28 :: []) :: gl 0 (pow10L.map (Value.int .u64)) :: box v17 28 [(sl v1), (sl v3), (sl v5), (sl v7), (sl v9)] :: imm (RSl RS) [sl v1] m.1 :: imm (RSl (RP (RI .i64) (RI .i64))) [sl v3] m.2.1 :: imm (RSl (RI .i64)) [sl v5] m.2.2.1 :: imm (RSl RS) [sl v7] m.2.2.2.1 :: imm (RSl (RP (RI .i64) (RP RExpr (RSl (RP (RI .i64) RExpr))))) [sl v9] m.2.2.2.2 :: box v18 22 [(sl v12)] :: imm (RSl (RI .i64)) [sl v12] v11 :: imm (RSl RS) [sl v1] m.1 :: imm (RSl (RP (RI .i64) (RI .i64))) [sl v3] m.2.1 :: imm (RSl (RI .i64)) [sl v5] m.2.2.1 :: imm (RSl RS) [sl v7] m.2.2.2.1 :: imm (RSl (RP (RI .i64) (RP RExpr (RSl (RP (RI .i64) RExpr))))) [sl v9] m.2.2.2.2 :: imm (RSl (RI .i64)) [sl v12] v11 :: box b7 28 [(sl v1), (sl v3), (sl v5), (sl v7), (sl v9)] :: imm (RSl RS) [sl v1] m.1 :: imm (RSl (RP (RI .i64) (RI .i64))) [sl v3] m.2.1 :: imm (RSl (RI .i64)) [sl v5] m.2.2.1 :: imm (RSl RS) [sl v7] m.2.2.2.1 :: imm (RSl (RP (RI .i64) (RP RExpr (RSl (RP (RI .i64) RExpr))))) [sl v9] m.2.2.2.2 :: imm (RSl (RI .i64)) [sl v12] v11 :: gl 0 (pow10L.map (Value.int .u64)) :: Φ) w57 := hs
    rw [hq] at hs
    refine LoopEnd.jump hr30 (Γ := imm (RSl (RI .i64)) [sl v12] v11 :: box b9 37 [(sl (none, 0, 0))] :: box b11 32 [(.int .i64 r54.2.1)] :: box b13 75 [(sl v82), (.map v84)] :: osl (RSl (RI .i64)) 22 (sl v82) r54.2.2.1 R83 :: omap mk73 mv73 (.map v84) r54.2.2.2 :: dfrs (b28 :: []) :: gl 0 (pow10L.map (Value.int .u64)) :: box v17 28 [(sl v1), (sl v3), (sl v5), (sl v7), (sl v9)] :: imm (RSl RS) [sl v1] m.1 :: imm (RSl (RP (RI .i64) (RI .i64))) [sl v3] m.2.1 :: imm (RSl (RI .i64)) [sl v5] m.2.2.1 :: imm (RSl RS) [sl v7] m.2.2.2.1 :: imm (RSl (RP (RI .i64) (RP RExpr (RSl (RP (RI .i64) RExpr))))) [sl v9] m.2.2.2.2 :: box v18 22 [(sl v12)] :: imm (RSl (RI .i64)) [sl v12] v11 :: imm (RSl RS) [sl v1] m.1 :: imm (RSl (RP (RI .i64) (RI .i64))) [sl v3] m.2.1 :: imm (RSl (RI .i64)) [sl v5] m.2.2.1 :: imm (RSl RS) [sl v7] m.2.2.2.1 :: imm (RSl (RP (RI .i64) (RP RExpr (RSl (RP (RI .i64) RExpr))))) [sl v9] m.2.2.2.2 :: imm (RSl (RI .i64)) [sl v12] v11 :: box b7 28 [(sl v1), (sl v3), (sl v5), (sl v7), (sl v9)] :: imm (RSl RS) [sl v1] m.1 :: imm (RSl (RP (RI .i64) (RI .i64))) [sl v3] m.2.1 :: imm (RSl (RI .i64)) [sl v5] m.2.2.1 :: imm (RSl RS) [sl v7] m.2.2.2.1 :: imm (RSl (RP (RI .i64) (RP RExpr (RSl (RP (RI .i64) RExpr))))) [sl v9] m.2.2.2.2 :: imm (RSl (RI .i64)) [sl v12] v11 :: gl 0 (pow10L.map (Value.int .u64)) :: Φ) (c := .ret) hs (fun w85 hs => ?_)
    refine WC_ret ?_
    refine At_blk_ret <| At_then_ret <| ?_
    replace hs := hs.re 30 [6, 0, 1, 2, 3, 4, 5, 7, 8, 9, 10, 11, 12, 13, 14, 15, 16, 17, 18, 19, 20, 21, 22, 23, 24, 25, 26, 27, 28, 29] rfl
    refine At_marks (b28 :: []) hs (fun w86 hs => ?_)
    refine At_r2 rfl (ResIs.c1 (vs := [(sl (none, 0, 0))]) rfl Tryd.underlying37 rfl ((hs.box (i := 1) rfl).part 0 rfl) rfl) (ResIs.c1 (vs := [(.int .i64 r54.2.1)]) rfl Tryd.underlying32 rfl ((hs.box (i := 2) rfl).part 0 rfl) rfl) ?_
    replace hs := hs.addNil (RSl (RI .i64)) 22
    cases hm
    exact ⟨(none, 0, 0), [], rfl, (hs.re 30 [0] rfl)⟩
   ·
    cases hm
set_option maxRecDepth 100000 in
set_option maxHeartbeats 4000000 in
theorem step_Reach_ok {Φ : Ctx} {w : World} {m : ((List Str) × (List (Int × Int)) × (List Int) × (List Str) × (List (Int × Ex × (List (Int × Ex)))))} {most : Int} {v1 : SLV} {v3 : SLV} {v5 : SLV} {v7 : SLV} {v9 : SLV} {r : ((List (List Int)) × Int × (List Int))} (hs : Sat (imm (RSl RS) [sl v1] m.1 :: imm (RSl (RP (RI .i64) (RI .i64))) [sl v3] m.2.1 :: imm (RSl (RI .i64)) [sl v5] m.2.2.1 :: imm (RSl RS) [sl v7] m.2.2.2.1 :: imm (RSl (RP (RI .i64) (RP RExpr (RSl (RP (RI .i64) RExpr))))) [sl v9] m.2.2.2.2 :: gl 0 (pow10L.map (Value.int .u64)) :: Φ) w) (hm : step_Reach m most = some r) :
  CallsR Tryd.prog 20 [(.agg #[(sl v1), (sl v3), (sl v5), (sl v7), (sl v9)]), (.int .i64 most)] w (fun v w' => ∃ v4 : SLV, ∃ R5 : List Nat, ∃ v8 : SLV, v = (.tuple #[(sl v4), (.int .i64 r.2.1), (sl v8)]) ∧ Sat (osl (RSl (RI .i64)) 22 (sl v4) r.1 R5 :: imm (RSl (RI .i64)) [sl v8] r.2.2 :: Φ) w') := by
 refine CallsX_enter Tryd.func20 rfl Tryd.ntmps20 rfl ?_
 unfold step_Reach at hm
 refine WC_seq <| WC_region ?_
 refine WS_box (zs := [(sl v1), (sl v3), (sl v5), (sl v7), (sl v9)]) hs (O rfl) rfl rfl ?_
 intro b9 w10 hs
 replace hs := Sat.n7 (Γ := Φ) hs rfl
 refine Wo (Run_assign Opd.c) rfl <| Wo (Run_assign Opd.c) rfl <| Wo (Run_assign Opd.c) rfl <| ?_
 refine WL_nil <| At_then <| WC_seq <| WC_region ?_
 refine WS_alloc (zs := [(sl (none, 0, 0)), (.map none)]) hs ti75 rfl rfl ?_
 intro b11 w12 hs
 replace hs := Sat.n8 (Γ := Φ) hs rfl
 refine WL_nil <| At_then <| WC_seq <| WC_region ?_
 refine Wo (Run_fieldAddr fo28_2 (O rfl)) rfl <| Wo (Run_load1 (v := (sl v5)) Tryd.underlying22 rfl (O rfl) (fun _ => (hs.box (i := 1) rfl).part 2 rfl)) rfl <| ?_
 obtain ⟨r13, hr14, hm⟩ := bind_some' hm
 refine WL_call (f := 27) (first := []) (cap := []) (xs := [(.tmp 14)]) (vs := [(sl v5)]) (args := [(sl v5)]) Tryd.call27 Opd.f (.cons (O rfl) .nil) rfl rfl (slices_Clone_int_int_ok (hs.re 8 [4, 0, 1, 2, 3, 4, 5, 6, 7] rfl) hr14) ?_
 rintro _ w17 ⟨v15, R16, rfl, hs⟩
 replace hs := Sat.n9 (Γ := Φ) hs rfl
 replace hs := hs.freeze (i := 0) rfl
 replace hs := hs.addNil (RSl (RI .i64)) 22
 replace hs := hs.addNilM mk73 mv73
 obtain ⟨r18, hr19, hm⟩ := bind_some' hm
 refine WL_call (f := 31) (first := []) (cap := []) (xs := [(.tmp 7), (.tmp 15)]) (vs := [(.pointer (some ⟨b11, 0, none⟩)), (sl v15)]) (args := [(.pointer (some ⟨b11, 0, none⟩)), (sl v15)]) Tryd.call31 Opd.f (.cons (O rfl) (.cons (O rfl) .nil)) rfl rfl (step_seen_add_ok (hs.re 11 [3, 2, 1, 0, 10, 2, 4, 5, 6, 7, 8, 9, 10] rfl) hr19) ?_
 rintro _ w23 ⟨v20, R21, v22, rfl, hs⟩
 replace hs := Sat.n11 (Γ := Φ) hs rfl
 refine WL_nil <| At_then <| WC_seq <| WC_seq <| WC_region ?_
 refine Wo (Run_assign Opd.c) rfl <| ?_
 refine WL_nil <| At_then ?_
 refine WC_block ?_
 refine WC_loop (σ := (List (List Int)) × (Option (List (Str × Bool))) × Int) (γ := SLV × List Nat × Option Nat) (F := (step_Reach_L1 m most)) (N := FUEL) (s0 := (r18.1, r18.2, 0)) (r := r) (fun ⟨c25, c28, i30⟩ ⟨v26, R27, v29⟩ w24 => Sat (box b9 28 [(sl v1), (sl v3), (sl v5), (sl v7), (sl v9)] :: imm (RSl RS) [sl v1] m.1 :: imm (RSl (RP (RI .i64) (RI .i64))) [sl v3] m.2.1 :: imm (RSl (RI .i64)) [sl v5] m.2.2.1 :: imm (RSl RS) [sl v7] m.2.2.2.1 :: imm (RSl (RP (RI .i64) (RP RExpr (RSl (RP (RI .i64) RExpr))))) [sl v9] m.2.2.2.2 :: box b11 75 [(sl v26), (.map v29)] :: osl (RSl (RI .i64)) 22 (sl v26) c25 R27 :: omap mk73 mv73 (.map v29) c28 :: gl 0 (pow10L.map (Value.int .u64)) :: Φ) w24) (fun ⟨c25, c28, i30⟩ ⟨v26, R27, v29⟩ => [(1, true, (.int .i64 most)), (2, true, (.pointer (some ⟨b9, 0, none⟩))), (7, true, (.pointer (some ⟨b11, 0, none⟩))), (8, true, (.int .i64 i30))]) hm (v20, R21, v22) (hs.re 11 [4, 5, 6, 7, 8, 9, 0, 1, 2, 10] rfl) rfl ?_
 rintro again31 ⟨c25, c28, i30⟩ ⟨v26, R27, v29⟩ w24 hm hs
 unfold step_Reach_L1 at hm
 dsimp only at hm
 refine WC_seq <| WC_seq <| WC_region ?_
 refine Wo (Run_move (O rfl)) rfl <| Wo (Run_fieldAddr fo75_0 (O rfl)) rfl <| Wo (Run_load1 (v := (sl v26)) Tryd.underlying37 rfl (O rfl) (fun _ => (hs.box (i := 6) rfl).part 0 rfl)) rfl <| Wo (Run_lenSlG Tryd.underlying37 (O rfl) (fun _ => (hs.own (i := 7) rfl).len)) rfl <| ?_
 obtain ⟨b32, e33, hm⟩ := letv_some hm
 refine Wo (Run.eqB (Run_ltI (O rfl) (O rfl)) e33) rfl <| Wo (Run_move (O rfl)) rfl <| WL_opG rfl rfl rfl rfl guard_pos (Run_fieldAddr fo75_0 (O rfl)) rfl rfl rfl <| WL_opG rfl rfl rfl rfl guard_pos (Run_load1 (v := (sl v26)) Tryd.underlying37 rfl (Opd.g rfl id) (fun _ => (hs.box (i := 6) rfl).part 0 rfl)) rfl rfl rfl <| WL_opG rfl rfl rfl rfl guard_pos (Run_lenSlG Tryd.underlying37 (Opd.g rfl id) (fun _ => (hs.own (i := 7) rfl).len)) rfl rfl rfl <| WL_opG rfl rfl rfl rfl guard_pos (Run_move (O rfl)) rfl rfl rfl <| ?_
 obtain ⟨b34, e35, hm⟩ := letv_some hm
 refine WL_opG rfl rfl rfl rfl guard_pos (Run.eqB (Run_leI (Opd.g rfl id) (Opd.g rfl id)) e35) rfl rfl rfl <| ?_
 obtain ⟨b36, e37, hm⟩ := letv_some hm
 refine Wo (Run.eqB (Run_and (O rfl) (Opd.g rfl id)) e37) rfl <| ?_
 refine WL_nil <| At_then ?_
 refine WC_cond (O rfl) (fun hc38 => ?_) (fun hc38 => ?_)
 ·
  replace hm := bif_t hc38 hm
  refine WC_skip ?_
  refine At_then <| WC_seq ?_
  refine WC_block ?_
  refine WC_seq ?_
  refine WC_region_mixed [0, 0, 2, 0, 12, 16, 33, 64, 128, 128, 511, 2047] (.q 0 0 (.q 1 1 (.q 2 3 (.q 3 7 (.q 4 15 (.q 5 31 (.l 6 63 (.q 7 127 (.q 8 255 (.q 9 511 (.q 10 1023 (.q 11 2047 .nil)))))))))))) (by kernel_rfl) (by kernel_rfl) ?_
  intro w39 hx40
  replace hs := hs.ext hx40
  refine WD_op (fun w => CellsAt w ⟨b9, 0, none⟩ [(sl v1), (sl v3), (sl v5), (sl v7), (sl v9)]) ((hs.box (i := 0) rfl).part 0 rfl) (fun _ hJ => (Run_loadA (vs := [(sl v1), (sl v3), (sl v5), (sl v7), (sl v9)]) Tryd.underlying28 rfl ti28 (O rfl) (fun _ => hJ) rfl)) rfl rfl rfl rfl <| WD_pure (fun _ => (Run_fieldAddr fo75_0 (O rfl))) rfl rfl rfl rfl <| WD_op (fun w => CellsAt w ⟨b11, 0, none⟩ [(sl v26)]) ((hs.box (i := 6) rfl).part 0 rfl) (fun _ hJ => (Run_load1 (v := (sl v26)) Tryd.underlying37 rfl (O rfl) (fun _ => hJ))) rfl rfl rfl rfl <| WD_pure (fun _ => (Run_move (O rfl))) rfl rfl rfl rfl <| ?_
  obtain ⟨e41, he42, hm⟩ := bind_some' hm
  obtain ⟨v43, hC44, hN45, hR46⟩ := cellsMO22 (g := true) (fun hg => (hs.own (i := 7) rfl)) (fun hg => he42)
  replace hs := hs.addL [imm (RSl (RI .i64)) [sl v43] e41] rfl ⟨⟨_, rfl, hR46 rfl⟩, trivial⟩
  replace hs := Sat.n11 (Γ := Φ) hs rfl
  refine WD_pure (fun _ => (Run_idxAddr (p := (elA (sl v26) i30 1)) Tryd.underlying37 ti22 (O rfl) (O rfl) (fun hg => (Own.atA (A := (RSl (RI .i64))) (v := (sl v26)) (hs.own (i := 8) rfl) he42).1))) rfl rfl rfl rfl <| WD_op (fun w => true = true → CellsAt w (elA (sl v26) i30 1) [(sl v43)]) (fun hg => (hC44 hg).sub 0 rfl) (fun _ hJ => (Run_load1 (v := (sl v43)) Tryd.underlying22 rfl (O rfl) hJ)) rfl rfl rfl rfl <| ?_
  refine WD_loud (pend' := [(2, fun w => CellsAt w ⟨b11, 0, none⟩ [(sl v26)])]) rfl (by kernel_rfl) ?_
  obtain ⟨r47, hr48, hm⟩ := bind_some' hm
  refine WL_call (f := 14) (first := []) (cap := []) (xs := [(.tmp 32), (.tmp 37)]) (vs := [(.agg #[(sl v1), (sl v3), (sl v5), (sl v7), (sl v9)]), (sl v43)]) (args := [(.agg #[(sl v1), (sl v3), (sl v5), (sl v7), (sl v9)]), (sl v43)]) Tryd.call14 Opd.f (.cons (O rfl) (.cons (O rfl) .nil)) rfl rfl (step_Next_ok (hs.re 11 [2, 3, 4, 5, 6, 0, 10, 0, 1, 2, 3, 4, 5, 6, 7, 8, 9, 10] rfl) hr48) ?_
  rintro _ w51 ⟨v49, R50, rfl, hs⟩
  replace hs := Sat.n12 (Γ := Φ) hs rfl
  refine WL_nil ?_
  refine At_QK (allJ_cons ((hs.box (i := 8) rfl).part 0 rfl) allJ_nil) ?_
  refine WD_pure (fun _ => (Run_move (O rfl))) rfl rfl rfl rfl <| WD_pure (fun _ => (Run_extract (vs := [(sl v49), (.int .i64 r47.2)]) (O rfl) rfl)) rfl rfl rfl rfl <| WD_pure (fun _ => (Run_extract (vs := [(sl v49), (.int .i64 r47.2)]) (O rfl) rfl)) rfl rfl rfl rfl <| WD_pure (fun _ => (Run_assign (O rfl))) rfl rfl rfl rfl <| WD_pure (fun _ => (Run_assign (O rfl))) rfl rfl rfl rfl <| ?_
  refine WD_nil ?_
  refine At_then <| WC_seq <| WC_seq <| WC_region ?_
  refine Wo (Run_move (O rfl)) rfl <| Wo (Run_neI (O rfl) Opd.c) rfl <| ?_
  refine WL_nil <| At_then ?_
  refine WC_cond (O rfl) (fun hc52 => ?_) (fun hc52 => ?_)
  ·
   replace hm := bif_t hc52 hm
   refine WC_seq ?_
   refine WC_region_mixed [0, 0, 2, 0, 12, 16, 0, 65, 255] (.q 0 0 (.q 1 1 (.q 2 3 (.q 3 7 (.q 4 15 (.q 5 31 (.q 6 63 (.q 7 127 (.q 8 255 .nil))))))))) (by kernel_rfl) (by kernel_rfl) ?_
   intro w53 hx54
   replace hs := hs.ext hx54
   refine WD_pure (fun _ => (Run_move (O rfl))) rfl rfl rfl rfl <| WD_pure (fun _ => (Run_fieldAddr fo75_0 (O rfl))) rfl rfl rfl rfl <| WD_op (fun w => CellsAt w ⟨b11, 0, none⟩ [(sl v26)]) ((hs.box (i := 8) rfl).part 0 rfl) (fun _ hJ => (Run_load1 (v := (sl v26)) Tryd.underlying37 rfl (O rfl) (fun _ => hJ))) rfl rfl rfl rfl <| WD_pure (fun _ => (Run_move (O rfl))) rfl rfl rfl rfl <| ?_
   obtain ⟨e55, he56, hm⟩ := bind_some' hm
   obtain ⟨v57, hC58, hN59, hR60⟩ := cellsMO22 (g := true) (fun hg => (hs.own (i := 9) rfl)) (fun hg => he56)
   replace hs := hs.addL [imm (RSl (RI .i64)) [sl v57] e55] rfl ⟨⟨_, rfl, hR60 rfl⟩, trivial⟩
   replace hs := Sat.n13 (Γ := Φ) hs rfl
   refine WD_pure (fun _ => (Run_idxAddr (p := (elA (sl v26) i30 1)) Tryd.underlying37 ti22 (O rfl) (O rfl) (fun hg => (Own.atA (A := (RSl (RI .i64))) (v := (sl v26)) (hs.own (i := 10) rfl) he56).1))) rfl rfl rfl rfl <| WD_op (fun w => true = true → CellsAt w (elA (sl v26) i30 1) [(sl v57)]) (fun hg => (hC58 hg).sub 0 rfl) (fun _ hJ => (Run_load1 (v := (sl v57)) Tryd.underlying22 rfl (O rfl) hJ)) rfl rfl rfl rfl <| WD_pure (fun _ => (Run_assign Opd.c)) rfl rfl rfl rfl <| WD_pure (fun _ => (Run_assign (O rfl))) rfl rfl rfl rfl <| WD_pure (fun _ => (Run_assign (O rfl))) rfl rfl rfl rfl <| ?_
   refine WD_nil ?_
   refine At_then ?_
   refine WC_ret ?_
   refine At_then_ret <| At_blk_ret <| At_then_ret <| At_then_ret <| At_blk_ret <| At_then_ret <| ?_
   refine At_r3 rfl (ResIs.t rfl) (ResIs.t rfl) (ResIs.t rfl) ?_
   replace hs := hs.addNil (RSl (RI .i64)) 22
   cases hm
   exact ⟨(none, 0, 0), [], v57, rfl, (hs.re 14 [0, 1] rfl)⟩
  ·
   replace hm := bif_f hc52 hm
   refine WC_skip ?_
   refine At_then <| WC_seq <| WC_region ?_
   refine Wo (Run_move (O rfl)) rfl <| Wo (Run_lenSlG Tryd.underlying37 (O rfl) (fun _ => (hs.own (i := 0) rfl).len)) rfl <| Wo (Run_move Opd.c) rfl <| ?_
   refine WL_nil <| At_then ?_
   refine WC_block ?_
   refine WC_loop (σ := (List (List Int)) × (Option (List (Str × Bool))) × Int) (γ := SLV × List Nat × Option Nat) (F := (step_Reach_L2 i30 again31 r47)) (N := FUEL) (s0 := (c25, c28, 0)) (r := r) (fun ⟨c62, c65, t67⟩ ⟨v63, R64, v66⟩ w61 => Sat (box b9 28 [(sl v1), (sl v3), (sl v5), (sl v7), (sl v9)] :: imm (RSl RS) [sl v1] m.1 :: imm (RSl (RP (RI .i64) (RI .i64))) [sl v3] m.2.1 :: imm (RSl (RI .i64)) [sl v5] m.2.2.1 :: imm (RSl RS) [sl v7] m.2.2.2.1 :: imm (RSl (RP (RI .i64) (RP RExpr (RSl (RP (RI .i64) RExpr))))) [sl v9] m.2.2.2.2 :: box b11 75 [(sl v63), (.map v66)] :: osl (RSl (RI .i64)) 22 (sl v63) c62 R64 :: omap mk73 mv73 (.map v66) c65 :: osl (RSl (RI .i64)) 22 (sl v49) r47.1 R50 :: gl 0 (pow10L.map (Value.int .u64)) :: Φ) w61) (fun ⟨c62, c65, t67⟩ ⟨v63, R64, v66⟩ => [(1, true, (.int .i64 most)), (2, true, (.pointer (some ⟨b9, 0, none⟩))), (7, true, (.pointer (some ⟨b11, 0, none⟩))), (8, true, (.int .i64 i30)), (49, true, (sl v49)), (50, true, (.int .i64 (List.length r47.1 : Int))), (51, true, (.int .i64 t67))]) hm (v26, R27, v29) (hs.re 12 [2, 3, 4, 5, 6, 7, 8, 9, 10, 0, 11] rfl) rfl ?_
   rintro again68 ⟨c62, c65, t67⟩ ⟨v63, R64, v66⟩ w61 hm hs
   unfold step_Reach_L2 at hm
   dsimp only at hm
   refine WC_seq <| WC_region ?_
   refine Wo (Run_ltI (O rfl) (O rfl)) rfl <| ?_
   refine WL_nil <| At_then <| WC_seq ?_
   refine WC_cond (O rfl) (fun hc69 => ?_) (fun hc69 => ?_)
   ·
    replace hm := bif_t hc69 hm
    refine WC_skip ?_
    refine At_then <| WC_seq ?_
    refine WC_block ?_
    refine WC_seq <| WC_region ?_
    obtain ⟨e70, he71, hm⟩ := bind_some' hm
    obtain ⟨v72, hC73, hN74, hR75⟩ := cellsMO22 (g := true) (fun hg => (hs.own (i := 9) rfl)) (fun hg => he71)
    replace hs := hs.addL [imm (RSl (RI .i64)) [sl v72] e70] rfl ⟨⟨_, rfl, hR75 rfl⟩, trivial⟩
    replace hs := Sat.n12 (Γ := Φ) hs rfl
    refine Wo (Run_idxAddr (p := (elA (sl v49) t67 1)) Tryd.underlying37 ti22 (O rfl) (O rfl) (fun hg => (Own.atA (A := (RSl (RI .i64))) (v := (sl v49)) (hs.own (i := 10) rfl) he71).1)) rfl <| Wo (Run_load1 (v := (sl v72)) Tryd.underlying22 rfl (O rfl) (fun hg => (hC73 hg).sub 0 rfl)) rfl <| Wo (Run_assign (O rfl)) rfl <| ?_
    refine WL_nil <| At_then <| WC_region ?_
    refine Wo (Run_move (O rfl)) rfl <| ?_
    obtain ⟨r76, hr77, hm⟩ := bind_some' hm
    refine WL_call (f := 31) (first := []) (cap := []) (xs := [(.tmp 7), (.tmp 55)]) (vs := [(.pointer (some ⟨b11, 0, none⟩)), (sl v72)]) (args := [(.pointer (some ⟨b11, 0, none⟩)), (sl v72)]) Tryd.call31 Opd.f (.cons (O rfl) (.cons (O rfl) .nil)) rfl rfl (step_seen_add_ok (hs.re 12 [7, 0, 8, 9, 11, 0, 1, 2, 3, 4, 5, 6, 10, 11] rfl) hr77) ?_
    rintro _ w81 ⟨v78, R79, v80, rfl, hs⟩
    replace hs := Sat.n12 (Γ := Φ) hs rfl
    refine WL_nil ?_
    refine At_blk_normal ?_
    refine At_then <| WC_region ?_
    refine Wo (Run_add (O rfl) Opd.c) rfl <| Wo (Run_move (O rfl)) rfl <| ?_
    refine WL_nil ?_
    exact At_again (r76.1, r76.2, (IntKind.i64.wrap (t67 + 1))) (v78, R79, v80) hm (hs.re 12 [4, 5, 6, 7, 8, 9, 0, 1, 2, 10, 11] rfl) rfl
   ·
    replace hm := bif_f hc69 hm
    refine WC_exit ?_
    refine At_then_exit <| At_then_exit <| At_blk_here <| ?_
    refine At_blk_normal ?_
    refine At_then <| WC_region ?_
    refine Wo (Run_move (O rfl)) rfl <| Wo (Run_add (O rfl) Opd.c) rfl <| Wo (Run_assign (O rfl)) rfl <| ?_
    refine WL_nil ?_
    exact At_again (c62, c65, (IntKind.i64.wrap (i30 + 1))) (v63, R64, v66) hm (hs.re 11 [0, 1, 2, 3, 4, 5, 6, 7, 8, 10] rfl) rfl
 ·
  replace hm := bif_f hc38 hm
  refine WC_exit ?_
  refine At_then_exit <| At_then_exit <| At_blk_here <| ?_
  refine At_then <| WC_seq <| WC_seq <| WC_region ?_
  refine Wo (Run_fieldAddr fo75_0 (O rfl)) rfl <| Wo (Run_load1 (v := (sl v26)) Tryd.underlying37 rfl (O rfl) (fun _ => (hs.box (i := 6) rfl).part 0 rfl)) rfl <| Wo (Run_lenSlG Tryd.underlying37 (O rfl) (fun _ => (hs.own (i := 7) rfl).len)) rfl <| Wo (Run_move (O rfl)) rfl <| Wo (Run_gtI (O rfl) (O rfl)) rfl <| ?_
  refine WL_nil <| At_then ?_
  refine WC_cond (O rfl) (fun hc82 => ?_) (fun hc82 => ?_)
  ·
   replace hm := bif_t hc82 hm
   refine WC_seq <| WC_region ?_
   refine Wo (Run_assign Opd.c) rfl <| Wo (Run_assign Opd.c) rfl <| Wo (Run_assign Opd.c) rfl <| ?_
   refine WL_nil <| At_then ?_
   refine WC_ret ?_
   refine At_then_ret <| ?_
   refine At_r3 rfl (ResIs.t rfl) (ResIs.t rfl) (ResIs.t rfl) ?_
   replace hs := hs.addNil (RSl (RI .i64)) 22
   replace hs := hs.addNilI (RI .i64)
   cases hm
   exact ⟨(none, 0, 0), [], (none, 0, 0), rfl, (hs.re 12 [1, 0] rfl)⟩
  ·
   replace hm := bif_f hc82 hm
   refine WC_skip ?_
   refine At_then <| WC_seq <| WC_region ?_
   refine Wo (Run_fieldAddr fo75_0 (O rfl)) rfl <| Wo (Run_load1 (v := (sl v26)) Tryd.underlying37 rfl (O rfl) (fun _ => (hs.box (i := 6) rfl).part 0 rfl)) rfl <| Wo (Run_assign (O rfl)) rfl <| Wo (Run_assign Opd.c) rfl <| Wo (Run_assign Opd.c) rfl <| ?_
   refine WL_nil <| At_then ?_
   refine WC_ret ?_
   refine At_r3 rfl (ResIs.t rfl) (ResIs.t rfl) (ResIs.t rfl) ?_
   replace hs := hs.addNilI (RI .i64)
   cases hm
   exact ⟨v26, R27, (none, 0, 0), rfl, (hs.re 11 [8, 0] rfl)⟩
set_option maxRecDepth 100000 in
set_option maxHeartbeats 4000000 in
theorem scrutinyref02_Vec_ok {Φ : Ctx} {w : World} {a : (List Int)} {b : (List Int)} {v1 : SLV} {v3 : SLV} {r : Bool} (hs : Sat (imm (RSl (RI .i64)) [sl v1] a :: imm (RSl (RI .i64)) [sl v3] b :: Φ) w) (hm : scrutinyref02_Vec a b = some r) :
  CallsR Tryd.prog 16 [(sl v1), (sl v3)] w (fun v w' => v = (.bool r) ∧ Sat (Φ) w') := by
 refine CallsX_enter Tryd.func16 rfl Tryd.ntmps16 rfl ?_
 unfold scrutinyref02_Vec at hm
 refine WC_seq <| WC_region ?_
 refine Wo (Run_assign Opd.c) rfl <| ?_
 refine WL_nil <| At_then <| WC_seq <| WC_seq <| WC_region ?_
 refine Wo (Run_move (O rfl)) rfl <| Wo (Run_lenSlG Tryd.underlying22 (O rfl) (fun hg => (hs.sl (i := 0) rfl).len)) rfl <| Wo (Run_move (O rfl)) rfl <| Wo (Run_lenSlG Tryd.underlying22 (O rfl) (fun hg => (hs.sl (i := 1) rfl).len)) rfl <| Wo (Run_neI (O rfl) (O rfl)) rfl <| ?_
 refine WL_nil <| At_then ?_
 refine WC_cond (O rfl) (fun hc3 => ?_) (fun hc3 => ?_)
 ·
  replace hm := bif_t hc3 hm
  refine WC_seq <| WC_region ?_
  refine Wo (Run_assign Opd.c) rfl <| ?_
  refine WL_nil <| At_then ?_
  refine WC_ret ?_
  refine At_then_ret <| ?_
  refine At_r1 rfl (ResIs.t rfl) ?_
  cases hm
  exact ⟨rfl, (hs.re 2 [] rfl)⟩
 ·
  replace hm := bif_f hc3 hm
  refine WC_skip ?_
  refine At_then <| WC_seq <| WC_seq <| WC_region ?_
  refine Wo (Run_assign Opd.c) rfl <| ?_
  refine WL_nil <| At_then ?_
  refine WC_block ?_
  refine WC_loop (σ := Int) (γ := Unit) (F := (scrutinyref02_Vec_L1 a b)) (N := FUEL) (s0 := 0) (r := r) (fun i5 (_ : Unit) w4 => Sat (imm (RSl (RI .i64)) [sl v1] a :: imm (RSl (RI .i64)) [sl v3] b :: Φ) w4) (fun i5 (_ : Unit) => [(0, true, (sl v1)), (1, true, (sl v3)), (5, true, (.int .i64 i5))]) hm () (hs.re 2 [0, 1] rfl) rfl ?_
  rintro again6 i5 _ w4 hm hs
  unfold scrutinyref02_Vec_L1 at hm
  refine WC_seq <| WC_seq <| WC_region ?_
  refine Wo (Run_move (O rfl)) rfl <| Wo (Run_move (O rfl)) rfl <| Wo (Run_lenSlG Tryd.underlying22 (O rfl) (fun hg => (hs.sl (i := 0) rfl).len)) rfl <| Wo (Run_ltI (O rfl) (O rfl)) rfl <| ?_
  refine WL_nil <| At_then ?_
  refine WC_cond (O rfl) (fun hc7 => ?_) (fun hc7 => ?_)
  ·
   replace hm := bif_t hc7 hm
   refine WC_skip ?_
   refine At_then <| WC_seq ?_
   refine WC_block ?_
   refine WC_seq ?_
   refine WC_region_mixed [0, 0, 3, 4, 0, 0, 48, 64, 136] (.q 0 0 (.q 1 1 (.q 2 3 (.q 3 7 (.q 4 15 (.q 5 31 (.q 6 63 (.q 7 127 (.q 8 255 .nil))))))))) (by kernel_rfl) (by kernel_rfl) ?_
   intro w8 hx9
   replace hs := hs.ext hx9
   refine WD_pure (fun _ => (Run_move (O rfl))) rfl rfl rfl rfl <| WD_pure (fun _ => (Run_move (O rfl))) rfl rfl rfl rfl <| ?_
   obtain ⟨e10, he11, hm⟩ := bind_some' hm
   refine WD_pure (fun _ => (Run_idxAddr (p := (elA (sl v1) i5 1)) Tryd.underlying22 ti3 (O rfl) (O rfl) (fun hg => (SRd.atA (A := (RI .i64)) (v := (sl v1)) (hs.sl (i := 0) rfl) he11).1))) rfl rfl rfl rfl <| WD_op (fun w => true = true → CellsAt w (elA (sl v1) i5 1) [(.int .i64 e10)]) (fun hg => (SRd.cellsF (A := (RI .i64)) (v := (sl v1)) (hs.sl (i := 0) rfl) he11 (fun _ h => openT3 h)).sub 0 rfl) (fun _ hJ => (Run_load1 (v := (.int .i64 e10)) Tryd.underlying3 rfl (O rfl) hJ)) rfl rfl rfl rfl <| WD_pure (fun _ => (Run_move (O rfl))) rfl rfl rfl rfl <| WD_pure (fun _ => (Run_move (O rfl))) rfl rfl rfl rfl <| ?_
   obtain ⟨e12, he13, hm⟩ := bind_some' hm
   refine WD_pure (fun _ => (Run_idxAddr (p := (elA (sl v3) i5 1)) Tryd.underlying22 ti3 (O rfl) (O rfl) (fun hg => (SRd.atA (A := (RI .i64)) (v := (sl v3)) (hs.sl (i := 1) rfl) he13).1))) rfl rfl rfl rfl <| WD_op (fun w => true = true → CellsAt w (elA (sl v3) i5 1) [(.int .i64 e12)]) (fun hg => (SRd.cellsF (A := (RI .i64)) (v := (sl v3)) (hs.sl (i := 1) rfl) he13 (fun _ h => openT3 h)).sub 0 rfl) (fun _ hJ => (Run_load1 (v := (.int .i64 e12)) Tryd.underlying3 rfl (O rfl) hJ)) rfl rfl rfl rfl <| WD_pure (fun _ => (Run_neI (O rfl) (O rfl))) rfl rfl rfl rfl <| ?_
   refine WD_nil ?_
   refine At_then ?_
   refine WC_cond (O rfl) (fun hc14 => ?_) (fun hc14 => ?_)
   ·
    replace hm := bif_t hc14 hm
    refine WC_seq <| WC_region ?_
    refine Wo (Run_assign Opd.c) rfl <| ?_
    refine WL_nil <| At_then ?_
    refine WC_ret ?_
    refine At_blk_ret <| At_then_ret <| At_then_ret <| At_blk_ret <| At_then_ret <| ?_
    refine At_r1 rfl (ResIs.t rfl) ?_
    cases hm
    exact ⟨rfl, (hs.re 2 [] rfl)⟩
   ·
    replace hm := bif_f hc14 hm
    refine WC_skip ?_
    refine At_blk_normal ?_
    refine At_then <| WC_region ?_
    refine Wo (Run_move (O rfl)) rfl <| Wo (Run_add (O rfl) Opd.c) rfl <| Wo (Run_assign (O rfl)) rfl <| ?_
    refine WL_nil ?_
    exact At_again (IntKind.i64.wrap (i5 + 1)) () hm (hs.re 2 [0, 1] rfl) rfl
  ·
   replace hm := bif_f hc7 hm
   refine WC_exit ?_
   refine At_then_exit <| At_then_exit <| At_blk_here <| ?_
   refine At_then <| WC_seq <| WC_region ?_
   refine Wo (Run_assign Opd.c) rfl <| ?_
   refine WL_nil <| At_then ?_
   refine WC_ret ?_
   refine At_r1 rfl (ResIs.t rfl) ?_
   cases hm
   exact ⟨rfl, (hs.re 2 [] rfl)⟩
end Go.Proofs.YtjdabjpjafkogaaDoor
namespace Go.Proofs.YtjdabjpjafkogaaDoor
open Go.Proofs
set_option maxRecDepth 100000 in
set_option maxHeartbeats 4000000 in
theorem scrutinyref02_Vecs_ok {Φ : Ctx} {w : World} {a : (List (List Int))} {b : (List (List Int))} {v1 : SLV} {v3 : SLV} {r : Bool} (hs : Sat (imm (RSl (RSl (RI .i64))) [sl v1] a :: imm (RSl (RSl (RI .i64))) [sl v3] b :: Φ) w) (hm : scrutinyref02_Vecs a b = some r) :
  CallsR Tryd.prog 19 [(sl v1), (sl v3)] w (fun v w' => v = (.bool r) ∧ Sat (Φ) w') := by
 refine CallsX_enter Tryd.func19 rfl Tryd.ntmps19 rfl ?_
 unfold scrutinyref02_Vecs at hm
 refine WC_seq <| WC_region ?_
 refine Wo (Run_assign Opd.c) rfl <| ?_
 refine WL_nil <| At_then <| WC_seq <| WC_seq <| WC_region ?_
 refine Wo (Run_move (O rfl)) rfl <| Wo (Run_lenSlG Tryd.underlying37 (O rfl) (fun hg => (hs.sl (i := 0) rfl).len)) rfl <| Wo (Run_move (O rfl)) rfl <| Wo (Run_lenSlG Tryd.underlying37 (O rfl) (fun hg => (hs.sl (i := 1) rfl).len)) rfl <| Wo (Run_neI (O rfl) (O rfl)) rfl <| ?_
 refine WL_nil <| At_then ?_
 refine WC_cond (O rfl) (fun hc3 => ?_) (fun hc3 => ?_)
 ·
  replace hm := bif_t hc3 hm
  refine WC_seq <| WC_region ?_
  refine Wo (Run_assign Opd.c) rfl <| ?_
  refine WL_nil <| At_then ?_
  refine WC_ret ?_
  refine At_then_ret <| ?_
  refine At_r1 rfl (ResIs.t rfl) ?_
  cases hm
  exact ⟨rfl, (hs.re 2 [] rfl)⟩
 ·
  replace hm := bif_f hc3 hm
  refine WC_skip ?_
  refine At_then <| WC_seq <| WC_seq <| WC_region ?_
  refine Wo (Run_assign Opd.c) rfl <| ?_
  refine WL_nil <| At_then ?_
  refine WC_block ?_
  refine WC_loop (σ := Int) (γ := Unit) (F := (scrutinyref02_Vecs_L1 a b)) (N := FUEL) (s0 := 0) (r := r) (fun i5 (_ : Unit) w4 => Sat (imm (RSl (RSl (RI .i64))) [sl v1] a :: imm (RSl (RSl (RI .i64))) [sl v3] b :: Φ) w4) (fun i5 (_ : Unit) => [(0, true, (sl v1)), (1, true, (sl v3)), (5, true, (.int .i64 i5))]) hm () (hs.re 2 [0, 1] rfl) rfl ?_
  rintro again6 i5 _ w4 hm hs
  unfold scrutinyref02_Vecs_L1 at hm
  refine WC_seq <| WC_seq <| WC_region ?_
  refine Wo (Run_move (O rfl)) rfl <| Wo (Run_move (O rfl)) rfl <| Wo (Run_lenSlG Tryd.underlying37 (O rfl) (fun hg => (hs.sl (i := 0) rfl).len)) rfl <| Wo (Run_ltI (O rfl) (O rfl)) rfl <| ?_
  refine WL_nil <| At_then ?_
  refine WC_cond (O rfl) (fun hc7 => ?_) (fun hc7 => ?_)
  ·
   replace hm := bif_t hc7 hm
   refine WC_skip ?_
   refine At_then <| WC_seq ?_
   refine WC_block ?_
   refine WC_seq ?_
   refine WC_region_mixed [0, 0, 3, 4, 0, 0, 48, 64, 136, 511] (.q 0 0 (.q 1 1 (.q 2 3 (.q 3 7 (.q 4 15 (.q 5 31 (.q 6 63 (.q 7 127 (.l 8 255 (.q 9 511 .nil)))))))))) (by kernel_rfl) (by kernel_rfl) ?_
   intro w8 hx9
   replace hs := hs.ext hx9
   refine WD_pure (fun _ => (Run_move (O rfl))) rfl rfl rfl rfl <| WD_pure (fun _ => (Run_move (O rfl))) rfl rfl rfl rfl <| ?_
   obtain ⟨e10, he11, hm⟩ := bind_some' hm
   obtain ⟨v12, hC13, hN14, hR15⟩ := cellsM22 (g := true) (fun hg => (hs.sl (i := 0) rfl)) (fun hg => he11)
   replace hs := hs.addL [elem true (elA (sl v1) i5 1) [(sl v12)], imm (RSl (RI .i64)) [sl v12] e10] rfl ⟨fun hg => ⟨hN14 hg, hC13 hg⟩, ⟨_, rfl, hR15 rfl⟩, trivial⟩
   replace hs := Sat.n4 (Γ := Φ) hs rfl
   refine WD_pure (fun _ => (Run_idxAddr (p := (elA (sl v1) i5 1)) Tryd.underlying37 ti22 (O rfl) (O rfl) (fun hg => (SRd.atA (A := (RSl (RI .i64))) (v := (sl v1)) (hs.sl (i := 2) rfl) he11).1))) rfl rfl rfl rfl <| WD_op (fun w => true = true → CellsAt w (elA (sl v1) i5 1) [(sl v12)]) (fun hg => ((hs.elem (i := 0) rfl) hg).sub 0 rfl) (fun _ hJ => (Run_load1 (v := (sl v12)) Tryd.underlying22 rfl (O rfl) hJ)) rfl rfl rfl rfl <| WD_pure (fun _ => (Run_move (O rfl))) rfl rfl rfl rfl <| WD_pure (fun _ => (Run_move (O rfl))) rfl rfl rfl rfl <| ?_
   obtain ⟨e16, he17, hm⟩ := bind_some' hm
   obtain ⟨v18, hC19, hN20, hR21⟩ := cellsM22 (g := true) (fun hg => (hs.sl (i := 3) rfl)) (fun hg => he17)
   replace hs := hs.addL [elem true (elA (sl v3) i5 1) [(sl v18)], imm (RSl (RI .i64)) [sl v18] e16] rfl ⟨fun hg => ⟨hN20 hg, hC19 hg⟩, ⟨_, rfl, hR21 rfl⟩, trivial⟩
   replace hs := Sat.n6 (Γ := Φ) hs rfl
   refine WD_pure (fun _ => (Run_idxAddr (p := (elA (sl v3) i5 1)) Tryd.underlying37 ti22 (O rfl) (O rfl) (fun hg => (SRd.atA (A := (RSl (RI .i64))) (v := (sl v3)) (hs.sl (i := 5) rfl) he17).1))) rfl rfl rfl rfl <| WD_op (fun w => true = true → CellsAt w (elA (sl v3) i5 1) [(sl v18)]) (fun hg => ((hs.elem (i := 0) rfl) hg).sub 0 rfl) (fun _ hJ => (Run_load1 (v := (sl v18)) Tryd.underlying22 rfl (O rfl) hJ)) rfl rfl rfl rfl <| ?_
   refine WD_loud (pend' := []) rfl (by kernel_rfl) ?_
   obtain ⟨r22, hr23, hm⟩ := bind_some' hm
   refine WL_call (f := 16) (first := []) (cap := []) (xs := [(.tmp 21), (.tmp 25)]) (vs := [(sl v12), (sl v18)]) (args := [(sl v12), (sl v18)]) Tryd.call16 Opd.f (.cons (O rfl) (.cons (O rfl) .nil)) rfl rfl (scrutinyref02_Vec_ok (hs.re 6 [3, 1, 0, 1, 2, 3, 4, 5] rfl) hr23) ?_
   rintro _ w24 ⟨rfl, hs⟩
   replace hs := Sat.n6 (Γ := Φ) hs rfl
   refine WL_nil ?_
   refine At_QK allJ_nil ?_
   refine WD_pure (fun _ => (Run_assign (O rfl))) rfl rfl rfl rfl <| ?_
   refine WD_nil ?_
   refine At_then <| WC_seq <| WC_region ?_
   refine Wo (Run_move (O rfl)) rfl <| Wo (Run_notB (O rfl)) rfl <| ?_
   refine WL_nil <| At_then ?_
   refine WC_cond (O rfl) (fun hc25 => ?_) (fun hc25 => ?_)
   ·
    replace hm := bif_t hc25 hm
    refine WC_seq <| WC_region ?_
    refine Wo (Run_assign Opd.c) rfl <| ?_
    refine WL_nil <| At_then ?_
    refine WC_ret ?_
    refine At_blk_ret <| At_then_ret <| At_then_ret <| At_blk_ret <| At_then_ret <| ?_
    refine At_r1 rfl (ResIs.t rfl) ?_
    cases hm
    exact ⟨rfl, (hs.re 6 [] rfl)⟩
   ·
    replace hm := bif_f hc25 hm
    refine WC_skip ?_
    refine At_blk_normal ?_
    refine At_then <| WC_region ?_
    refine Wo (Run_move (O rfl)) rfl <| Wo (Run_add (O rfl) Opd.c) rfl <| Wo (Run_assign (O rfl)) rfl <| ?_
    refine WL_nil ?_
    exact At_again (IntKind.i64.wrap (i5 + 1)) () hm (hs.re 6 [4, 5] rfl) rfl
  ·
   replace hm := bif_f hc7 hm
   refine WC_exit ?_
   refine At_then_exit <| At_then_exit <| At_blk_here <| ?_
   refine At_then <| WC_seq <| WC_region ?_
   refine Wo (Run_assign Opd.c) rfl <| ?_
   refine WL_nil <| At_then ?_
   refine WC_ret ?_
   refine At_r1 rfl (ResIs.t rfl) ?_
   cases hm
   exact ⟨rfl, (hs.re 2 [] rfl)⟩
set_option maxRecDepth 100000 in
set_option maxHeartbeats 4000000 in
theorem scrutinylaw15_shown_ok {Φ : Ctx} {w : World} {r : Bool} (hs : Sat (gl 0 (pow10L.map (Value.int .u64)) :: Φ) w) (hm : scrutinylaw15_shown = some r) :
  CallsR Tryd.prog 9 [] w (fun v w' => v = (.bool r) ∧ Sat (Φ) w') := by
 refine CallsX_enter Tryd.func9 rfl Tryd.ntmps9 rfl ?_
 unfold scrutinylaw15_shown at hm
 refine WC_seq <| WC_region ?_
 refine Wo (Run_assign Opd.c) rfl <| ?_
 refine WL_nil <| At_then <| WC_seq <| WC_region ?_
 obtain ⟨r3, hr4, hm⟩ := bind_some' hm
 refine WL_call (f := 10) (first := []) (cap := []) (xs := [(.const (.string ⟨#[118, 97, 114, 32, 120, 32, 48, 32, 50, 32, 48, 59, 32, 112, 114, 111, 99, 32, 80, 32, 123, 32, 120, 32, 60, 32, 50, 32, 58, 32, 120, 32, 61, 32, 120, 32, 43, 32, 49, 59, 32, 125]⟩))]) (vs := [(S [118, 97, 114, 32, 120, 32, 48, 32, 50, 32, 48, 59, 32, 112, 114, 111, 99, 32, 80, 32, 123, 32, 120, 32, 60, 32, 50, 32, 58, 32, 120, 32, 61, 32, 120, 32, 43, 32, 49, 59, 32, 125])]) (args := [(S [118, 97, 114, 32, 120, 32, 48, 32, 50, 32, 48, 59, 32, 112, 114, 111, 99, 32, 80, 32, 123, 32, 120, 32, 60, 32, 50, 32, 58, 32, 120, 32, 61, 32, 120, 32, 43, 32, 49, 59, 32, 125])]) Tryd.call10 Opd.f (.cons Opd.c .nil) rfl rfl (scrutinyref15_Of_ok (hs.re 1 [0] rfl) hr4) ?_
 rintro _ w15 ⟨v5, R6, v7, R8, v9, R10, v11, R12, v13, R14, rfl, hs⟩
 replace hs := Sat.n6 (Γ := Φ) hs rfl
 refine Wo (Run_move (O rfl)) rfl <| Wo (Run_extract (vs := [(.agg #[(sl v5), (sl v7), (sl v9), (sl v11), (sl v13)]), (.bool r3.2)]) (O rfl) rfl) rfl <| Wo (Run_extract (vs := [(.agg #[(sl v5), (sl v7), (sl v9), (sl v11), (sl v13)]), (.bool r3.2)]) (O rfl) rfl) rfl <| ?_
 refine WS_alloc (zs := [(sl (none, 0, 0)), (sl (none, 0, 0)), (sl (none, 0, 0)), (sl (none, 0, 0)), (sl (none, 0, 0))]) hs ti28 rfl rfl ?_
 intro b16 w17 hs
 replace hs := Sat.n7 (Γ := Φ) hs rfl
 refine WS_store (us := [(sl v5), (sl v7), (sl v9), (sl v11), (sl v13)]) (vs' := [(sl v5), (sl v7), (sl v9), (sl v11), (sl v13)]) hs 0 rfl ti28 (O rfl) (O rfl) rfl rfl rfl rfl rfl ?_
 intro w18 hs
 replace hs := Sat.n7 (Γ := Φ) hs rfl
 refine Wo (Run_assign (O rfl)) rfl <| ?_
 refine WL_nil <| At_then <| WC_seq <| WC_region ?_
 refine Wo (Run_loadA (vs := [(sl v5), (sl v7), (sl v9), (sl v11), (sl v13)]) Tryd.underlying28 rfl ti28 (O rfl) (fun _ => (hs.box (i := 0) rfl).part 0 rfl) rfl) rfl <| ?_
 replace hs := hs.freeze (i := 1) rfl
 replace hs := hs.freeze (i := 2) rfl
 replace hs := hs.freeze (i := 3) rfl
 replace hs := hs.freeze (i := 4) rfl
 replace hs := hs.freeze (i := 5) rfl
 obtain ⟨r19, hr20, hm⟩ := bind_some' hm
 refine WL_call (f := 20) (first := []) (cap := []) (xs := [(.tmp 25), (.const (.int .i64 9))]) (vs := [(.agg #[(sl v5), (sl v7), (sl v9), (sl v11), (sl v13)]), (.int .i64 9)]) (args := [(.agg #[(sl v5), (sl v7), (sl v9), (sl v11), (sl v13)]), (.int .i64 9)]) Tryd.call20 Opd.f (.cons (O rfl) (.cons Opd.c .nil)) rfl rfl (step_Reach_ok (hs.re 7 [1, 2, 3, 4, 5, 6, 0, 1, 2, 3, 4, 5, 6] rfl) hr20) ?_
 rintro _ w24 ⟨v21, R22, v23, rfl, hs⟩
 replace hs := Sat.n9 (Γ := Φ) hs rfl
 refine Wo (Run_move (O rfl)) rfl <| Wo (Run_extract (vs := [(sl v21), (.int .i64 r19.2.1), (sl v23)]) (O rfl) rfl) rfl <| Wo (Run_extract (vs := [(sl v21), (.int .i64 r19.2.1), (sl v23)]) (O rfl) rfl) rfl <| Wo (Run_extract (vs := [(sl v21), (.int .i64 r19.2.1), (sl v23)]) (O rfl) rfl) rfl <| Wo (Run_assign (O rfl)) rfl <| Wo (Run_assign (O rfl)) rfl <| Wo (Run_assign (O rfl)) rfl <| ?_
 refine WL_nil <| At_then <| WC_seq <| WC_region ?_
 refine Wo (Run_loadA (vs := [(sl v5), (sl v7), (sl v9), (sl v11), (sl v13)]) Tryd.underlying28 rfl ti28 (O rfl) (fun _ => (hs.box (i := 2) rfl).part 0 rfl) rfl) rfl <| ?_
 refine WS_lit (A := (RI .i64)) (xs := [2]) (zs := [(.int .i64 0)]) (cells := [(.int .i64 2)]) (parts := [(0, (.const (.int .i64 2)))]) hs Tryd.underlying22 ti3 rfl rfl rfl (.cons Opd.c .nil) (by kernel_rfl) rfl (ARd.cons (A := (RI .i64)) (c := [(.int .i64 2)]) (x := 2) rfl ARd.nil) rfl ?_
 intro b25 w26 hs
 replace hs := Sat.n10 (Γ := Φ) hs rfl
 replace hs := hs.freeze (i := 0) rfl
 obtain ⟨r27, hr28, hm⟩ := bind_some' hm
 refine WL_call (f := 14) (first := []) (cap := []) (xs := [(.tmp 31), (.tmp 32)]) (vs := [(.agg #[(sl v5), (sl v7), (sl v9), (sl v11), (sl v13)]), (sl (some ⟨b25, 0, none⟩, 1, 1))]) (args := [(.agg #[(sl v5), (sl v7), (sl v9), (sl v11), (sl v13)]), (sl (some ⟨b25, 0, none⟩, 1, 1))]) Tryd.call14 Opd.f (.cons (O rfl) (.cons (O rfl) .nil)) rfl rfl (step_Next_ok (hs.re 10 [4, 5, 6, 7, 8, 0, 9, 0, 1, 2, 3, 4, 5, 6, 7, 8, 9] rfl) hr28) ?_
 rintro _ w31 ⟨v29, R30, rfl, hs⟩
 replace hs := Sat.n11 (Γ := Φ) hs rfl
 refine Wo (Run_move (O rfl)) rfl <| Wo (Run_extract (vs := [(sl v29), (.int .i64 r27.2)]) (O rfl) rfl) rfl <| Wo (Run_extract (vs := [(sl v29), (.int .i64 r27.2)]) (O rfl) rfl) rfl <| Wo (Run_assign (O rfl)) rfl <| Wo (Run_assign (O rfl)) rfl <| ?_
 refine WL_nil <| At_then <| WC_seq <| WC_region ?_
 refine Wo (Run_loadA (vs := [(sl v5), (sl v7), (sl v9), (sl v11), (sl v13)]) Tryd.underlying28 rfl ti28 (O rfl) (fun _ => (hs.box (i := 4) rfl).part 0 rfl) rfl) rfl <| ?_
 refine WS_lit (A := (RI .i64)) (xs := [2]) (zs := [(.int .i64 0)]) (cells := [(.int .i64 2)]) (parts := [(0, (.const (.int .i64 2)))]) hs Tryd.underlying22 ti3 rfl rfl rfl (.cons Opd.c .nil) (by kernel_rfl) rfl (ARd.cons (A := (RI .i64)) (c := [(.int .i64 2)]) (x := 2) rfl ARd.nil) rfl ?_
 intro b32 w33 hs
 replace hs := Sat.n12 (Γ := Φ) hs rfl
 replace hs := hs.freeze (i := 0) rfl
 obtain ⟨r34, hr35, hm⟩ := bind_some' hm
 refine WL_call (f := 12) (first := []) (cap := []) (xs := [(.tmp 37), (.tmp 38), (.const (.int .i64 0))]) (vs := [(.agg #[(sl v5), (sl v7), (sl v9), (sl v11), (sl v13)]), (sl (some ⟨b32, 0, none⟩, 1, 1)), (.int .i64 0)]) (args := [(.agg #[(sl v5), (sl v7), (sl v9), (sl v11), (sl v13)]), (sl (some ⟨b32, 0, none⟩, 1, 1)), (.int .i64 0)]) Tryd.call12 Opd.f (.cons (O rfl) (.cons (O rfl) (.cons Opd.c .nil))) rfl rfl (step_Fire_ok (hs.re 12 [6, 7, 8, 9, 10, 0, 0, 1, 2, 3, 4, 5, 6, 7, 8, 9, 10, 11] rfl) hr35) ?_
 rintro _ w38 ⟨v36, R37, rfl, hs⟩
 replace hs := Sat.n13 (Γ := Φ) hs rfl
 refine Wo (Run_move (O rfl)) rfl <| Wo (Run_extract (vs := [(sl v36), (.int .i64 r34.2)]) (O rfl) rfl) rfl <| Wo (Run_extract (vs := [(sl v36), (.int .i64 r34.2)]) (O rfl) rfl) rfl <| Wo (Run_assign (O rfl)) rfl <| Wo (Run_assign (O rfl)) rfl <| ?_
 refine WL_nil <| At_then <| WC_seq <| WC_region ?_
 refine Wo (Run_loadA (vs := [(sl v5), (sl v7), (sl v9), (sl v11), (sl v13)]) Tryd.underlying28 rfl ti28 (O rfl) (fun _ => (hs.box (i := 6) rfl).part 0 rfl) rfl) rfl <| ?_
 refine WS_lit (A := (RI .i64)) (xs := [2]) (zs := [(.int .i64 0)]) (cells := [(.int .i64 2)]) (parts := [(0, (.const (.int .i64 2)))]) hs Tryd.underlying22 ti3 rfl rfl rfl (.cons Opd.c .nil) (by kernel_rfl) rfl (ARd.cons (A := (RI .i64)) (c := [(.int .i64 2)]) (x := 2) rfl ARd.nil) rfl ?_
 intro b39 w40 hs
 replace hs := Sat.n14 (Γ := Φ) hs rfl
 replace hs := hs.freeze (i := 0) rfl
 obtain ⟨r41, hr42, hm⟩ := bind_some' hm
 refine WL_call (f := 12) (first := []) (cap := []) (xs := [(.tmp 43), (.tmp 44), (.const (.int .i64 1))]) (vs := [(.agg #[(sl v5), (sl v7), (sl v9), (sl v11), (sl v13)]), (sl (some ⟨b39, 0, none⟩, 1, 1)), (.int .i64 1)]) (args := [(.agg #[(sl v5), (sl v7), (sl v9), (sl v11), (sl v13)]), (sl (some ⟨b39, 0, none⟩, 1, 1)), (.int .i64 1)]) Tryd.call12 Opd.f (.cons (O rfl) (.cons (O rfl) (.cons Opd.c .nil))) rfl rfl (step_Fire_ok (hs.re 14 [8, 9, 10, 11, 12, 0, 0, 1, 2, 3, 4, 5, 6, 7, 8, 9, 10, 11, 12, 13] rfl) hr42) ?_
 rintro _ w45 ⟨v43, R44, rfl, hs⟩
 replace hs := Sat.n15 (Γ := Φ) hs rfl
 refine Wo (Run_move (O rfl)) rfl <| Wo (Run_extract (vs := [(sl v43), (.int .i64 r41.2)]) (O rfl) rfl) rfl <| Wo (Run_extract (vs := [(sl v43), (.int .i64 r41.2)]) (O rfl) rfl) rfl <| Wo (Run_assign (O rfl)) rfl <| Wo (Run_assign (O rfl)) rfl <| ?_
 refine WL_nil <| At_then <| WC_seq <| WC_region ?_
 refine Wo (Run_loadA (vs := [(sl v5), (sl v7), (sl v9), (sl v11), (sl v13)]) Tryd.underlying28 rfl ti28 (O rfl) (fun _ => (hs.box (i := 8) rfl).part 0 rfl) rfl) rfl <| ?_
 obtain ⟨r46, hr47, hm⟩ := bind_some' hm
 refine WL_call (f := 20) (first := []) (cap := []) (xs := [(.tmp 49), (.const (.int .i64 2))]) (vs := [(.agg #[(sl v5), (sl v7), (sl v9), (sl v11), (sl v13)]), (.int .i64 2)]) (args := [(.agg #[(sl v5), (sl v7), (sl v9), (sl v11), (sl v13)]), (.int .i64 2)]) Tryd.call20 Opd.f (.cons (O rfl) (.cons Opd.c .nil)) rfl rfl (step_Reach_ok (hs.re 15 [9, 10, 11, 12, 13, 14, 0, 1, 2, 3, 4, 5, 6, 7, 8, 9, 10, 11, 12, 13, 14] rfl) hr47) ?_
 rintro _ w51 ⟨v48, R49, v50, rfl, hs⟩
 replace hs := Sat.n17 (Γ := Φ) hs rfl
 refine Wo (Run_move (O rfl)) rfl <| Wo (Run_extract (vs := [(sl v48), (.int .i64 r46.2.1), (sl v50)]) (O rfl) rfl) rfl <| Wo (Run_extract (vs := [(sl v48), (.int .i64 r46.2.1), (sl v50)]) (O rfl) rfl) rfl <| Wo (Run_extract (vs := [(sl v48), (.int .i64 r46.2.1), (sl v50)]) (O rfl) rfl) rfl <| Wo (Run_assign (O rfl)) rfl <| Wo (Run_assign (O rfl)) rfl <| Wo (Run_assign (O rfl)) rfl <| ?_
 refine WL_nil <| At_then <| WC_seq <| WC_region ?_
 obtain ⟨r52, hr53, hm⟩ := bind_some' hm
 refine WL_call (f := 10) (first := []) (cap := []) (xs := [(.const (.string ⟨#[118, 97, 114, 32, 120, 32, 48, 32, 50, 32, 48, 59, 32, 112, 114, 111, 99, 32, 80, 32, 123, 32, 116, 114, 117, 101, 32, 58, 32, 120, 32, 61, 32, 120, 32, 43, 32, 49, 59, 32, 125]⟩))]) (vs := [(S [118, 97, 114, 32, 120, 32, 48, 32, 50, 32, 48, 59, 32, 112, 114, 111, 99, 32, 80, 32, 123, 32, 116, 114, 117, 101, 32, 58, 32, 120, 32, 61, 32, 120, 32, 43, 32, 49, 59, 32, 125])]) (args := [(S [118, 97, 114, 32, 120, 32, 48, 32, 50, 32, 48, 59, 32, 112, 114, 111, 99, 32, 80, 32, 123, 32, 116, 114, 117, 101, 32, 58, 32, 120, 32, 61, 32, 120, 32, 43, 32, 49, 59, 32, 125])]) Tryd.call10 Opd.f (.cons Opd.c .nil) rfl rfl (scrutinyref15_Of_ok (hs.re 17 [0, 1, 2, 3, 4, 5, 6, 7, 8, 9, 10, 11, 12, 13, 14, 15, 16] rfl) hr53) ?_
 rintro _ w64 ⟨v54, R55, v56, R57, v58, R59, v60, R61, v62, R63, rfl, hs⟩
 replace hs := Sat.n22 (Γ := Φ) hs rfl
 refine Wo (Run_move (O rfl)) rfl <| Wo (Run_extract (vs := [(.agg #[(sl v54), (sl v56), (sl v58), (sl v60), (sl v62)]), (.bool r52.2)]) (O rfl) rfl) rfl <| Wo (Run_extract (vs := [(.agg #[(sl v54), (sl v56), (sl v58), (sl v60), (sl v62)]), (.bool r52.2)]) (O rfl) rfl) rfl <| ?_
 refine WS_alloc (zs := [(sl (none, 0, 0)), (sl (none, 0, 0)), (sl (none, 0, 0)), (sl (none, 0, 0)), (sl (none, 0, 0))]) hs ti28 rfl rfl ?_
 intro b65 w66 hs
 replace hs := Sat.n23 (Γ := Φ) hs rfl
 refine WS_store (us := [(sl v54), (sl v56), (sl v58), (sl v60), (sl v62)]) (vs' := [(sl v54), (sl v56), (sl v58), (sl v60), (sl v62)]) hs 0 rfl ti28 (O rfl) (O rfl) rfl rfl rfl rfl rfl ?_
 intro w67 hs
 replace hs := Sat.n23 (Γ := Φ) hs rfl
 refine Wo (Run_assign (O rfl)) rfl <| ?_
 refine WL_nil <| At_then <| WC_seq <| WC_region ?_
 refine Wo (Run_loadA (vs := [(sl v54), (sl v56), (sl v58), (sl v60), (sl v62)]) Tryd.underlying28 rfl ti28 (O rfl) (fun _ => (hs.box (i := 0) rfl).part 0 rfl) rfl) rfl <| ?_
 replace hs := hs.freeze (i := 1) rfl
 replace hs := hs.freeze (i := 2) rfl
 replace hs := hs.freeze (i := 3) rfl
 replace hs := hs.freeze (i := 4) rfl
 replace hs := hs.freeze (i := 5) rfl
 obtain ⟨r68, hr69, hm⟩ := bind_some' hm
 refine WL_call (f := 20) (first := []) (cap := []) (xs := [(.tmp 59), (.const (.int .i64 9))]) (vs := [(.agg #[(sl v54), (sl v56), (sl v58), (sl v60), (sl v62)]), (.int .i64 9)]) (args := [(.agg #[(sl v54), (sl v56), (sl v58), (sl v60), (sl v62)]), (.int .i64 9)]) Tryd.call20 Opd.f (.cons (O rfl) (.cons Opd.c .nil)) rfl rfl (step_Reach_ok (hs.re 23 [1, 2, 3, 4, 5, 22, 0, 1, 2, 3, 4, 5, 6, 7, 8, 9, 10, 11, 12, 13, 14, 15, 16, 17, 18, 19, 20, 21, 22] rfl) hr69) ?_
 rintro _ w73 ⟨v70, R71, v72, rfl, hs⟩
 replace hs := hs.re 25 [0, 1, 14, 16, 18, 19, 20, 21, 22, 23, 24] rfl
 replace hs := Sat.n11 (Γ := Φ) hs rfl
 refine Wo (Run_move (O rfl)) rfl <| Wo (Run_extract (vs := [(sl v70), (.int .i64 r68.2.1), (sl v72)]) (O rfl) rfl) rfl <| Wo (Run_extract (vs := [(sl v70), (.int .i64 r68.2.1), (sl v72)]) (O rfl) rfl) rfl <| Wo (Run_extract (vs := [(sl v70), (.int .i64 r68.2.1), (sl v72)]) (O rfl) rfl) rfl <| Wo (Run_assign (O rfl)) rfl <| Wo (Run_assign (O rfl)) rfl <| Wo (Run_assign (O rfl)) rfl <| ?_
 refine WL_nil <| At_then <| WC_seq <| WC_region ?_
 refine Wo (Run_move (O rfl)) rfl <| Wo (Run_move (O rfl)) rfl <| WL_opG rfl rfl rfl rfl guard_pos (Run_move (O rfl)) rfl rfl rfl <| ?_
 obtain ⟨b74, e75, hm⟩ := letv_some hm
 refine Wo (Run.eqB (Run_and (O rfl) (Opd.g rfl id)) e75) rfl <| Wo (Run_move (O rfl)) rfl <| WL_opG rfl rfl rfl rfl guard_pos (Run_move (O rfl)) rfl rfl rfl <| ?_
 obtain ⟨b76, e77, hm⟩ := letv_some hm
 refine WL_opG rfl rfl rfl rfl guard_pos (Run.eqB (Run_eqI (Opd.g rfl id) Opd.c) e77) rfl rfl rfl <| ?_
 obtain ⟨b78, e79, hm⟩ := letv_some hm
 refine Wo (Run.eqB (Run_and (O rfl) (Opd.g rfl id)) e79) rfl <| Wo (Run_move (O rfl)) rfl <| WL_opG rfl rfl rfl rfl guard_pos (Run_move (O rfl)) rfl rfl rfl <| ?_
 refine WS_litG (A := (RI .i64)) (xs := [0]) (zs := [(.int .i64 0)]) (cells := [(.int .i64 0)]) (parts := [(0, (.const (.int .i64 0)))]) rfl rfl rfl guard_pos hs Tryd.underlying22 ti3 rfl rfl rfl (.cons Opd.c .nil) (by kernel_rfl) rfl (fun hg => (ARd.cons (A := (RI .i64)) (c := [(.int .i64 0)]) (x := 0) rfl ARd.nil)) rfl ?_
 intro v80 w81 hs
 refine WS_litG (A := (RI .i64)) (xs := [1]) (zs := [(.int .i64 0)]) (cells := [(.int .i64 1)]) (parts := [(0, (.const (.int .i64 1)))]) rfl rfl rfl guard_pos hs Tryd.underlying22 ti3 rfl rfl rfl (.cons Opd.c .nil) (by kernel_rfl) rfl (fun hg => (ARd.cons (A := (RI .i64)) (c := [(.int .i64 1)]) (x := 1) rfl ARd.nil)) rfl ?_
 intro v82 w83 hs
 refine WS_litG (A := (RI .i64)) (xs := [2]) (zs := [(.int .i64 0)]) (cells := [(.int .i64 2)]) (parts := [(0, (.const (.int .i64 2)))]) rfl rfl rfl guard_pos hs Tryd.underlying22 ti3 rfl rfl rfl (.cons Opd.c .nil) (by kernel_rfl) rfl (fun hg => (ARd.cons (A := (RI .i64)) (c := [(.int .i64 2)]) (x := 2) rfl ARd.nil)) rfl ?_
 intro v84 w85 hs
 refine WS_litG (A := (RSl (RI .i64))) (xs := [([0] : List Int), ([1] : List Int), ([2] : List Int)]) (zs := [(sl (none, 0, 0))]) (cells := [(sl v80), (sl v82), (sl v84)]) (parts := [(0, (.tmp 74)), (1, (.tmp 75)), (2, (.tmp 76))]) rfl rfl rfl guard_pos hs Tryd.underlying37 ti22 rfl rfl rfl (.cons (Opd.g rfl id) (.cons (Opd.g rfl id) (.cons (Opd.g rfl id) .nil))) (by kernel_rfl) rfl (fun hg => (ARd.cons (A := (RSl (RI .i64))) (c := [(sl v80)]) (x := ([0] : List Int)) ⟨_, rfl, ((hs.slG (i := 2) rfl) hg)⟩ (ARd.cons (A := (RSl (RI .i64))) (c := [(sl v82)]) (x := ([1] : List Int)) ⟨_, rfl, ((hs.slG (i := 1) rfl) hg)⟩ (ARd.cons (A := (RSl (RI .i64))) (c := [(sl v84)]) (x := ([2] : List Int)) ⟨_, rfl, ((hs.slG (i := 0) rfl) hg)⟩ ARd.nil)))) rfl ?_
 intro v86 w87 hs
 replace hs := hs.freeze (i := 7) rfl
 obtain ⟨r88, hr89, -, hm⟩ := callG_some hm
 refine WL_callG rfl rfl rfl guard_pos (f := 19) (first := []) (cap := []) (xs := [(.tmp 73), (.tmp 77)]) (vs := [(sl v21), (sl v86)]) (args := [(sl v21), (sl v86)]) Tryd.call19 Opd.f (.cons (Opd.g rfl id) (.cons (Opd.g rfl id) .nil)) rfl rfl (fun hg => scrutinyref02_Vecs_ok ((hs.dupS (i := 0) rfl hg).re 16 [8, 0, 1, 2, 3, 4, 5, 6, 7, 8, 9, 10, 11, 12, 13, 14, 15] rfl) (hr89 hg)) ?_
 intro v91 w90 hv92 hz93
 replace hs := Sat.ofG (fun hg => (hv92 hg).2.re 15 [0, 1, 2, 3, 4, 5, 6, 7, 8, 9, 10, 11, 12, 13, 14] rfl) hz93 hs
 refine WL_sub1 (v := (.bool r88)) (fun hg => (hv92 hg).1) ?_
 replace hs := Sat.n15 (Γ := Φ) hs rfl
 obtain ⟨b94, e95, hm⟩ := letv_some hm
 refine Wo (Run.eqB (Run_and (O rfl) (Opd.g rfl id)) e95) rfl <| Wo (Run_move (O rfl)) rfl <| WL_opG rfl rfl rfl rfl guard_pos (Run_move (O rfl)) rfl rfl rfl <| ?_
 obtain ⟨b96, e97, hm⟩ := letv_some hm
 refine WL_opG rfl rfl rfl rfl guard_pos (Run.eqB (Run_eqI (Opd.g rfl id) Opd.c) e97) rfl rfl rfl <| ?_
 obtain ⟨b98, e99, hm⟩ := letv_some hm
 refine Wo (Run.eqB (Run_and (O rfl) (Opd.g rfl id)) e99) rfl <| Wo (Run_move (O rfl)) rfl <| WL_opG rfl rfl rfl rfl guard_pos (Run_move (O rfl)) rfl rfl rfl <| ?_
 refine WS_litG (A := (RI .i64)) (xs := [2]) (zs := [(.int .i64 0)]) (cells := [(.int .i64 2)]) (parts := [(0, (.const (.int .i64 2)))]) rfl rfl rfl guard_pos hs Tryd.underlying22 ti3 rfl rfl rfl (.cons Opd.c .nil) (by kernel_rfl) rfl (fun hg => (ARd.cons (A := (RI .i64)) (c := [(.int .i64 2)]) (x := 2) rfl ARd.nil)) rfl ?_
 intro v100 w101 hs
 refine WS_litG (A := (RSl (RI .i64))) (xs := [([2] : List Int)]) (zs := [(sl (none, 0, 0))]) (cells := [(sl v100)]) (parts := [(0, (.tmp 86))]) rfl rfl rfl guard_pos hs Tryd.underlying37 ti22 rfl rfl rfl (.cons (Opd.g rfl id) .nil) (by kernel_rfl) rfl (fun hg => (ARd.cons (A := (RSl (RI .i64))) (c := [(sl v100)]) (x := ([2] : List Int)) ⟨_, rfl, ((hs.slG (i := 0) rfl) hg)⟩ ARd.nil)) rfl ?_
 intro v102 w103 hs
 replace hs := hs.freeze (i := 8) rfl
 obtain ⟨r104, hr105, -, hm⟩ := callG_some hm
 refine WL_callG rfl rfl rfl guard_pos (f := 19) (first := []) (cap := []) (xs := [(.tmp 85), (.tmp 87)]) (vs := [(sl v29), (sl v102)]) (args := [(sl v29), (sl v102)]) Tryd.call19 Opd.f (.cons (Opd.g rfl id) (.cons (Opd.g rfl id) .nil)) rfl rfl (fun hg => scrutinyref02_Vecs_ok ((hs.dupS (i := 0) rfl hg).re 18 [9, 0, 1, 2, 3, 4, 5, 6, 7, 8, 9, 10, 11, 12, 13, 14, 15, 16, 17] rfl) (hr105 hg)) ?_
 intro v107 w106 hv108 hz109
 replace hs := Sat.ofG (fun hg => (hv108 hg).2.re 17 [0, 1, 2, 3, 4, 5, 6, 7, 8, 9, 10, 11, 12, 13, 14, 15, 16] rfl) hz109 hs
 refine WL_sub1 (v := (.bool r104)) (fun hg => (hv108 hg).1) ?_
 replace hs := Sat.n17 (Γ := Φ) hs rfl
 obtain ⟨b110, e111, hm⟩ := letv_some hm
 refine Wo (Run.eqB (Run_and (O rfl) (Opd.g rfl id)) e111) rfl <| Wo (Run_move (O rfl)) rfl <| WL_opG rfl rfl rfl rfl guard_pos (Run_move (O rfl)) rfl rfl rfl <| ?_
 obtain ⟨b112, e113, hm⟩ := letv_some hm
 refine WL_opG rfl rfl rfl rfl guard_pos (Run.eqB (Run_eqI (Opd.g rfl id) Opd.c) e113) rfl rfl rfl <| ?_
 obtain ⟨b114, e115, hm⟩ := letv_some hm
 refine Wo (Run.eqB (Run_and (O rfl) (Opd.g rfl id)) e115) rfl <| Wo (Run_move (O rfl)) rfl <| WL_opG rfl rfl rfl rfl guard_pos (Run_move (O rfl)) rfl rfl rfl <| ?_
 obtain ⟨b116, e117, hm⟩ := letv_some hm
 refine WL_opG rfl rfl rfl rfl guard_pos (Run.eqB (Run_eqI (Opd.g rfl id) Opd.c) e117) rfl rfl rfl <| ?_
 obtain ⟨b118, e119, hm⟩ := letv_some hm
 refine Wo (Run.eqB (Run_and (O rfl) (Opd.g rfl id)) e119) rfl <| Wo (Run_move (O rfl)) rfl <| WL_opG rfl rfl rfl rfl guard_pos (Run_move (O rfl)) rfl rfl rfl <| ?_
 obtain ⟨b120, e121, hm⟩ := letv_some hm
 refine WL_opG rfl rfl rfl rfl guard_pos (Run.eqB (Run_eqI (Opd.g rfl id) Opd.c) e121) rfl rfl rfl <| ?_
 obtain ⟨b122, e123, hm⟩ := letv_some hm
 refine Wo (Run.eqB (Run_and (O rfl) (Opd.g rfl id)) e123) rfl <| Wo (Run_move (O rfl)) rfl <| WL_opG rfl rfl rfl rfl guard_pos (Run_move (O rfl)) rfl rfl rfl <| ?_
 obtain ⟨b124, e125, hm⟩ := letv_some hm
 refine WL_opG rfl rfl rfl rfl guard_pos (Run.eqB (Run_eqI (Opd.g rfl id) Opd.c) e125) rfl rfl rfl <| ?_
 obtain ⟨b126, e127, hm⟩ := letv_some hm
 refine Wo (Run.eqB (Run_and (O rfl) (Opd.g rfl id)) e127) rfl <| Wo (Run_move (O rfl)) rfl <| WL_opG rfl rfl rfl rfl guard_pos (Run_move (O rfl)) rfl rfl rfl <| ?_
 refine WS_litG (A := (RI .i64)) (xs := [2]) (zs := [(.int .i64 0)]) (cells := [(.int .i64 2)]) (parts := [(0, (.const (.int .i64 2)))]) rfl rfl rfl guard_pos hs Tryd.underlying22 ti3 rfl rfl rfl (.cons Opd.c .nil) (by kernel_rfl) rfl (fun hg => (ARd.cons (A := (RI .i64)) (c := [(.int .i64 2)]) (x := 2) rfl ARd.nil)) rfl ?_
 intro v128 w129 hs
 obtain ⟨r130, hr131, -, hm⟩ := callG_some hm
 refine WL_callG rfl rfl rfl guard_pos (f := 16) (first := []) (cap := []) (xs := [(.tmp 107), (.tmp 108)]) (vs := [(sl v72), (sl v128)]) (args := [(sl v72), (sl v128)]) Tryd.call16 Opd.f (.cons (Opd.g rfl id) (.cons (Opd.g rfl id) .nil)) rfl rfl (fun hg => scrutinyref02_Vec_ok ((hs.dupS (i := 0) rfl hg).re 19 [9, 0, 1, 2, 3, 4, 5, 6, 7, 8, 9, 10, 11, 12, 13, 14, 15, 16, 17, 18] rfl) (hr131 hg)) ?_
 intro v133 w132 hv134 hz135
 replace hs := Sat.ofG (fun hg => (hv134 hg).2.re 18 [0, 1, 2, 3, 4, 5, 6, 7, 8, 9, 10, 11, 12, 13, 14, 15, 16, 17] rfl) hz135 hs
 refine WL_sub1 (v := (.bool r130)) (fun hg => (hv134 hg).1) ?_
 replace hs := Sat.n18 (Γ := Φ) hs rfl
 obtain ⟨b136, e137, hm⟩ := letv_some hm
 refine Wo (Run.eqB (Run_and (O rfl) (Opd.g rfl id)) e137) rfl <| Wo (Run_move (O rfl)) rfl <| WL_opG rfl rfl rfl rfl guard_pos (Run_loadA (vs := [(sl v5), (sl v7), (sl v9), (sl v11), (sl v13)]) Tryd.underlying28 rfl ti28 (O rfl) (fun _ => (hs.box (i := 11) rfl).part 0 rfl) rfl) rfl rfl rfl <| ?_
 refine WS_litG (A := (RI .i64)) (xs := [1]) (zs := [(.int .i64 0)]) (cells := [(.int .i64 1)]) (parts := [(0, (.const (.int .i64 1)))]) rfl rfl rfl guard_pos hs Tryd.underlying22 ti3 rfl rfl rfl (.cons Opd.c .nil) (by kernel_rfl) rfl (fun hg => (ARd.cons (A := (RI .i64)) (c := [(.int .i64 1)]) (x := 1) rfl ARd.nil)) rfl ?_
 intro v138 w139 hs
 obtain ⟨r140, hr141, -, hm⟩ := callG_some hm
 refine WL_callG rfl rfl rfl guard_pos (f := 17) (first := []) (cap := []) (xs := [(.tmp 112), (.tmp 113)]) (vs := [(.agg #[(sl v5), (sl v7), (sl v9), (sl v11), (sl v13)]), (sl v138)]) (args := [(.agg #[(sl v5), (sl v7), (sl v9), (sl v11), (sl v13)]), (sl v138)]) Tryd.call17 Opd.f (.cons (Opd.g rfl id) (.cons (Opd.g rfl id) .nil)) rfl rfl (fun hg => step_Enabled_ok ((hs.dupS (i := 0) rfl hg).re 20 [14, 15, 16, 17, 18, 0, 1, 2, 3, 4, 5, 6, 7, 8, 9, 10, 11, 12, 13, 14, 15, 16, 17, 18, 19] rfl) (hr141 hg)) ?_
 intro v145 w144 hv146 hz147
 obtain ⟨v142, hw148, hs⟩ : ∃ v142 : SLV, (b136 = true → v145 = (sl v142)) ∧ Sat (immG b136 (RSl (RI .i64)) [sl v142] r140 :: immG b136 (RSl (RI .i64)) [sl v138] ([1] : List Int) :: immG b126 (RSl (RI .i64)) [sl v128] ([2] : List Int) :: immG b98 (RSl (RSl (RI .i64))) [sl v102] ([([2] : List Int)] : List (List Int)) :: immG b98 (RSl (RI .i64)) [sl v100] ([2] : List Int) :: immG b78 (RSl (RSl (RI .i64))) [sl v86] ([([0] : List Int), ([1] : List Int), ([2] : List Int)] : List (List Int)) :: immG b78 (RSl (RI .i64)) [sl v84] ([2] : List Int) :: immG b78 (RSl (RI .i64)) [sl v82] ([1] : List Int) :: immG b78 (RSl (RI .i64)) [sl v80] ([0] : List Int) :: osl (RSl (RI .i64)) 22 (sl v70) r68.1 R71 :: imm (RSl (RI .i64)) [sl v72] r68.2.2 :: imm (RSl (RSl (RI .i64))) [sl v29] r27.1 :: imm (RSl (RSl (RI .i64))) [sl v21] r19.1 :: box b16 28 [(sl v5), (sl v7), (sl v9), (sl v11), (sl v13)] :: imm (RSl RS) [sl v5] r3.1.1 :: imm (RSl (RP (RI .i64) (RI .i64))) [sl v7] r3.1.2.1 :: imm (RSl (RI .i64)) [sl v9] r3.1.2.2.1 :: imm (RSl RS) [sl v11] r3.1.2.2.2.1 :: imm (RSl (RP (RI .i64) (RP RExpr (RSl (RP (RI .i64) RExpr))))) [sl v13] r3.1.2.2.2.2 :: gl 0 (pow10L.map (Value.int .u64)) :: Φ) w144 := by
  cases hg : b136
  ·rw [hg] at hs; rw [hz147 hg]; exact ⟨(none, 0, 0), (fun h => by cases h), (sat_addG0 hs rfl)⟩
  ·obtain ⟨v142, R143, hq, hs⟩ := hv146 hg
   replace hs := hs.freeze (i := 0) rfl
   replace hs := hs.re 20 [0, 1, 2, 3, 4, 5, 6, 7, 8, 9, 10, 11, 12, 13, 14, 15, 16, 17, 18, 19] rfl
   replace hs := sat_gate hs (i := 0) rfl true
   rw [hg] at hs
   exact ⟨v142, (fun _ => hq), hs⟩
 refine WL_sub1 (v := (sl v142)) hw148 ?_
 refine WS_litG (A := (RI .i64)) (xs := [0]) (zs := [(.int .i64 0)]) (cells := [(.int .i64 0)]) (parts := [(0, (.const (.int .i64 0)))]) rfl rfl rfl guard_pos hs Tryd.underlying22 ti3 rfl rfl rfl (.cons Opd.c .nil) (by kernel_rfl) rfl (fun hg => (ARd.cons (A := (RI .i64)) (c := [(.int .i64 0)]) (x := 0) rfl ARd.nil)) rfl ?_
 intro v149 w150 hs
 obtain ⟨r151, hr152, -, hm⟩ := callG_some hm
 refine WL_callG rfl rfl rfl guard_pos (f := 16) (first := []) (cap := []) (xs := [(.tmp 114), (.tmp 115)]) (vs := [(sl v142), (sl v149)]) (args := [(sl v142), (sl v149)]) Tryd.call16 Opd.f (.cons (Opd.g rfl id) (.cons (Opd.g rfl id) .nil)) rfl rfl (fun hg => scrutinyref02_Vec_ok (((hs.dupS (i := 1) rfl hg).dupS (i := 1) rfl hg).re 23 [1, 0, 2, 3, 4, 5, 6, 7, 8, 9, 10, 11, 12, 13, 14, 15, 16, 17, 18, 19, 20, 21, 22] rfl) (hr152 hg)) ?_
 intro v154 w153 hv155 hz156
 replace hs := Sat.ofG (fun hg => (hv155 hg).2.re 21 [0, 1, 2, 3, 4, 5, 6, 7, 8, 9, 10, 11, 12, 13, 14, 15, 16, 17, 18, 19, 20] rfl) hz156 hs
 refine WL_sub1 (v := (.bool r151)) (fun hg => (hv155 hg).1) ?_
 replace hs := Sat.n21 (Γ := Φ) hs rfl
 obtain ⟨b157, e158, hm⟩ := letv_some hm
 refine Wo (Run.eqB (Run_and (O rfl) (Opd.g rfl id)) e158) rfl <| Wo (Run_move (O rfl)) rfl <| WL_opG rfl rfl rfl rfl guard_pos (Run_loadA (vs := [(sl v5), (sl v7), (sl v9), (sl v11), (sl v13)]) Tryd.underlying28 rfl ti28 (O rfl) (fun _ => (hs.box (i := 14) rfl).part 0 rfl) rfl) rfl rfl rfl <| ?_
 refine WS_litG (A := (RI .i64)) (xs := [2]) (zs := [(.int .i64 0)]) (cells := [(.int .i64 2)]) (parts := [(0, (.const (.int .i64 2)))]) rfl rfl rfl guard_pos hs Tryd.underlying22 ti3 rfl rfl rfl (.cons Opd.c .nil) (by kernel_rfl) rfl (fun hg => (ARd.cons (A := (RI .i64)) (c := [(.int .i64 2)]) (x := 2) rfl ARd.nil)) rfl ?_
 intro v159 w160 hs
 obtain ⟨r161, hr162, -, hm⟩ := callG_some hm
 refine WL_callG rfl rfl rfl guard_pos (f := 17) (first := []) (cap := []) (xs := [(.tmp 119), (.tmp 120)]) (vs := [(.agg #[(sl v5), (sl v7), (sl v9), (sl v11), (sl v13)]), (sl v159)]) (args := [(.agg #[(sl v5), (sl v7), (sl v9), (sl v11), (sl v13)]), (sl v159)]) Tryd.call17 Opd.f (.cons (Opd.g rfl id) (.cons (Opd.g rfl id) .nil)) rfl rfl (fun hg => step_Enabled_ok ((hs.dupS (i := 0) rfl hg).re 23 [17, 18, 19, 20, 21, 0, 1, 2, 3, 4, 5, 6, 7, 8, 9, 10, 11, 12, 13, 14, 15, 16, 17, 18, 19, 20, 21, 22] rfl) (hr162 hg)) ?_
 intro v166 w165 hv167 hz168
 obtain ⟨v163, hw169, hs⟩ : ∃ v163 : SLV, (b157 = true → v166 = (sl v163)) ∧ Sat (immG b157 (RSl (RI .i64)) [sl v163] r161 :: immG b157 (RSl (RI .i64)) [sl v159] ([2] : List Int) :: immG b136 (RSl (RI .i64)) [sl v149] ([0] : List Int) :: immG b136 (RSl (RI .i64)) [sl v142] r140 :: immG b136 (RSl (RI .i64)) [sl v138] ([1] : List Int) :: immG b126 (RSl (RI .i64)) [sl v128] ([2] : List Int) :: immG b98 (RSl (RSl (RI .i64))) [sl v102] ([([2] : List Int)] : List (List Int)) :: immG b98 (RSl (RI .i64)) [sl v100] ([2] : List Int) :: immG b78 (RSl (RSl (RI .i64))) [sl v86] ([([0] : List Int), ([1] : List Int), ([2] : List Int)] : List (List Int)) :: immG b78 (RSl (RI .i64)) [sl v84] ([2] : List Int) :: immG b78 (RSl (RI .i64)) [sl v82] ([1] : List Int) :: immG b78 (RSl (RI .i64)) [sl v80] ([0] : List Int) :: osl (RSl (RI .i64)) 22 (sl v70) r68.1 R71 :: imm (RSl (RI .i64)) [sl v72] r68.2.2 :: imm (RSl (RSl (RI .i64))) [sl v29] r27.1 :: imm (RSl (RSl (RI .i64))) [sl v21] r19.1 :: box b16 28 [(sl v5), (sl v7), (sl v9), (sl v11), (sl v13)] :: imm (RSl RS) [sl v5] r3.1.1 :: imm (RSl (RP (RI .i64) (RI .i64))) [sl v7] r3.1.2.1 :: imm (RSl (RI .i64)) [sl v9] r3.1.2.2.1 :: imm (RSl RS) [sl v11] r3.1.2.2.2.1 :: imm (RSl (RP (RI .i64) (RP RExpr (RSl (RP (RI .i64) RExpr))))) [sl v13] r3.1.2.2.2.2 :: gl 0 (pow10L.map (Value.int .u64)) :: Φ) w165 := by
  cases hg : b157
  ·rw [hg] at hs; rw [hz168 hg]; exact ⟨(none, 0, 0), (fun h => by cases h), (sat_addG0 hs rfl)⟩
  ·obtain ⟨v163, R164, hq, hs⟩ := hv167 hg
   replace hs := hs.freeze (i := 0) rfl
   replace hs := hs.re 23 [0, 1, 2, 3, 4, 5, 6, 7, 8, 9, 10, 11, 12, 13, 14, 15, 16, 17, 18, 19, 20, 21, 22] rfl
   replace hs := sat_gate hs (i := 0) rfl true
   rw [hg] at hs
   exact ⟨v163, (fun _ => hq), hs⟩
 refine WL_sub1 (v := (sl v163)) hw169 ?_
 refine WL_opG rfl rfl rfl rfl guard_pos (Run_lenSlG Tryd.underlying22 (Opd.g rfl id) (fun hg => ((hs.slG (i := 0) rfl) hg).len)) rfl rfl rfl <| ?_
 obtain ⟨b170, e171, hm⟩ := letv_some hm
 refine WL_opG rfl rfl rfl rfl guard_pos (Run.eqB (Run_eqI (Opd.g rfl id) Opd.c) e171) rfl rfl rfl <| ?_
 obtain ⟨b172, e173, hm⟩ := letv_some hm
 refine Wo (Run.eqB (Run_and (O rfl) (Opd.g rfl id)) e173) rfl <| Wo (Run_assign (O rfl)) rfl <| ?_
 refine WL_nil <| At_then ?_
 refine WC_ret ?_
 refine At_r1 rfl (ResIs.t rfl) ?_
 cases hm
 exact ⟨rfl, (hs.re 23 [] rfl)⟩
set_option maxRecDepth 100000 in
set_option maxHeartbeats 4000000 in
theorem scrutinyref02_In_ok {Φ : Ctx} {w : World} {s : (List (Int × Int))} {v3 : (List Int)} {v1 : SLV} {v4 : SLV} {r : Int} (hs : Sat (imm (RSl (RP (RI .i64) (RI .i64))) [sl v1] s :: imm (RSl (RI .i64)) [sl v4] v3 :: Φ) w) (hm : scrutinyref02_In s v3 = some r) :
  CallsR Tryd.prog 26 [(sl v1), (sl v4)] w (fun v w' => v = (.int .i64 r) ∧ Sat (Φ) w') := by
 refine CallsX_enter Tryd.func26 rfl Tryd.ntmps26 rfl ?_
 unfold scrutinyref02_In at hm
 refine WC_seq <| WC_region ?_
 refine Wo (Run_assign Opd.c) rfl <| ?_
 refine WL_nil <| At_then <| WC_seq <| WC_seq <| WC_region ?_
 refine Wo (Run_move (O rfl)) rfl <| Wo (Run_lenSlG Tryd.underlying22 (O rfl) (fun hg => (hs.sl (i := 1) rfl).len)) rfl <| Wo (Run_move (O rfl)) rfl <| Wo (Run_lenSlG Tryd.underlying25 (O rfl) (fun hg => (hs.sl (i := 0) rfl).len)) rfl <| Wo (Run_neI (O rfl) (O rfl)) rfl <| ?_
 refine WL_nil <| At_then ?_
 refine WC_cond (O rfl) (fun hc3 => ?_) (fun hc3 => ?_)
 ·
  replace hm := bif_t hc3 hm
  refine WC_seq <| WC_region ?_
  refine Wo (Run_assign Opd.c) rfl <| ?_
  refine WL_nil <| At_then ?_
  refine WC_ret ?_
  refine At_then_ret <| ?_
  refine At_r1 rfl (ResIs.t rfl) ?_
  cases hm
  exact ⟨rfl, (hs.re 2 [] rfl)⟩
 ·
  replace hm := bif_f hc3 hm
  refine WC_skip ?_
  refine At_then <| WC_seq <| WC_seq <| WC_region ?_
  refine Wo (Run_assign Opd.c) rfl <| ?_
  refine WL_nil <| At_then ?_
  refine WC_block ?_
  refine WC_loop (σ := Int) (γ := Unit) (F := (scrutinyref02_In_L1 s v3)) (N := FUEL) (s0 := 0) (r := r) (fun i5 (_ : Unit) w4 => Sat (imm (RSl (RP (RI .i64) (RI .i64))) [sl v1] s :: imm (RSl (RI .i64)) [sl v4] v3 :: Φ) w4) (fun i5 (_ : Unit) => [(0, true, (sl v1)), (1, true, (sl v4)), (5, true, (.int .i64 i5))]) hm () (hs.re 2 [0, 1] rfl) rfl ?_
  rintro again6 i5 _ w4 hm hs
  unfold scrutinyref02_In_L1 at hm
  refine WC_seq <| WC_seq <| WC_region ?_
  refine Wo (Run_move (O rfl)) rfl <| Wo (Run_move (O rfl)) rfl <| Wo (Run_lenSlG Tryd.underlying22 (O rfl) (fun hg => (hs.sl (i := 1) rfl).len)) rfl <| Wo (Run_ltI (O rfl) (O rfl)) rfl <| ?_
  refine WL_nil <| At_then ?_
  refine WC_cond (O rfl) (fun hc7 => ?_) (fun hc7 => ?_)
  ·
   replace hm := bif_t hc7 hm
   refine WC_skip ?_
   refine At_then <| WC_seq ?_
   refine WC_block ?_
   refine WC_seq ?_
   refine WC_region_mixed [0, 0, 3, 4, 0, 0, 48, 64, 128, 264, 512, 1024, 1024, 7168, 9216, 1024, 1024, 99328, 132096, 263168, 541696, 1049600] (.q 0 0 (.q 1 1 (.q 2 3 (.q 3 7 (.q 4 15 (.q 5 31 (.q 6 63 (.q 7 127 (.q 8 255 (.q 9 511 (.q 10 1023 (.q 11 2047 (.q 12 4095 (.q 13 8191 (.q 14 16383 (.q 15 32767 (.q 16 65535 (.q 17 131071 (.q 18 262143 (.q 19 524287 (.q 20 1048575 (.q 21 2097151 .nil)))))))))))))))))))))) (by kernel_rfl) (by kernel_rfl) ?_
   intro w8 hx9
   replace hs := hs.ext hx9
   refine WD_pure (fun _ => (Run_move (O rfl))) rfl rfl rfl rfl <| WD_pure (fun _ => (Run_move (O rfl))) rfl rfl rfl rfl <| ?_
   obtain ⟨e10, he11, hm⟩ := bind_some' hm
   refine WD_pure (fun _ => (Run_idxAddr (p := (elA (sl v4) i5 1)) Tryd.underlying22 ti3 (O rfl) (O rfl) (fun hg => (SRd.atA (A := (RI .i64)) (v := (sl v4)) (hs.sl (i := 1) rfl) he11).1))) rfl rfl rfl rfl <| WD_op (fun w => true = true → CellsAt w (elA (sl v4) i5 1) [(.int .i64 e10)]) (fun hg => (SRd.cellsF (A := (RI .i64)) (v := (sl v4)) (hs.sl (i := 1) rfl) he11 (fun _ h => openT3 h)).sub 0 rfl) (fun _ hJ => (Run_load1 (v := (.int .i64 e10)) Tryd.underlying3 rfl (O rfl) hJ)) rfl rfl rfl rfl <| WD_pure (fun _ => (Run_move (O rfl))) rfl rfl rfl rfl <| WD_pure (fun _ => (Run_move (O rfl))) rfl rfl rfl rfl <| ?_
   obtain ⟨e12, he13, hm⟩ := bind_some' hm
   refine WD_pure (fun _ => (Run_idxAddr (p := (elA (sl v1) i5 2)) Tryd.underlying25 ti72 (O rfl) (O rfl) (fun hg => (SRd.atA (A := (RP (RI .i64) (RI .i64))) (v := (sl v1)) (hs.sl (i := 0) rfl) he13).1))) rfl rfl rfl rfl <| WD_pure (fun _ => (Run_fieldAddr fo72_0 (O rfl))) rfl rfl rfl rfl <| WD_op (fun w => true = true → CellsAt w ((elA (sl v1) i5 2).add 0) [(.int .i64 e12.1)]) (fun hg => ((SRd.cellsF (A := (RP (RI .i64) (RI .i64))) (v := (sl v1)) (hs.sl (i := 0) rfl) he13 (fun _ h => openT72 h)).sub (us := [(.int .i64 e12.1)]) 0 rfl).sub 0 rfl) (fun _ hJ => (Run_load1 (v := (.int .i64 e12.1)) Tryd.underlying3 rfl (O rfl) hJ)) rfl rfl rfl rfl <| ?_
   obtain ⟨b14, e15, hm⟩ := letv_some hm
   refine WD_pure (fun _ => (Run.eqB (Run_ltI (O rfl) (O rfl)) e15)) rfl rfl rfl rfl <| WD_pure (fun _ => (Run_move (O rfl))) rfl rfl rfl rfl <| WD_pureG rfl rfl rfl rfl guard_neg (fun _ => (Run_move (O rfl))) rfl rfl rfl <| WD_pureG rfl rfl rfl rfl guard_neg (fun _ => (Run_move (O rfl))) rfl rfl rfl <| ?_
   obtain ⟨e16, he17, -, hm⟩ := callG_some hm
   refine WD_pureG rfl rfl rfl rfl guard_neg (fun _ => (Run_idxAddr (p := (elA (sl v4) i5 1)) Tryd.underlying22 ti3 (Opd.g rfl id) (Opd.g rfl id) (fun hg => (SRd.atA (A := (RI .i64)) (v := (sl v4)) (hs.sl (i := 1) rfl) (he17 hg)).1))) rfl rfl rfl <| WD_opG (fun w => (!b14) = true → CellsAt w (elA (sl v4) i5 1) [(.int .i64 e16)]) (fun hg => (SRd.cellsF (A := (RI .i64)) (v := (sl v4)) (hs.sl (i := 1) rfl) (he17 hg) (fun _ h => openT3 h)).sub 0 rfl) rfl rfl rfl rfl guard_neg (fun _ hJ => (Run_load1 (v := (.int .i64 e16)) Tryd.underlying3 rfl (Opd.g rfl id) hJ)) rfl rfl rfl <| WD_pureG rfl rfl rfl rfl guard_neg (fun _ => (Run_move (O rfl))) rfl rfl rfl <| WD_pureG rfl rfl rfl rfl guard_neg (fun _ => (Run_move (O rfl))) rfl rfl rfl <| ?_
   obtain ⟨e18, he19, -, hm⟩ := callG_some hm
   refine WD_pureG rfl rfl rfl rfl guard_neg (fun _ => (Run_idxAddr (p := (elA (sl v1) i5 2)) Tryd.underlying25 ti72 (Opd.g rfl id) (Opd.g rfl id) (fun hg => (SRd.atA (A := (RP (RI .i64) (RI .i64))) (v := (sl v1)) (hs.sl (i := 0) rfl) (he19 hg)).1))) rfl rfl rfl <| WD_pureG rfl rfl rfl rfl guard_neg (fun _ => (Run_fieldAddr fo72_1 (Opd.g rfl id))) rfl rfl rfl <| WD_opG (fun w => (!b14) = true → CellsAt w ((elA (sl v1) i5 2).add 1) [(.int .i64 e18.2)]) (fun hg => ((SRd.cellsF (A := (RP (RI .i64) (RI .i64))) (v := (sl v1)) (hs.sl (i := 0) rfl) (he19 hg) (fun _ h => openT72 h)).sub (us := [(.int .i64 e18.2)]) 1 rfl).sub 0 rfl) rfl rfl rfl rfl guard_neg (fun _ hJ => (Run_load1 (v := (.int .i64 e18.2)) Tryd.underlying3 rfl (Opd.g rfl id) hJ)) rfl rfl rfl <| ?_
   obtain ⟨b20, e21, hm⟩ := letv_some hm
   refine WD_pureG rfl rfl rfl rfl guard_neg (fun _ => (Run.eqB (Run_gtI (Opd.g rfl id) (Opd.g rfl id)) e21)) rfl rfl rfl <| ?_
   obtain ⟨b22, e23, hm⟩ := letv_some hm
   refine WD_pure (fun _ => (Run.eqB (Run_or (O rfl) (Opd.g rfl id)) e23)) rfl rfl rfl rfl <| ?_
   refine WD_nil ?_
   refine At_then ?_
   refine WC_cond (O rfl) (fun hc24 => ?_) (fun hc24 => ?_)
   ·
    replace hm := bif_t hc24 hm
    refine WC_seq <| WC_region ?_
    refine Wo (Run_assign Opd.c) rfl <| ?_
    refine WL_nil <| At_then ?_
    refine WC_ret ?_
    refine At_blk_ret <| At_then_ret <| At_then_ret <| At_blk_ret <| At_then_ret <| ?_
    refine At_r1 rfl (ResIs.t rfl) ?_
    cases hm
    exact ⟨rfl, (hs.re 2 [] rfl)⟩
   ·
    replace hm := bif_f hc24 hm
    refine WC_skip ?_
    refine At_blk_normal ?_
    refine At_then <| WC_region ?_
    refine Wo (Run_move (O rfl)) rfl <| Wo (Run_add (O rfl) Opd.c) rfl <| Wo (Run_assign (O rfl)) rfl <| ?_
    refine WL_nil ?_
    exact At_again (IntKind.i64.wrap (i5 + 1)) () hm (hs.re 2 [0, 1] rfl) rfl
  ·
   replace hm := bif_f hc7 hm
   refine WC_exit ?_
   refine At_then_exit <| At_then_exit <| At_blk_here <| ?_
   refine At_then <| WC_seq <| WC_region ?_
   refine Wo (Run_assign Opd.c) rfl <| ?_
   refine WL_nil <| At_then ?_
   refine WC_ret ?_
   refine At_r1 rfl (ResIs.t rfl) ?_
   cases hm
   exact ⟨rfl, (hs.re 2 [] rfl)⟩
set_option maxRecDepth 100000 in
set_option maxHeartbeats 4000000 in
theorem scrutinyref15_In_ok {Φ : Ctx} {w : World} {m : ((List Str) × (List (Int × Int)) × (List Int) × (List Str) × (List (Int × Ex × (List (Int × Ex)))))} {v11 : (List Int)} {v1 : SLV} {v3 : SLV} {v5 : SLV} {v7 : SLV} {v9 : SLV} {v12 : SLV} {r : Bool} (hs : Sat (imm (RSl RS) [sl v1] m.1 :: imm (RSl (RP (RI .i64) (RI .i64))) [sl v3] m.2.1 :: imm (RSl (RI .i64)) [sl v5] m.2.2.1 :: imm (RSl RS) [sl v7] m.2.2.2.1 :: imm (RSl (RP (RI .i64) (RP RExpr (RSl (RP (RI .i64) RExpr))))) [sl v9] m.2.2.2.2 :: imm (RSl (RI .i64)) [sl v12] v11 :: Φ) w) (hm : scrutinyref15_In m v11 = some r) :
  CallsR Tryd.prog 11 [(.agg #[(sl v1), (sl v3), (sl v5), (sl v7), (sl v9)]), (sl v12)] w (fun v w' => v = (.bool r) ∧ Sat (Φ) w') := by
 refine CallsX_enter Tryd.func11 rfl Tryd.ntmps11 rfl ?_
 unfold scrutinyref15_In at hm
 refine WC_seq <| WC_region ?_
 refine WS_box (zs := [(sl v1), (sl v3), (sl v5), (sl v7), (sl v9)]) hs (O rfl) rfl rfl ?_
 intro b3 w4 hs
 replace hs := Sat.n7 (Γ := Φ) hs rfl
 refine Wo (Run_assign Opd.c) rfl <| ?_
 refine WL_nil <| At_then <| WC_seq <| WC_region ?_
 refine Wo (Run_fieldAddr fo28_1 (O rfl)) rfl <| Wo (Run_load1 (v := (sl v3)) Tryd.underlying25 rfl (O rfl) (fun _ => (hs.box (i := 0) rfl).part 1 rfl)) rfl <| Wo (Run_move (O rfl)) rfl <| ?_
 obtain ⟨r5, hr6, hm⟩ := bind_some' hm
 refine WL_call (f := 26) (first := []) (cap := []) (xs := [(.tmp 6), (.tmp 7)]) (vs := [(sl v3), (sl v12)]) (args := [(sl v3), (sl v12)]) Tryd.call26 Opd.f (.cons (O rfl) (.cons (O rfl) .nil)) rfl rfl (scrutinyref02_In_ok (hs.re 7 [2, 6, 0, 1, 2, 3, 4, 5, 6] rfl) hr6) ?_
 rintro _ w7 ⟨rfl, hs⟩
 replace hs := Sat.n7 (Γ := Φ) hs rfl
 refine Wo (Run_eqI (O rfl) Opd.c) rfl <| Wo (Run_assign (O rfl)) rfl <| ?_
 refine WL_nil <| At_then ?_
 refine WC_ret ?_
 refine At_r1 rfl (ResIs.t rfl) ?_
 cases hm
 exact ⟨rfl, (hs.re 7 [] rfl)⟩
end Go.Proofs.YtjdabjpjafkogaaDoor
namespace Go.Proofs.YtjdabjpjafkogaaDoor
open Go.Proofs
set_option maxRecDepth 100000 in
set_option maxHeartbeats 4000000 in
theorem scrutinyref13_Deep_F_ok {k_scrutinyref13_Deep : (Ex × Int) → Option Int} (ih_scrutinyref13_Deep : ∀ {Φ : Ctx} {w : World} {e : Ex} {most : Int} {v1 : SLV} {r : Int}, Sat (imm (RSl RExpr) [sl v1] e.l :: Φ) w → k_scrutinyref13_Deep (e, most) = some r → CallsR Tryd.prog 33 [(.agg #[(.int .i64 e.op), (.int .i64 e.n), (.int .i64 e.at_), (sl v1)]), (.int .i64 most)] w (fun v w' => v = (.int .i64 r) ∧ Sat (Φ) w')) {Φ : Ctx} {w : World} {e : Ex} {most : Int} {v1 : SLV} {r : Int} (hs : Sat (imm (RSl RExpr) [sl v1] e.l :: Φ) w) (hm : scrutinyref13_Deep_F k_scrutinyref13_Deep e most = some r) :
  CallsR Tryd.prog 33 [(.agg #[(.int .i64 e.op), (.int .i64 e.n), (.int .i64 e.at_), (sl v1)]), (.int .i64 most)] w (fun v w' => v = (.int .i64 r) ∧ Sat (Φ) w') := by
 refine CallsX_enter Tryd.func33 rfl Tryd.ntmps33 rfl ?_
 unfold scrutinyref13_Deep_F at hm
 refine WC_seq <| WC_region ?_
 refine WS_box (zs := [(.int .i64 e.op), (.int .i64 e.n), (.int .i64 e.at_), (sl v1)]) hs (O rfl) rfl rfl ?_
 intro b3 w4 hs
 replace hs := Sat.n2 (Γ := Φ) hs rfl
 refine Wo (Run_assign Opd.c) rfl <| ?_
 refine WL_nil <| At_then <| WC_seq <| WC_region ?_
 refine Wo (Run_assign Opd.c) rfl <| ?_
 refine WL_nil <| At_then <| WC_seq <| WC_seq <| WC_region ?_
 refine Wo (Run_assign Opd.c) rfl <| ?_
 refine WL_nil <| At_then ?_
 refine WC_block ?_
 refine WC_loop (σ := Int × Int) (γ := Unit) (F := (scrutinyref13_Deep_L1 k_scrutinyref13_Deep e most)) (N := FUEL) (s0 := (1, 0)) (r := r) (fun ⟨d6, i7⟩ (_ : Unit) w5 => Sat (box b3 57 [(.int .i64 e.op), (.int .i64 e.n), (.int .i64 e.at_), (sl v1)] :: imm (RSl RExpr) [sl v1] e.l :: Φ) w5) (fun ⟨d6, i7⟩ (_ : Unit) => [(1, true, (.int .i64 most)), (2, true, (.pointer (some ⟨b3, 0, none⟩))), (5, true, (.int .i64 d6)), (6, true, (.int .i64 i7))]) hm () (hs.re 2 [0, 1] rfl) rfl ?_
 rintro again8 ⟨d6, i7⟩ _ w5 hm hs
 unfold scrutinyref13_Deep_L1 at hm
 dsimp only at hm
 refine WC_seq <| WC_seq <| WC_region ?_
 refine Wo (Run_move (O rfl)) rfl <| Wo (Run_fieldAddr fo57_3 (O rfl)) rfl <| Wo (Run_load1 (v := (sl v1)) Tryd.underlying55 rfl (O rfl) (fun _ => (hs.box (i := 0) rfl).part 3 rfl)) rfl <| Wo (Run_lenSlG Tryd.underlying55 (O rfl) (fun hg => (hs.sl (i := 1) rfl).len)) rfl <| ?_
 obtain ⟨b9, e10, hm⟩ := letv_some hm
 refine Wo (Run.eqB (Run_ltI (O rfl) (O rfl)) e10) rfl <| Wo (Run_move (O rfl)) rfl <| WL_opG rfl rfl rfl rfl guard_pos (Run_move (O rfl)) rfl rfl rfl <| ?_
 obtain ⟨b11, e12, hm⟩ := letv_some hm
 refine WL_opG rfl rfl rfl rfl guard_pos (Run.eqB (Run_gtI (Opd.g rfl id) Opd.c) e12) rfl rfl rfl <| ?_
 obtain ⟨b13, e14, hm⟩ := letv_some hm
 refine Wo (Run.eqB (Run_and (O rfl) (Opd.g rfl id)) e14) rfl <| ?_
 refine WL_nil <| At_then ?_
 refine WC_cond (O rfl) (fun hc15 => ?_) (fun hc15 => ?_)
 ·
  replace hm := bif_t hc15 hm
  refine WC_skip ?_
  refine At_then <| WC_seq ?_
  refine WC_block ?_
  refine WC_seq <| WC_region ?_
  refine Wo (Run_fieldAddr fo57_3 (O rfl)) rfl <| Wo (Run_load1 (v := (sl v1)) Tryd.underlying55 rfl (O rfl) (fun _ => (hs.box (i := 0) rfl).part 3 rfl)) rfl <| Wo (Run_move (O rfl)) rfl <| ?_
  obtain ⟨e16, he17, hm⟩ := bind_some' hm
  obtain ⟨v18, hC19, hN20, hR21⟩ := cellsM57 (g := true) (fun hg => (hs.sl (i := 1) rfl)) (fun hg => he17)
  replace hs := hs.addL [elem true (elA (sl v1) i7 4) [(.int .i64 e16.op), (.int .i64 e16.n), (.int .i64 e16.at_), (sl v18)], imm (RSl RExpr) [sl v18] e16.l] rfl ⟨fun hg => ⟨hN20 hg, hC19 hg⟩, ⟨_, rfl, hR21 rfl⟩, trivial⟩
  replace hs := Sat.n4 (Γ := Φ) hs rfl
  refine Wo (Run_idxAddr (p := (elA (sl v1) i7 4)) Tryd.underlying55 ti57 (O rfl) (O rfl) (fun hg => (SRd.atA (A := RExpr) (v := (sl v1)) (hs.sl (i := 3) rfl) he17).1)) rfl <| Wo (Run_loadA (vs := [(.int .i64 e16.op), (.int .i64 e16.n), (.int .i64 e16.at_), (sl v18)]) Tryd.underlying57 rfl ti57 (O rfl) (fun hg => ((hs.elem (i := 0) rfl) hg).sub 0 rfl) rfl) rfl <| Wo (Run_move (O rfl)) rfl <| Wo (Run_sub (O rfl) Opd.c) rfl <| ?_
  obtain ⟨r22, hr23, hm⟩ := bind_some' hm
  refine WL_call (f := 33) (first := []) (cap := []) (xs := [(.tmp 23), (.tmp 25)]) (vs := [(.agg #[(.int .i64 e16.op), (.int .i64 e16.n), (.int .i64 e16.at_), (sl v18)]), (.int .i64 (IntKind.i64.wrap (most - 1)))]) (args := [(.agg #[(.int .i64 e16.op), (.int .i64 e16.n), (.int .i64 e16.at_), (sl v18)]), (.int .i64 (IntKind.i64.wrap (most - 1)))]) Tryd.call33 Opd.f (.cons (O rfl) (.cons (O rfl) .nil)) rfl rfl (ih_scrutinyref13_Deep (hs.re 4 [1, 0, 1, 2, 3] rfl) hr23) ?_
  rintro _ w24 ⟨rfl, hs⟩
  replace hs := Sat.n4 (Γ := Φ) hs rfl
  refine Wo (Run_add Opd.c (O rfl)) rfl <| Wo (Run_assign (O rfl)) rfl <| ?_
  refine WL_nil <| At_then <| WC_seq <| WC_region ?_
  refine Wo (Run_move (O rfl)) rfl <| Wo (Run_move (O rfl)) rfl <| Wo (Run_gtI (O rfl) (O rfl)) rfl <| ?_
  refine WL_nil <| At_then ?_
  refine WC_cond (O rfl) (fun hc25 => ?_) (fun hc25 => ?_)
  ·
   replace hm := bif_t hc25 hm
   refine WC_region ?_
   refine Wo (Run_move (O rfl)) rfl <| Wo (Run_assign (O rfl)) rfl <| ?_
   refine WL_nil ?_
   refine At_blk_normal ?_
   refine At_then <| WC_region ?_
   refine Wo (Run_move (O rfl)) rfl <| Wo (Run_add (O rfl) Opd.c) rfl <| Wo (Run_assign (O rfl)) rfl <| ?_
   refine WL_nil ?_
   exact At_again ((IntKind.i64.wrap (1 + r22)), (IntKind.i64.wrap (i7 + 1))) () hm (hs.re 4 [2, 3] rfl) rfl
  ·
   replace hm := bif_f hc25 hm
   refine WC_skip ?_
   refine At_blk_normal ?_
   refine At_then <| WC_region ?_
   refine Wo (Run_move (O rfl)) rfl <| Wo (Run_add (O rfl) Opd.c) rfl <| Wo (Run_assign (O rfl)) rfl <| ?_
   refine WL_nil ?_
   exact At_again (d6, (IntKind.i64.wrap (i7 + 1))) () hm (hs.re 4 [2, 3] rfl) rfl
 ·
  replace hm := bif_f hc15 hm
  refine WC_exit ?_
  refine At_then_exit <| At_then_exit <| At_blk_here <| ?_
  refine At_then <| WC_seq <| WC_region ?_
  refine Wo (Run_move (O rfl)) rfl <| Wo (Run_assign (O rfl)) rfl <| ?_
  refine WL_nil <| At_then ?_
  refine WC_ret ?_
  refine At_r1 rfl (ResIs.t rfl) ?_
  cases hm
  exact ⟨rfl, (hs.re 2 [] rfl)⟩
set_option maxRecDepth 100000 in
set_option maxHeartbeats 4000000 in
theorem scrutinyref13_Deep_ok {Φ : Ctx} {w : World} {e : Ex} {most : Int} {v1 : SLV} {r : Int} (hs : Sat (imm (RSl RExpr) [sl v1] e.l :: Φ) w) (hm : scrutinyref13_Deep e most = some r) :
  CallsR Tryd.prog 33 [(.agg #[(.int .i64 e.op), (.int .i64 e.n), (.int .i64 e.at_), (sl v1)]), (.int .i64 most)] w (fun v w' => v = (.int .i64 r) ∧ Sat (Φ) w') := by
 have key : ∀ (N : Nat) {Φ : Ctx} {w : World} {e : Ex} {most : Int} {v1 : SLV} {r : Int}, Sat (imm (RSl RExpr) [sl v1] e.l :: Φ) w → fixN (fun k (s : (Ex × Int)) => scrutinyref13_Deep_F k s.1 s.2) N (e, most) = some r → CallsR Tryd.prog 33 [(.agg #[(.int .i64 e.op), (.int .i64 e.n), (.int .i64 e.at_), (sl v1)]), (.int .i64 most)] w (fun v w' => v = (.int .i64 r) ∧ Sat (Φ) w') := by
  intro N
  induction N with
  | zero => intros; rename_i h; cases h
  | succ N ih => intros; rename_i hs hm; rw [fixN_succ] at hm; exact scrutinyref13_Deep_F_ok (@ih) hs hm
 unfold scrutinyref13_Deep at hm
 exact key FUEL hs hm
set_option maxRecDepth 100000 in
set_option maxHeartbeats 4000000 in
theorem scrutinyref13_Many_F_ok {k_scrutinyref13_Many : (Ex × Int) → Option Int} (ih_scrutinyref13_Many : ∀ {Φ : Ctx} {w : World} {e : Ex} {most : Int} {v1 : SLV} {r : Int}, Sat (imm (RSl RExpr) [sl v1] e.l :: Φ) w → k_scrutinyref13_Many (e, most) = some r → CallsR Tryd.prog 34 [(.agg #[(.int .i64 e.op), (.int .i64 e.n), (.int .i64 e.at_), (sl v1)]), (.int .i64 most)] w (fun v w' => v = (.int .i64 r) ∧ Sat (Φ) w')) {Φ : Ctx} {w : World} {e : Ex} {most : Int} {v1 : SLV} {r : Int} (hs : Sat (imm (RSl RExpr) [sl v1] e.l :: Φ) w) (hm : scrutinyref13_Many_F k_scrutinyref13_Many e most = some r) :
  CallsR Tryd.prog 34 [(.agg #[(.int .i64 e.op), (.int .i64 e.n), (.int .i64 e.at_), (sl v1)]), (.int .i64 most)] w (fun v w' => v = (.int .i64 r) ∧ Sat (Φ) w') := by
 refine CallsX_enter Tryd.func34 rfl Tryd.ntmps34 rfl ?_
 unfold scrutinyref13_Many_F at hm
 refine WC_seq <| WC_region ?_
 refine WS_box (zs := [(.int .i64 e.op), (.int .i64 e.n), (.int .i64 e.at_), (sl v1)]) hs (O rfl) rfl rfl ?_
 intro b3 w4 hs
 replace hs := Sat.n2 (Γ := Φ) hs rfl
 refine Wo (Run_assign Opd.c) rfl <| ?_
 refine WL_nil <| At_then <| WC_seq <| WC_region ?_
 refine Wo (Run_assign Opd.c) rfl <| ?_
 refine WL_nil <| At_then <| WC_seq <| WC_seq <| WC_region ?_
 refine Wo (Run_assign Opd.c) rfl <| ?_
 refine WL_nil <| At_then ?_
 refine WC_block ?_
 refine WC_loop (σ := Int × Int) (γ := Unit) (F := (scrutinyref13_Many_L1 k_scrutinyref13_Many e most)) (N := FUEL) (s0 := (1, 0)) (r := r) (fun ⟨n6, i7⟩ (_ : Unit) w5 => Sat (box b3 57 [(.int .i64 e.op), (.int .i64 e.n), (.int .i64 e.at_), (sl v1)] :: imm (RSl RExpr) [sl v1] e.l :: Φ) w5) (fun ⟨n6, i7⟩ (_ : Unit) => [(1, true, (.int .i64 most)), (2, true, (.pointer (some ⟨b3, 0, none⟩))), (5, true, (.int .i64 n6)), (6, true, (.int .i64 i7))]) hm () (hs.re 2 [0, 1] rfl) rfl ?_
 rintro again8 ⟨n6, i7⟩ _ w5 hm hs
 unfold scrutinyref13_Many_L1 at hm
 dsimp only at hm
 refine WC_seq <| WC_seq <| WC_region ?_
 refine Wo (Run_move (O rfl)) rfl <| Wo (Run_fieldAddr fo57_3 (O rfl)) rfl <| Wo (Run_load1 (v := (sl v1)) Tryd.underlying55 rfl (O rfl) (fun _ => (hs.box (i := 0) rfl).part 3 rfl)) rfl <| Wo (Run_lenSlG Tryd.underlying55 (O rfl) (fun hg => (hs.sl (i := 1) rfl).len)) rfl <| ?_
 obtain ⟨b9, e10, hm⟩ := letv_some hm
 refine Wo (Run.eqB (Run_ltI (O rfl) (O rfl)) e10) rfl <| Wo (Run_move (O rfl)) rfl <| WL_opG rfl rfl rfl rfl guard_pos (Run_move (O rfl)) rfl rfl rfl <| WL_opG rfl rfl rfl rfl guard_pos (Run_move (O rfl)) rfl rfl rfl <| ?_
 obtain ⟨b11, e12, hm⟩ := letv_some hm
 refine WL_opG rfl rfl rfl rfl guard_pos (Run.eqB (Run_ltI (Opd.g rfl id) (Opd.g rfl id)) e12) rfl rfl rfl <| ?_
 obtain ⟨b13, e14, hm⟩ := letv_some hm
 refine Wo (Run.eqB (Run_and (O rfl) (Opd.g rfl id)) e14) rfl <| ?_
 refine WL_nil <| At_then ?_
 refine WC_cond (O rfl) (fun hc15 => ?_) (fun hc15 => ?_)
 ·
  replace hm := bif_t hc15 hm
  refine WC_skip ?_
  refine At_then <| WC_seq ?_
  refine WC_block ?_
  refine WC_region ?_
  refine Wo (Run_move (O rfl)) rfl <| Wo (Run_fieldAddr fo57_3 (O rfl)) rfl <| Wo (Run_load1 (v := (sl v1)) Tryd.underlying55 rfl (O rfl) (fun _ => (hs.box (i := 0) rfl).part 3 rfl)) rfl <| Wo (Run_move (O rfl)) rfl <| ?_
  obtain ⟨e16, he17, hm⟩ := bind_some' hm
  obtain ⟨v18, hC19, hN20, hR21⟩ := cellsM57 (g := true) (fun hg => (hs.sl (i := 1) rfl)) (fun hg => he17)
  replace hs := hs.addL [elem true (elA (sl v1) i7 4) [(.int .i64 e16.op), (.int .i64 e16.n), (.int .i64 e16.at_), (sl v18)], imm (RSl RExpr) [sl v18] e16.l] rfl ⟨fun hg => ⟨hN20 hg, hC19 hg⟩, ⟨_, rfl, hR21 rfl⟩, trivial⟩
  replace hs := Sat.n4 (Γ := Φ) hs rfl
  refine Wo (Run_idxAddr (p := (elA (sl v1) i7 4)) Tryd.underlying55 ti57 (O rfl) (O rfl) (fun hg => (SRd.atA (A := RExpr) (v := (sl v1)) (hs.sl (i := 3) rfl) he17).1)) rfl <| Wo (Run_loadA (vs := [(.int .i64 e16.op), (.int .i64 e16.n), (.int .i64 e16.at_), (sl v18)]) Tryd.underlying57 rfl ti57 (O rfl) (fun hg => ((hs.elem (i := 0) rfl) hg).sub 0 rfl) rfl) rfl <| Wo (Run_move (O rfl)) rfl <| ?_
  obtain ⟨r22, hr23, hm⟩ := bind_some' hm
  refine WL_call (f := 34) (first := []) (cap := []) (xs := [(.tmp 24), (.tmp 25)]) (vs := [(.agg #[(.int .i64 e16.op), (.int .i64 e16.n), (.int .i64 e16.at_), (sl v18)]), (.int .i64 most)]) (args := [(.agg #[(.int .i64 e16.op), (.int .i64 e16.n), (.int .i64 e16.at_), (sl v18)]), (.int .i64 most)]) Tryd.call34 Opd.f (.cons (O rfl) (.cons (O rfl) .nil)) rfl rfl (ih_scrutinyref13_Many (hs.re 4 [1, 0, 1, 2, 3] rfl) hr23) ?_
  rintro _ w24 ⟨rfl, hs⟩
  replace hs := Sat.n4 (Γ := Φ) hs rfl
  refine Wo (Run_add (O rfl) (O rfl)) rfl <| Wo (Run_assign (O rfl)) rfl <| ?_
  refine WL_nil ?_
  refine At_blk_normal ?_
  refine At_then <| WC_region ?_
  refine Wo (Run_move (O rfl)) rfl <| Wo (Run_add (O rfl) Opd.c) rfl <| Wo (Run_assign (O rfl)) rfl <| ?_
  refine WL_nil ?_
  exact At_again ((IntKind.i64.wrap (n6 + r22)), (IntKind.i64.wrap (i7 + 1))) () hm (hs.re 4 [2, 3] rfl) rfl
 ·
  replace hm := bif_f hc15 hm
  refine WC_exit ?_
  refine At_then_exit <| At_then_exit <| At_blk_here <| ?_
  refine At_then <| WC_seq <| WC_region ?_
  refine Wo (Run_move (O rfl)) rfl <| Wo (Run_assign (O rfl)) rfl <| ?_
  refine WL_nil <| At_then ?_
  refine WC_ret ?_
  refine At_r1 rfl (ResIs.t rfl) ?_
  cases hm
  exact ⟨rfl, (hs.re 2 [] rfl)⟩
set_option maxRecDepth 100000 in
set_option maxHeartbeats 4000000 in
theorem scrutinyref13_Many_ok {Φ : Ctx} {w : World} {e : Ex} {most : Int} {v1 : SLV} {r : Int} (hs : Sat (imm (RSl RExpr) [sl v1] e.l :: Φ) w) (hm : scrutinyref13_Many e most = some r) :
  CallsR Tryd.prog 34 [(.agg #[(.int .i64 e.op), (.int .i64 e.n), (.int .i64 e.at_), (sl v1)]), (.int .i64 most)] w (fun v w' => v = (.int .i64 r) ∧ Sat (Φ) w') := by
 have key : ∀ (N : Nat) {Φ : Ctx} {w : World} {e : Ex} {most : Int} {v1 : SLV} {r : Int}, Sat (imm (RSl RExpr) [sl v1] e.l :: Φ) w → fixN (fun k (s : (Ex × Int)) => scrutinyref13_Many_F k s.1 s.2) N (e, most) = some r → CallsR Tryd.prog 34 [(.agg #[(.int .i64 e.op), (.int .i64 e.n), (.int .i64 e.at_), (sl v1)]), (.int .i64 most)] w (fun v w' => v = (.int .i64 r) ∧ Sat (Φ) w') := by
  intro N
  induction N with
  | zero => intros; rename_i h; cases h
  | succ N ih => intros; rename_i hs hm; rw [fixN_succ] at hm; exact scrutinyref13_Many_F_ok (@ih) hs hm
 unfold scrutinyref13_Many at hm
 exact key FUEL hs hm
set_option maxRecDepth 100000 in
set_option maxHeartbeats 4000000 in
theorem scrutinyref13_Few_ok {Φ : Ctx} {w : World} {e : Ex} {v1 : SLV} {r : Bool} (hs : Sat (imm (RSl RExpr) [sl v1] e.l :: Φ) w) (hm : scrutinyref13_Few e = some r) :
  CallsR Tryd.prog 24 [(.agg #[(.int .i64 e.op), (.int .i64 e.n), (.int .i64 e.at_), (sl v1)])] w (fun v w' => v = (.bool r) ∧ Sat (Φ) w') := by
 refine CallsX_enter Tryd.func24 rfl Tryd.ntmps24 rfl ?_
 unfold scrutinyref13_Few at hm
 refine WC_seq <| WC_region ?_
 refine WS_box (zs := [(.int .i64 e.op), (.int .i64 e.n), (.int .i64 e.at_), (sl v1)]) hs (O rfl) rfl rfl ?_
 intro b3 w4 hs
 replace hs := Sat.n2 (Γ := Φ) hs rfl
 refine Wo (Run_assign Opd.c) rfl <| ?_
 refine WL_nil <| At_then <| WC_seq <| WC_region ?_
 refine Wo (Run_loadA (vs := [(.int .i64 e.op), (.int .i64 e.n), (.int .i64 e.at_), (sl v1)]) Tryd.underlying57 rfl ti57 (O rfl) (fun _ => (hs.box (i := 0) rfl).part 0 rfl) rfl) rfl <| ?_
 obtain ⟨r5, hr6, hm⟩ := bind_some' hm
 refine WL_call (f := 33) (first := []) (cap := []) (xs := [(.tmp 5), (.const (.int .i64 45))]) (vs := [(.agg #[(.int .i64 e.op), (.int .i64 e.n), (.int .i64 e.at_), (sl v1)]), (.int .i64 45)]) (args := [(.agg #[(.int .i64 e.op), (.int .i64 e.n), (.int .i64 e.at_), (sl v1)]), (.int .i64 45)]) Tryd.call33 Opd.f (.cons (O rfl) (.cons Opd.c .nil)) rfl rfl (scrutinyref13_Deep_ok (hs.re 2 [1, 0, 1] rfl) hr6) ?_
 rintro _ w7 ⟨rfl, hs⟩
 replace hs := Sat.n2 (Γ := Φ) hs rfl
 refine Wo (Run_assign (O rfl)) rfl <| ?_
 refine WL_nil <| At_then <| WC_seq <| WC_region ?_
 refine Wo (Run_loadA (vs := [(.int .i64 e.op), (.int .i64 e.n), (.int .i64 e.at_), (sl v1)]) Tryd.underlying57 rfl ti57 (O rfl) (fun _ => (hs.box (i := 0) rfl).part 0 rfl) rfl) rfl <| ?_
 obtain ⟨r8, hr9, hm⟩ := bind_some' hm
 refine WL_call (f := 34) (first := []) (cap := []) (xs := [(.tmp 7), (.const (.int .i64 300))]) (vs := [(.agg #[(.int .i64 e.op), (.int .i64 e.n), (.int .i64 e.at_), (sl v1)]), (.int .i64 300)]) (args := [(.agg #[(.int .i64 e.op), (.int .i64 e.n), (.int .i64 e.at_), (sl v1)]), (.int .i64 300)]) Tryd.call34 Opd.f (.cons (O rfl) (.cons Opd.c .nil)) rfl rfl (scrutinyref13_Many_ok (hs.re 2 [1, 0, 1] rfl) hr9) ?_
 rintro _ w10 ⟨rfl, hs⟩
 replace hs := Sat.n2 (Γ := Φ) hs rfl
 refine Wo (Run_assign (O rfl)) rfl <| ?_
 refine WL_nil <| At_then <| WC_seq <| WC_region ?_
 refine Wo (Run_move (O rfl)) rfl <| ?_
 obtain ⟨b11, e12, hm⟩ := letv_some hm
 refine Wo (Run.eqB (Run_ltI (O rfl) Opd.c) e12) rfl <| Wo (Run_move (O rfl)) rfl <| WL_opG rfl rfl rfl rfl guard_pos (Run_move (O rfl)) rfl rfl rfl <| ?_
 obtain ⟨b13, e14, hm⟩ := letv_some hm
 refine WL_opG rfl rfl rfl rfl guard_pos (Run.eqB (Run_ltI (Opd.g rfl id) Opd.c) e14) rfl rfl rfl <| ?_
 obtain ⟨b15, e16, hm⟩ := letv_some hm
 refine Wo (Run.eqB (Run_and (O rfl) (Opd.g rfl id)) e16) rfl <| Wo (Run_assign (O rfl)) rfl <| ?_
 refine WL_nil <| At_then ?_
 refine WC_ret ?_
 refine At_r1 rfl (ResIs.t rfl) ?_
 cases hm
 exact ⟨rfl, (hs.re 2 [] rfl)⟩
set_option maxRecDepth 100000 in
set_option maxHeartbeats 4000000 in
theorem scrutinyref15_Place_ok {Φ : Ctx} {w : World} {l : (List (List Int))} {v3 : (List Int)} {v1 : SLV} {v4 : SLV} {r : Int} (hs : Sat (imm (RSl (RSl (RI .i64))) [sl v1] l :: imm (RSl (RI .i64)) [sl v4] v3 :: Φ) w) (hm : scrutinyref15_Place l v3 = some r) :
  CallsR Tryd.prog 22 [(sl v1), (sl v4)] w (fun v w' => v = (.int .i64 r) ∧ Sat (Φ) w') := by
 refine CallsX_enter Tryd.func22 rfl Tryd.ntmps22 rfl ?_
 unfold scrutinyref15_Place at hm
 refine WC_seq <| WC_region ?_
 refine Wo (Run_assign Opd.c) rfl <| ?_
 refine WL_nil <| At_then <| WC_seq <| WC_seq <| WC_region ?_
 refine Wo (Run_assign Opd.c) rfl <| ?_
 refine WL_nil <| At_then ?_
 refine WC_block ?_
 refine WC_loop (σ := Int) (γ := Unit) (F := (scrutinyref15_Place_L1 l v3)) (N := FUEL) (s0 := 0) (r := r) (fun i4 (_ : Unit) w3 => Sat (imm (RSl (RSl (RI .i64))) [sl v1] l :: imm (RSl (RI .i64)) [sl v4] v3 :: Φ) w3) (fun i4 (_ : Unit) => [(0, true, (sl v1)), (1, true, (sl v4)), (5, true, (.int .i64 i4))]) hm () (hs.re 2 [0, 1] rfl) rfl ?_
 rintro again5 i4 _ w3 hm hs
 unfold scrutinyref15_Place_L1 at hm
 refine WC_seq <| WC_seq <| WC_region ?_
 refine Wo (Run_move (O rfl)) rfl <| Wo (Run_move (O rfl)) rfl <| Wo (Run_lenSlG Tryd.underlying37 (O rfl) (fun hg => (hs.sl (i := 0) rfl).len)) rfl <| Wo (Run_ltI (O rfl) (O rfl)) rfl <| ?_
 refine WL_nil <| At_then ?_
 refine WC_cond (O rfl) (fun hc6 => ?_) (fun hc6 => ?_)
 ·
  replace hm := bif_t hc6 hm
  refine WC_skip ?_
  refine At_then <| WC_seq ?_
  refine WC_block ?_
  refine WC_seq <| WC_region ?_
  refine Wo (Run_move (O rfl)) rfl <| Wo (Run_move (O rfl)) rfl <| ?_
  obtain ⟨e7, he8, hm⟩ := bind_some' hm
  obtain ⟨v9, hC10, hN11, hR12⟩ := cellsM22 (g := true) (fun hg => (hs.sl (i := 0) rfl)) (fun hg => he8)
  replace hs := hs.addL [elem true (elA (sl v1) i4 1) [(sl v9)], imm (RSl (RI .i64)) [sl v9] e7] rfl ⟨fun hg => ⟨hN11 hg, hC10 hg⟩, ⟨_, rfl, hR12 rfl⟩, trivial⟩
  replace hs := Sat.n4 (Γ := Φ) hs rfl
  refine Wo (Run_idxAddr (p := (elA (sl v1) i4 1)) Tryd.underlying37 ti22 (O rfl) (O rfl) (fun hg => (SRd.atA (A := (RSl (RI .i64))) (v := (sl v1)) (hs.sl (i := 2) rfl) he8).1)) rfl <| Wo (Run_load1 (v := (sl v9)) Tryd.underlying22 rfl (O rfl) (fun hg => ((hs.elem (i := 0) rfl) hg).sub 0 rfl)) rfl <| Wo (Run_move (O rfl)) rfl <| ?_
  obtain ⟨r13, hr14, hm⟩ := bind_some' hm
  refine WL_call (f := 16) (first := []) (cap := []) (xs := [(.tmp 16), (.tmp 17)]) (vs := [(sl v9), (sl v4)]) (args := [(sl v9), (sl v4)]) Tryd.call16 Opd.f (.cons (O rfl) (.cons (O rfl) .nil)) rfl rfl (scrutinyref02_Vec_ok (hs.re 4 [1, 3, 0, 1, 2, 3] rfl) hr14) ?_
  rintro _ w15 ⟨rfl, hs⟩
  replace hs := Sat.n4 (Γ := Φ) hs rfl
  refine Wo (Run_assign (O rfl)) rfl <| ?_
  refine WL_nil <| At_then <| WC_seq <| WC_region ?_
  refine Wo (Run_move (O rfl)) rfl <| ?_
  refine WL_nil <| At_then ?_
  refine WC_cond (O rfl) (fun hc16 => ?_) (fun hc16 => ?_)
  ·
   replace hm := bif_t hc16 hm
   refine WC_seq <| WC_region ?_
   refine Wo (Run_move (O rfl)) rfl <| Wo (Run_assign (O rfl)) rfl <| ?_
   refine WL_nil <| At_then ?_
   refine WC_ret ?_
   refine At_blk_ret <| At_then_ret <| At_then_ret <| At_blk_ret <| At_then_ret <| ?_
   refine At_r1 rfl (ResIs.t rfl) ?_
   cases hm
   exact ⟨rfl, (hs.re 4 [] rfl)⟩
  ·
   replace hm := bif_f hc16 hm
   refine WC_skip ?_
   refine At_blk_normal ?_
   refine At_then <| WC_region ?_
   refine Wo (Run_move (O rfl)) rfl <| Wo (Run_add (O rfl) Opd.c) rfl <| Wo (Run_assign (O rfl)) rfl <| ?_
   refine WL_nil ?_
   exact At_again (IntKind.i64.wrap (i4 + 1)) () hm (hs.re 4 [2, 3] rfl) rfl
 ·
  replace hm := bif_f hc6 hm
  refine WC_exit ?_
  refine At_then_exit <| At_then_exit <| At_blk_here <| ?_
  refine At_then <| WC_seq <| WC_region ?_
  refine Wo (Run_assign Opd.c) rfl <| ?_
  refine WL_nil <| At_then ?_
  refine WC_ret ?_
  refine At_r1 rfl (ResIs.t rfl) ?_
  cases hm
  exact ⟨rfl, (hs.re 2 [] rfl)⟩
end Go.Proofs.YtjdabjpjafkogaaDoor
