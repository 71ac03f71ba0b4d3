/- Printed by a program: the walks. -/
import Derived.Test.YtjappdgehmjomaaTypes
import Derived.Test.YtjappdgehmjomaaWalk1
import Derived.Test.YtjappdgehmjomaaWalk2
import Derived.Test.YtjappdgehmjomaaWalk8
import Derived.Test.YtjappdgehmjomaaWalk9
namespace Go.Proofs.Ytjappdgehmjomaa
open Go.Proofs

set_option maxRecDepth 100000 in
set_option maxHeartbeats 4000000 in
theorem scrutinylaw09_shown_ok {Φ : Ctx} {w : World} {r : Bool} (hs : Sat (Φ) w) (hm : scrutinylaw09_shown = some r) :
    CallsR Try.prog 9 [] w (fun v w' => v = (.bool r) ∧ Sat (Φ) w') := by
  refine CallsX_enter Try.func9 rfl Try.ntmps9 rfl ?_
  unfold scrutinylaw09_shown at hm
  refine WC_seq ?_
  refine WC_region ?_
  refine WL_op (Run_assign Opd.c) rfl rfl rfl rfl <| ?_
  refine WL_nil ?_
  refine At_then ?_
  refine WC_seq ?_
  refine WC_region ?_
  obtain ⟨r3, hr4, hm⟩ := bind_some' hm
  refine WL_call (f := 11) (first := []) (cap := []) (xs := [(.const (.int .i64 2))]) (vs := [(.int .i64 2)]) (args := [(.int .i64 2)]) Try.call11 Opd.f (.cons Opd.c .nil) rfl rfl (dfa_New_ok (hs.re 0 [] rfl) hr4) ?_
  rintro _ w9 ⟨v5, R6, v7, R8, rfl, hs⟩
  replace hs := Sat.n2 (Γ := Φ) hs rfl
  refine WL_op (Run_move (Opd.t rfl)) rfl rfl rfl rfl <| WL_op (Run_extract (vs := [(.agg #[(.int .i64 r3.1.1), (sl v5), (.int .i64 r3.1.2.2.1), (.int .i64 r3.1.2.2.2.1), (sl v7)]), (.int .i64 r3.2)]) (Opd.t rfl) rfl) rfl rfl rfl rfl <| WL_op (Run_extract (vs := [(.agg #[(.int .i64 r3.1.1), (sl v5), (.int .i64 r3.1.2.2.1), (.int .i64 r3.1.2.2.2.1), (sl v7)]), (.int .i64 r3.2)]) (Opd.t rfl) rfl) rfl rfl rfl rfl <| ?_
  refine WS_alloc (zs := [(.int .i64 0), (sl (none, 0, 0)), (.int .i64 0), (.int .i64 0), (sl (none, 0, 0))]) hs ti29 rfl rfl ?_
  intro b10 w11 hs
  replace hs := Sat.n3 (Γ := Φ) hs rfl
  refine WS_store (us := [(.int .i64 r3.1.1), (sl v5), (.int .i64 r3.1.2.2.1), (.int .i64 r3.1.2.2.2.1), (sl v7)]) (vs' := [(.int .i64 r3.1.1), (sl v5), (.int .i64 r3.1.2.2.1), (.int .i64 r3.1.2.2.2.1), (sl v7)]) hs 0 rfl ti29 (Opd.t rfl) (Opd.t rfl) rfl rfl rfl rfl rfl ?_
  intro w12 hs
  replace hs := Sat.n3 (Γ := Φ) hs rfl
  refine WL_op (Run_assign (Opd.t rfl)) rfl rfl rfl rfl <| ?_
  refine WL_nil ?_
  refine At_then ?_
  refine WC_seq ?_
  refine WC_region ?_
  refine WL_op (Run_loadA (vs := [(.int .i64 r3.1.1), (sl v5), (.int .i64 r3.1.2.2.1), (.int .i64 r3.1.2.2.2.1), (sl v7)]) Try.underlying29 rfl ti29 (Opd.t rfl) (fun _ => (hs.box (i := 0) rfl).part 0 rfl) rfl) rfl rfl rfl rfl <| ?_
  refine WS_lit (A := (RI .u8)) (xs := [97, 98]) (zs := [(.int .u8 0)]) (cells := [(.int .u8 97), (.int .u8 98)]) (parts := [(0, (.const (.int .u8 97))), (1, (.const (.int .u8 98)))]) hs Try.underlying23 ti5 rfl rfl rfl (.cons Opd.c (.cons Opd.c .nil)) (by kernel_rfl) rfl (ARd.cons (A := (RI .u8)) (c := [(.int .u8 97)]) (x := 97) rfl (ARd.cons (A := (RI .u8)) (c := [(.int .u8 98)]) (x := 98) rfl ARd.nil)) rfl ?_
  intro b13 w14 hs
  replace hs := Sat.n4 (Γ := Φ) hs rfl
  refine WS_convB hs 0 rfl Try.underlying23 Try.underlying5 (Opd.t rfl) rfl ?_
  intro w15 hs
  replace hs := hs.freeze (i := 2) rfl
  replace hs := hs.freeze (i := 3) rfl
  obtain ⟨r16, hr17, hm⟩ := bind_some' hm
  refine WL_call (f := 13) (first := []) (cap := []) (xs := [(.tmp 25), (.tmp 27)]) (vs := [(.agg #[(.int .i64 r3.1.1), (sl v5), (.int .i64 r3.1.2.2.1), (.int .i64 r3.1.2.2.2.1), (sl v7)]), (sl (some ⟨b13, 0, none⟩, 2, 2))]) (args := [(.agg #[(.int .i64 r3.1.1), (sl v5), (.int .i64 r3.1.2.2.1), (.int .i64 r3.1.2.2.2.1), (sl v7)]), (sl (some ⟨b13, 0, none⟩, 2, 2))]) Try.call13 Opd.f (.cons (Opd.t rfl) (.cons (Opd.t rfl) .nil)) rfl rfl (dfa_Insert_ok (hs.re 4 [2, 3, 0, 0, 1, 2, 3] rfl) hr17) ?_
  rintro _ w20 ⟨v18, v19, rfl, hs⟩
  replace hs := Sat.n6 (Γ := Φ) hs rfl
  refine WL_op (Run_move (Opd.t rfl)) rfl rfl rfl rfl <| WL_op (Run_extract (vs := [(.agg #[(.int .i64 r16.1.1), (sl v18), (.int .i64 r16.1.2.2.1), (.int .i64 r16.1.2.2.2.1), (sl v19)]), (.bool r16.2.1), (.int .i64 r16.2.2)]) (Opd.t rfl) rfl) rfl rfl rfl rfl <| WL_op (Run_extract (vs := [(.agg #[(.int .i64 r16.1.1), (sl v18), (.int .i64 r16.1.2.2.1), (.int .i64 r16.1.2.2.2.1), (sl v19)]), (.bool r16.2.1), (.int .i64 r16.2.2)]) (Opd.t rfl) rfl) rfl rfl rfl rfl <| WL_op (Run_extract (vs := [(.agg #[(.int .i64 r16.1.1), (sl v18), (.int .i64 r16.1.2.2.1), (.int .i64 r16.1.2.2.2.1), (sl v19)]), (.bool r16.2.1), (.int .i64 r16.2.2)]) (Opd.t rfl) rfl) rfl rfl rfl rfl <| ?_
  refine WS_alloc (zs := [(.int .i64 0), (sl (none, 0, 0)), (.int .i64 0), (.int .i64 0), (sl (none, 0, 0))]) hs ti29 rfl rfl ?_
  intro b21 w22 hs
  replace hs := Sat.n7 (Γ := Φ) hs rfl
  refine WS_store (us := [(.int .i64 r16.1.1), (sl v18), (.int .i64 r16.1.2.2.1), (.int .i64 r16.1.2.2.2.1), (sl v19)]) (vs' := [(.int .i64 r16.1.1), (sl v18), (.int .i64 r16.1.2.2.1), (.int .i64 r16.1.2.2.2.1), (sl v19)]) hs 0 rfl ti29 (Opd.t rfl) (Opd.t rfl) rfl rfl rfl rfl rfl ?_
  intro w23 hs
  replace hs := Sat.n7 (Γ := Φ) hs rfl
  refine WL_op (Run_assign (Opd.t rfl)) rfl rfl rfl rfl <| WL_op (Run_assign (Opd.t rfl)) rfl rfl rfl rfl <| ?_
  refine WL_nil ?_
  refine At_then ?_
  refine WC_seq ?_
  refine WC_region ?_
  refine WL_op (Run_loadA (vs := [(.int .i64 r16.1.1), (sl v18), (.int .i64 r16.1.2.2.1), (.int .i64 r16.1.2.2.2.1), (sl v19)]) Try.underlying29 rfl ti29 (Opd.t rfl) (fun _ => (hs.box (i := 0) rfl).part 0 rfl) rfl) rfl rfl rfl rfl <| ?_
  refine WS_lit (A := (RI .u8)) (xs := [99, 98]) (zs := [(.int .u8 0)]) (cells := [(.int .u8 99), (.int .u8 98)]) (parts := [(0, (.const (.int .u8 99))), (1, (.const (.int .u8 98)))]) hs Try.underlying23 ti5 rfl rfl rfl (.cons Opd.c (.cons Opd.c .nil)) (by kernel_rfl) rfl (ARd.cons (A := (RI .u8)) (c := [(.int .u8 99)]) (x := 99) rfl (ARd.cons (A := (RI .u8)) (c := [(.int .u8 98)]) (x := 98) rfl ARd.nil)) rfl ?_
  intro b24 w25 hs
  replace hs := Sat.n8 (Γ := Φ) hs rfl
  refine WS_convB hs 0 rfl Try.underlying23 Try.underlying5 (Opd.t rfl) rfl ?_
  intro w26 hs
  obtain ⟨r27, hr28, hm⟩ := bind_some' hm
  refine WL_call (f := 13) (first := []) (cap := []) (xs := [(.tmp 33), (.tmp 35)]) (vs := [(.agg #[(.int .i64 r16.1.1), (sl v18), (.int .i64 r16.1.2.2.1), (.int .i64 r16.1.2.2.2.1), (sl v19)]), (sl (some ⟨b24, 0, none⟩, 2, 2))]) (args := [(.agg #[(.int .i64 r16.1.1), (sl v18), (.int .i64 r16.1.2.2.1), (.int .i64 r16.1.2.2.2.1), (sl v19)]), (sl (some ⟨b24, 0, none⟩, 2, 2))]) Try.call13 Opd.f (.cons (Opd.t rfl) (.cons (Opd.t rfl) .nil)) rfl rfl (dfa_Insert_ok (hs.re 8 [2, 3, 0, 0, 1, 2, 3, 4, 5, 6, 7] rfl) hr28) ?_
  rintro _ w31 ⟨v29, v30, rfl, hs⟩
  replace hs := Sat.n10 (Γ := Φ) hs rfl
  refine WL_op (Run_move (Opd.t rfl)) rfl rfl rfl rfl <| WL_op (Run_extract (vs := [(.agg #[(.int .i64 r27.1.1), (sl v29), (.int .i64 r27.1.2.2.1), (.int .i64 r27.1.2.2.2.1), (sl v30)]), (.bool r27.2.1), (.int .i64 r27.2.2)]) (Opd.t rfl) rfl) rfl rfl rfl rfl <| WL_op (Run_extract (vs := [(.agg #[(.int .i64 r27.1.1), (sl v29), (.int .i64 r27.1.2.2.1), (.int .i64 r27.1.2.2.2.1), (sl v30)]), (.bool r27.2.1), (.int .i64 r27.2.2)]) (Opd.t rfl) rfl) rfl rfl rfl rfl <| WL_op (Run_extract (vs := [(.agg #[(.int .i64 r27.1.1), (sl v29), (.int .i64 r27.1.2.2.1), (.int .i64 r27.1.2.2.2.1), (sl v30)]), (.bool r27.2.1), (.int .i64 r27.2.2)]) (Opd.t rfl) rfl) rfl rfl rfl rfl <| ?_
  refine WS_alloc (zs := [(.int .i64 0), (sl (none, 0, 0)), (.int .i64 0), (.int .i64 0), (sl (none, 0, 0))]) hs ti29 rfl rfl ?_
  intro b32 w33 hs
  replace hs := Sat.n11 (Γ := Φ) hs rfl
  refine WS_store (us := [(.int .i64 r27.1.1), (sl v29), (.int .i64 r27.1.2.2.1), (.int .i64 r27.1.2.2.2.1), (sl v30)]) (vs' := [(.int .i64 r27.1.1), (sl v29), (.int .i64 r27.1.2.2.1), (.int .i64 r27.1.2.2.2.1), (sl v30)]) hs 0 rfl ti29 (Opd.t rfl) (Opd.t rfl) rfl rfl rfl rfl rfl ?_
  intro w34 hs
  replace hs := Sat.n11 (Γ := Φ) hs rfl
  refine WL_op (Run_assign (Opd.t rfl)) rfl rfl rfl rfl <| WL_op (Run_assign (Opd.t rfl)) rfl rfl rfl rfl <| ?_
  refine WL_nil ?_
  refine At_then ?_
  refine WC_seq ?_
  refine WC_region ?_
  refine WL_op (Run_loadA (vs := [(.int .i64 r27.1.1), (sl v29), (.int .i64 r27.1.2.2.1), (.int .i64 r27.1.2.2.2.1), (sl v30)]) Try.underlying29 rfl ti29 (Opd.t rfl) (fun _ => (hs.box (i := 0) rfl).part 0 rfl) rfl) rfl rfl rfl rfl <| ?_
  refine WS_lit (A := (RI .u8)) (xs := [99, 100]) (zs := [(.int .u8 0)]) (cells := [(.int .u8 99), (.int .u8 100)]) (parts := [(0, (.const (.int .u8 99))), (1, (.const (.int .u8 100)))]) hs Try.underlying23 ti5 rfl rfl rfl (.cons Opd.c (.cons Opd.c .nil)) (by kernel_rfl) rfl (ARd.cons (A := (RI .u8)) (c := [(.int .u8 99)]) (x := 99) rfl (ARd.cons (A := (RI .u8)) (c := [(.int .u8 100)]) (x := 100) rfl ARd.nil)) rfl ?_
  intro b35 w36 hs
  replace hs := Sat.n12 (Γ := Φ) hs rfl
  refine WS_convB hs 0 rfl Try.underlying23 Try.underlying5 (Opd.t rfl) rfl ?_
  intro w37 hs
  obtain ⟨r38, hr39, hm⟩ := bind_some' hm
  refine WL_call (f := 13) (first := []) (cap := []) (xs := [(.tmp 41), (.tmp 43)]) (vs := [(.agg #[(.int .i64 r27.1.1), (sl v29), (.int .i64 r27.1.2.2.1), (.int .i64 r27.1.2.2.2.1), (sl v30)]), (sl (some ⟨b35, 0, none⟩, 2, 2))]) (args := [(.agg #[(.int .i64 r27.1.1), (sl v29), (.int .i64 r27.1.2.2.1), (.int .i64 r27.1.2.2.2.1), (sl v30)]), (sl (some ⟨b35, 0, none⟩, 2, 2))]) Try.call13 Opd.f (.cons (Opd.t rfl) (.cons (Opd.t rfl) .nil)) rfl rfl (dfa_Insert_ok (hs.re 12 [2, 3, 0, 0, 1, 2, 3, 4, 5, 6, 7, 8, 9, 10, 11] rfl) hr39) ?_
  rintro _ w42 ⟨v40, v41, rfl, hs⟩
  replace hs := Sat.n14 (Γ := Φ) hs rfl
  refine WL_op (Run_move (Opd.t rfl)) rfl rfl rfl rfl <| WL_op (Run_extract (vs := [(.agg #[(.int .i64 r38.1.1), (sl v40), (.int .i64 r38.1.2.2.1), (.int .i64 r38.1.2.2.2.1), (sl v41)]), (.bool r38.2.1), (.int .i64 r38.2.2)]) (Opd.t rfl) rfl) rfl rfl rfl rfl <| WL_op (Run_extract (vs := [(.agg #[(.int .i64 r38.1.1), (sl v40), (.int .i64 r38.1.2.2.1), (.int .i64 r38.1.2.2.2.1), (sl v41)]), (.bool r38.2.1), (.int .i64 r38.2.2)]) (Opd.t rfl) rfl) rfl rfl rfl rfl <| WL_op (Run_extract (vs := [(.agg #[(.int .i64 r38.1.1), (sl v40), (.int .i64 r38.1.2.2.1), (.int .i64 r38.1.2.2.2.1), (sl v41)]), (.bool r38.2.1), (.int .i64 r38.2.2)]) (Opd.t rfl) rfl) rfl rfl rfl rfl <| ?_
  refine WS_alloc (zs := [(.int .i64 0), (sl (none, 0, 0)), (.int .i64 0), (.int .i64 0), (sl (none, 0, 0))]) hs ti29 rfl rfl ?_
  intro b43 w44 hs
  replace hs := Sat.n15 (Γ := Φ) hs rfl
  refine WS_store (us := [(.int .i64 r38.1.1), (sl v40), (.int .i64 r38.1.2.2.1), (.int .i64 r38.1.2.2.2.1), (sl v41)]) (vs' := [(.int .i64 r38.1.1), (sl v40), (.int .i64 r38.1.2.2.1), (.int .i64 r38.1.2.2.2.1), (sl v41)]) hs 0 rfl ti29 (Opd.t rfl) (Opd.t rfl) rfl rfl rfl rfl rfl ?_
  intro w45 hs
  replace hs := Sat.n15 (Γ := Φ) hs rfl
  refine WL_op (Run_assign (Opd.t rfl)) rfl rfl rfl rfl <| WL_op (Run_assign (Opd.t rfl)) rfl rfl rfl rfl <| ?_
  refine WL_nil ?_
  refine At_then ?_
  refine WC_seq ?_
  refine WC_region ?_
  refine WL_op (Run_loadA (vs := [(.int .i64 r38.1.1), (sl v40), (.int .i64 r38.1.2.2.1), (.int .i64 r38.1.2.2.2.1), (sl v41)]) Try.underlying29 rfl ti29 (Opd.t rfl) (fun _ => (hs.box (i := 0) rfl).part 0 rfl) rfl) rfl rfl rfl rfl <| ?_
  refine WS_lit (A := (RI .u8)) (xs := [97, 98]) (zs := [(.int .u8 0)]) (cells := [(.int .u8 97), (.int .u8 98)]) (parts := [(0, (.const (.int .u8 97))), (1, (.const (.int .u8 98)))]) hs Try.underlying23 ti5 rfl rfl rfl (.cons Opd.c (.cons Opd.c .nil)) (by kernel_rfl) rfl (ARd.cons (A := (RI .u8)) (c := [(.int .u8 97)]) (x := 97) rfl (ARd.cons (A := (RI .u8)) (c := [(.int .u8 98)]) (x := 98) rfl ARd.nil)) rfl ?_
  intro b46 w47 hs
  replace hs := Sat.n16 (Γ := Φ) hs rfl
  refine WS_convB hs 0 rfl Try.underlying23 Try.underlying5 (Opd.t rfl) rfl ?_
  intro w48 hs
  obtain ⟨r49, hr50, hm⟩ := bind_some' hm
  refine WL_call (f := 13) (first := []) (cap := []) (xs := [(.tmp 49), (.tmp 51)]) (vs := [(.agg #[(.int .i64 r38.1.1), (sl v40), (.int .i64 r38.1.2.2.1), (.int .i64 r38.1.2.2.2.1), (sl v41)]), (sl (some ⟨b46, 0, none⟩, 2, 2))]) (args := [(.agg #[(.int .i64 r38.1.1), (sl v40), (.int .i64 r38.1.2.2.1), (.int .i64 r38.1.2.2.2.1), (sl v41)]), (sl (some ⟨b46, 0, none⟩, 2, 2))]) Try.call13 Opd.f (.cons (Opd.t rfl) (.cons (Opd.t rfl) .nil)) rfl rfl (dfa_Insert_ok (hs.re 16 [2, 3, 0, 0, 1, 2, 3, 4, 5, 6, 7, 8, 9, 10, 11, 12, 13, 14, 15] rfl) hr50) ?_
  rintro _ w53 ⟨v51, v52, rfl, hs⟩
  replace hs := Sat.n18 (Γ := Φ) hs rfl
  refine WL_op (Run_move (Opd.t rfl)) rfl rfl rfl rfl <| WL_op (Run_extract (vs := [(.agg #[(.int .i64 r49.1.1), (sl v51), (.int .i64 r49.1.2.2.1), (.int .i64 r49.1.2.2.2.1), (sl v52)]), (.bool r49.2.1), (.int .i64 r49.2.2)]) (Opd.t rfl) rfl) rfl rfl rfl rfl <| WL_op (Run_extract (vs := [(.agg #[(.int .i64 r49.1.1), (sl v51), (.int .i64 r49.1.2.2.1), (.int .i64 r49.1.2.2.2.1), (sl v52)]), (.bool r49.2.1), (.int .i64 r49.2.2)]) (Opd.t rfl) rfl) rfl rfl rfl rfl <| WL_op (Run_extract (vs := [(.agg #[(.int .i64 r49.1.1), (sl v51), (.int .i64 r49.1.2.2.1), (.int .i64 r49.1.2.2.2.1), (sl v52)]), (.bool r49.2.1), (.int .i64 r49.2.2)]) (Opd.t rfl) rfl) rfl rfl rfl rfl <| ?_
  refine WS_alloc (zs := [(.int .i64 0), (sl (none, 0, 0)), (.int .i64 0), (.int .i64 0), (sl (none, 0, 0))]) hs ti29 rfl rfl ?_
  intro b54 w55 hs
  replace hs := Sat.n19 (Γ := Φ) hs rfl
  refine WS_store (us := [(.int .i64 r49.1.1), (sl v51), (.int .i64 r49.1.2.2.1), (.int .i64 r49.1.2.2.2.1), (sl v52)]) (vs' := [(.int .i64 r49.1.1), (sl v51), (.int .i64 r49.1.2.2.1), (.int .i64 r49.1.2.2.2.1), (sl v52)]) hs 0 rfl ti29 (Opd.t rfl) (Opd.t rfl) rfl rfl rfl rfl rfl ?_
  intro w56 hs
  replace hs := Sat.n19 (Γ := Φ) hs rfl
  refine WL_op (Run_assign (Opd.t rfl)) rfl rfl rfl rfl <| WL_op (Run_assign (Opd.t rfl)) rfl rfl rfl rfl <| ?_
  refine WL_nil ?_
  refine At_then ?_
  refine WC_seq ?_
  refine WC_region ?_
  refine WL_op (Run_loadA (vs := [(.int .i64 r38.1.1), (sl v40), (.int .i64 r38.1.2.2.1), (.int .i64 r38.1.2.2.2.1), (sl v41)]) Try.underlying29 rfl ti29 (Opd.t rfl) (fun _ => (hs.box (i := 4) rfl).part 0 rfl) rfl) rfl rfl rfl rfl <| ?_
  refine WS_lit (A := (RI .u8)) (xs := [97]) (zs := [(.int .u8 0)]) (cells := [(.int .u8 97)]) (parts := [(0, (.const (.int .u8 97)))]) hs Try.underlying23 ti5 rfl rfl rfl (.cons Opd.c .nil) (by kernel_rfl) rfl (ARd.cons (A := (RI .u8)) (c := [(.int .u8 97)]) (x := 97) rfl ARd.nil) rfl ?_
  intro b57 w58 hs
  replace hs := Sat.n20 (Γ := Φ) hs rfl
  refine WS_convB hs 0 rfl Try.underlying23 Try.underlying5 (Opd.t rfl) rfl ?_
  intro w59 hs
  obtain ⟨r60, hr61, hm⟩ := bind_some' hm
  refine WL_call (f := 13) (first := []) (cap := []) (xs := [(.tmp 57), (.tmp 59)]) (vs := [(.agg #[(.int .i64 r38.1.1), (sl v40), (.int .i64 r38.1.2.2.1), (.int .i64 r38.1.2.2.2.1), (sl v41)]), (sl (some ⟨b57, 0, none⟩, 1, 1))]) (args := [(.agg #[(.int .i64 r38.1.1), (sl v40), (.int .i64 r38.1.2.2.1), (.int .i64 r38.1.2.2.2.1), (sl v41)]), (sl (some ⟨b57, 0, none⟩, 1, 1))]) Try.call13 Opd.f (.cons (Opd.t rfl) (.cons (Opd.t rfl) .nil)) rfl rfl (dfa_Insert_ok (hs.re 20 [6, 7, 0, 0, 1, 2, 3, 4, 5, 6, 7, 8, 9, 10, 11, 12, 13, 14, 15, 16, 17, 18, 19] rfl) hr61) ?_
  rintro _ w64 ⟨v62, v63, rfl, hs⟩
  replace hs := Sat.n22 (Γ := Φ) hs rfl
  refine WL_op (Run_move (Opd.t rfl)) rfl rfl rfl rfl <| WL_op (Run_extract (vs := [(.agg #[(.int .i64 r60.1.1), (sl v62), (.int .i64 r60.1.2.2.1), (.int .i64 r60.1.2.2.2.1), (sl v63)]), (.bool r60.2.1), (.int .i64 r60.2.2)]) (Opd.t rfl) rfl) rfl rfl rfl rfl <| WL_op (Run_extract (vs := [(.agg #[(.int .i64 r60.1.1), (sl v62), (.int .i64 r60.1.2.2.1), (.int .i64 r60.1.2.2.2.1), (sl v63)]), (.bool r60.2.1), (.int .i64 r60.2.2)]) (Opd.t rfl) rfl) rfl rfl rfl rfl <| WL_op (Run_extract (vs := [(.agg #[(.int .i64 r60.1.1), (sl v62), (.int .i64 r60.1.2.2.1), (.int .i64 r60.1.2.2.2.1), (sl v63)]), (.bool r60.2.1), (.int .i64 r60.2.2)]) (Opd.t rfl) rfl) rfl rfl rfl rfl <| ?_
  refine WS_alloc (zs := [(.int .i64 0), (sl (none, 0, 0)), (.int .i64 0), (.int .i64 0), (sl (none, 0, 0))]) hs ti29 rfl rfl ?_
  intro b65 w66 hs
  replace hs := Sat.n23 (Γ := Φ) hs rfl
  refine WS_store (us := [(.int .i64 r60.1.1), (sl v62), (.int .i64 r60.1.2.2.1), (.int .i64 r60.1.2.2.2.1), (sl v63)]) (vs' := [(.int .i64 r60.1.1), (sl v62), (.int .i64 r60.1.2.2.1), (.int .i64 r60.1.2.2.2.1), (sl v63)]) hs 0 rfl ti29 (Opd.t rfl) (Opd.t rfl) rfl rfl rfl rfl rfl ?_
  intro w67 hs
  replace hs := Sat.n23 (Γ := Φ) hs rfl
  refine WL_op (Run_assign (Opd.t rfl)) rfl rfl rfl rfl <| WL_op (Run_assign (Opd.t rfl)) rfl rfl rfl rfl <| ?_
  refine WL_nil ?_
  refine At_then ?_
  refine WC_seq ?_
  refine WC_region ?_
  obtain ⟨r68, hr69, hm⟩ := bind_some' hm
  refine WL_call (f := 11) (first := []) (cap := []) (xs := [(.const (.int .i64 0))]) (vs := [(.int .i64 0)]) (args := [(.int .i64 0)]) Try.call11 Opd.f (.cons Opd.c .nil) rfl rfl (dfa_New_ok (hs.re 23 [0, 1, 2, 3, 4, 5, 6, 7, 8, 9, 10, 11, 12, 13, 14, 15, 16, 17, 18, 19, 20, 21, 22] rfl) hr69) ?_
  rintro _ w74 ⟨v70, R71, v72, R73, rfl, hs⟩
  replace hs := Sat.n25 (Γ := Φ) hs rfl
  refine WL_op (Run_move (Opd.t rfl)) rfl rfl rfl rfl <| WL_op (Run_extract (vs := [(.agg #[(.int .i64 r68.1.1), (sl v70), (.int .i64 r68.1.2.2.1), (.int .i64 r68.1.2.2.2.1), (sl v72)]), (.int .i64 r68.2)]) (Opd.t rfl) rfl) rfl rfl rfl rfl <| WL_op (Run_extract (vs := [(.agg #[(.int .i64 r68.1.1), (sl v70), (.int .i64 r68.1.2.2.1), (.int .i64 r68.1.2.2.2.1), (sl v72)]), (.int .i64 r68.2)]) (Opd.t rfl) rfl) rfl rfl rfl rfl <| ?_
  refine WS_alloc (zs := [(.int .i64 0), (sl (none, 0, 0)), (.int .i64 0), (.int .i64 0), (sl (none, 0, 0))]) hs ti29 rfl rfl ?_
  intro b75 w76 hs
  replace hs := Sat.n26 (Γ := Φ) hs rfl
  refine WS_store (us := [(.int .i64 r68.1.1), (sl v70), (.int .i64 r68.1.2.2.1), (.int .i64 r68.1.2.2.2.1), (sl v72)]) (vs' := [(.int .i64 r68.1.1), (sl v70), (.int .i64 r68.1.2.2.1), (.int .i64 r68.1.2.2.2.1), (sl v72)]) hs 0 rfl ti29 (Opd.t rfl) (Opd.t rfl) rfl rfl rfl rfl rfl ?_
  intro w77 hs
  replace hs := Sat.n26 (Γ := Φ) hs rfl
  refine WL_op (Run_assign (Opd.t rfl)) rfl rfl rfl rfl <| ?_
  refine WL_nil ?_
  refine At_then ?_
  refine WC_seq ?_
  refine WC_region ?_
  refine WL_op (Run_move (Opd.t rfl)) rfl rfl rfl rfl <| ?_
  obtain ⟨b78, e79, hm⟩ := letv_some hm
  refine WL_op (Run.eqB (Run_eqI (Opd.t rfl) Opd.c) e79) rfl rfl rfl rfl <| WL_op (Run_move (Opd.t rfl)) rfl rfl rfl rfl <| WL_opG rfl rfl rfl rfl guard_pos (Run_move (Opd.t rfl)) rfl rfl rfl <| ?_
  obtain ⟨b80, e81, hm⟩ := letv_some hm
  refine WL_op (Run.eqB (Run_and (Opd.t rfl) (Opd.g rfl id)) e81) rfl rfl rfl rfl <| WL_op (Run_move (Opd.t rfl)) rfl rfl rfl rfl <| WL_opG rfl rfl rfl rfl guard_pos (Run_move (Opd.t rfl)) rfl rfl rfl <| ?_
  obtain ⟨b82, e83, hm⟩ := letv_some hm
  refine WL_opG rfl rfl rfl rfl guard_pos (Run.eqB (Run_eqI (Opd.g rfl id) Opd.c) e83) rfl rfl rfl <| ?_
  obtain ⟨b84, e85, hm⟩ := letv_some hm
  refine WL_op (Run.eqB (Run_and (Opd.t rfl) (Opd.g rfl id)) e85) rfl rfl rfl rfl <| WL_op (Run_move (Opd.t rfl)) rfl rfl rfl rfl <| WL_opG rfl rfl rfl rfl guard_pos (Run_move (Opd.t rfl)) rfl rfl rfl <| ?_
  obtain ⟨b86, e87, hm⟩ := letv_some hm
  refine WL_op (Run.eqB (Run_and (Opd.t rfl) (Opd.g rfl id)) e87) rfl rfl rfl rfl <| WL_op (Run_move (Opd.t rfl)) rfl rfl rfl rfl <| WL_opG rfl rfl rfl rfl guard_pos (Run_move (Opd.t rfl)) rfl rfl rfl <| ?_
  obtain ⟨b88, e89, hm⟩ := letv_some hm
  refine WL_opG rfl rfl rfl rfl guard_pos (Run.eqB (Run_eqI (Opd.g rfl id) Opd.c) e89) rfl rfl rfl <| ?_
  obtain ⟨b90, e91, hm⟩ := letv_some hm
  refine WL_op (Run.eqB (Run_and (Opd.t rfl) (Opd.g rfl id)) e91) rfl rfl rfl rfl <| WL_op (Run_move (Opd.t rfl)) rfl rfl rfl rfl <| WL_opG rfl rfl rfl rfl guard_pos (Run_move (Opd.t rfl)) rfl rfl rfl <| ?_
  obtain ⟨b92, e93, hm⟩ := letv_some hm
  refine WL_op (Run.eqB (Run_and (Opd.t rfl) (Opd.g rfl id)) e93) rfl rfl rfl rfl <| WL_op (Run_move (Opd.t rfl)) rfl rfl rfl rfl <| WL_opG rfl rfl rfl rfl guard_pos (Run_move (Opd.t rfl)) rfl rfl rfl <| ?_
  obtain ⟨b94, e95, hm⟩ := letv_some hm
  refine WL_opG rfl rfl rfl rfl guard_pos (Run.eqB (Run_eqI (Opd.g rfl id) Opd.c) e95) rfl rfl rfl <| ?_
  obtain ⟨b96, e97, hm⟩ := letv_some hm
  refine WL_op (Run.eqB (Run_and (Opd.t rfl) (Opd.g rfl id)) e97) rfl rfl rfl rfl <| WL_op (Run_move (Opd.t rfl)) rfl rfl rfl rfl <| WL_opG rfl rfl rfl rfl guard_pos (Run_move (Opd.t rfl)) rfl rfl rfl <| ?_
  obtain ⟨b98, e99, hm⟩ := letv_some hm
  refine WL_opG rfl rfl rfl rfl guard_pos (Run.eqB (Run_notB (Opd.g rfl id)) e99) rfl rfl rfl <| ?_
  obtain ⟨b100, e101, hm⟩ := letv_some hm
  refine WL_op (Run.eqB (Run_and (Opd.t rfl) (Opd.g rfl id)) e101) rfl rfl rfl rfl <| WL_op (Run_move (Opd.t rfl)) rfl rfl rfl rfl <| WL_opG rfl rfl rfl rfl guard_pos (Run_move (Opd.t rfl)) rfl rfl rfl <| ?_
  obtain ⟨b102, e103, hm⟩ := letv_some hm
  refine WL_opG rfl rfl rfl rfl guard_pos (Run.eqB (Run_eqI (Opd.g rfl id) Opd.c) e103) rfl rfl rfl <| ?_
  obtain ⟨b104, e105, hm⟩ := letv_some hm
  refine WL_op (Run.eqB (Run_and (Opd.t rfl) (Opd.g rfl id)) e105) rfl rfl rfl rfl <| WL_op (Run_move (Opd.t rfl)) rfl rfl rfl rfl <| WL_opG rfl rfl rfl rfl guard_pos (Run_move (Opd.t rfl)) rfl rfl rfl <| ?_
  obtain ⟨b106, e107, hm⟩ := letv_some hm
  refine WL_opG rfl rfl rfl rfl guard_pos (Run.eqB (Run_eqI (Opd.g rfl id) Opd.c) e107) rfl rfl rfl <| ?_
  obtain ⟨b108, e109, hm⟩ := letv_some hm
  refine WL_op (Run.eqB (Run_and (Opd.t rfl) (Opd.g rfl id)) e109) rfl rfl rfl rfl <| WL_op (Run_move (Opd.t rfl)) rfl rfl rfl rfl <| WL_opG rfl rfl rfl rfl guard_pos (Run_move (Opd.t rfl)) rfl rfl rfl <| ?_
  obtain ⟨b110, e111, hm⟩ := letv_some hm
  refine WL_opG rfl rfl rfl rfl guard_pos (Run.eqB (Run_eqI (Opd.g rfl id) Opd.c) e111) rfl rfl rfl <| ?_
  obtain ⟨b112, e113, hm⟩ := letv_some hm
  refine WL_op (Run.eqB (Run_and (Opd.t rfl) (Opd.g rfl id)) e113) rfl rfl rfl rfl <| WL_op (Run_move (Opd.t rfl)) rfl rfl rfl rfl <| WL_opG rfl rfl rfl rfl guard_pos (Run_loadA (vs := [(.int .i64 r3.1.1), (sl v5), (.int .i64 r3.1.2.2.1), (.int .i64 r3.1.2.2.2.1), (sl v7)]) Try.underlying29 rfl ti29 (Opd.t rfl) (fun _ => (hs.box (i := 23) rfl).part 0 rfl) rfl) rfl rfl rfl <| ?_
  obtain ⟨r114, hr115, -, hm⟩ := callG_some hm
  refine WL_callG rfl rfl rfl guard_pos (f := 16) (first := []) (cap := []) (xs := [(.tmp 108)]) (vs := [(.agg #[(.int .i64 r3.1.1), (sl v5), (.int .i64 r3.1.2.2.1), (.int .i64 r3.1.2.2.2.1), (sl v7)])]) (args := [(.agg #[(.int .i64 r3.1.1), (sl v5), (.int .i64 r3.1.2.2.1), (.int .i64 r3.1.2.2.2.1), (sl v7)])]) Try.call16 Opd.f (.cons (Opd.g rfl id) .nil) rfl rfl (fun hg => dfa_Size_ok (hs.re 26 [24, 25, 0, 1, 2, 3, 4, 5, 6, 7, 8, 9, 10, 11, 12, 13, 14, 15, 16, 17, 18, 19, 20, 21, 22, 23, 24, 25] rfl) (hr115 hg)) ?_
  intro v117 w116 hv118 hz119
  replace hs := Sat.ofG (fun hg => (hv118 hg).2.re 26 [0, 1, 2, 3, 4, 5, 6, 7, 8, 9, 10, 11, 12, 13, 14, 15, 16, 17, 18, 19, 20, 21, 22, 23, 24, 25] rfl) hz119 hs
  refine WL_sub1 (v := (.int .i64 r114)) (fun hg => (hv118 hg).1) ?_
  replace hs := Sat.n26 (Γ := Φ) hs rfl
  obtain ⟨b120, e121, hm⟩ := letv_some hm
  refine WL_opG rfl rfl rfl rfl guard_pos (Run.eqB (Run_eqI (Opd.g rfl id) Opd.c) e121) rfl rfl rfl <| ?_
  obtain ⟨b122, e123, hm⟩ := letv_some hm
  refine WL_op (Run.eqB (Run_and (Opd.t rfl) (Opd.g rfl id)) e123) rfl rfl rfl rfl <| WL_op (Run_move (Opd.t rfl)) rfl rfl rfl rfl <| WL_opG rfl rfl rfl rfl guard_pos (Run_loadA (vs := [(.int .i64 r16.1.1), (sl v18), (.int .i64 r16.1.2.2.1), (.int .i64 r16.1.2.2.2.1), (sl v19)]) Try.underlying29 rfl ti29 (Opd.t rfl) (fun _ => (hs.box (i := 19) rfl).part 0 rfl) rfl) rfl rfl rfl <| ?_
  obtain ⟨r124, hr125, -, hm⟩ := callG_some hm
  refine WL_callG rfl rfl rfl guard_pos (f := 16) (first := []) (cap := []) (xs := [(.tmp 113)]) (vs := [(.agg #[(.int .i64 r16.1.1), (sl v18), (.int .i64 r16.1.2.2.1), (.int .i64 r16.1.2.2.2.1), (sl v19)])]) (args := [(.agg #[(.int .i64 r16.1.1), (sl v18), (.int .i64 r16.1.2.2.1), (.int .i64 r16.1.2.2.2.1), (sl v19)])]) Try.call16 Opd.f (.cons (Opd.g rfl id) .nil) rfl rfl (fun hg => dfa_Size_ok (hs.re 26 [20, 21, 0, 1, 2, 3, 4, 5, 6, 7, 8, 9, 10, 11, 12, 13, 14, 15, 16, 17, 18, 19, 20, 21, 22, 23, 24, 25] rfl) (hr125 hg)) ?_
  intro v127 w126 hv128 hz129
  replace hs := Sat.ofG (fun hg => (hv128 hg).2.re 26 [0, 1, 2, 3, 4, 5, 6, 7, 8, 9, 10, 11, 12, 13, 14, 15, 16, 17, 18, 19, 20, 21, 22, 23, 24, 25] rfl) hz129 hs
  refine WL_sub1 (v := (.int .i64 r124)) (fun hg => (hv128 hg).1) ?_
  replace hs := Sat.n26 (Γ := Φ) hs rfl
  obtain ⟨b130, e131, hm⟩ := letv_some hm
  refine WL_opG rfl rfl rfl rfl guard_pos (Run.eqB (Run_eqI (Opd.g rfl id) Opd.c) e131) rfl rfl rfl <| ?_
  obtain ⟨b132, e133, hm⟩ := letv_some hm
  refine WL_op (Run.eqB (Run_and (Opd.t rfl) (Opd.g rfl id)) e133) rfl rfl rfl rfl <| WL_op (Run_move (Opd.t rfl)) rfl rfl rfl rfl <| WL_opG rfl rfl rfl rfl guard_pos (Run_loadA (vs := [(.int .i64 r27.1.1), (sl v29), (.int .i64 r27.1.2.2.1), (.int .i64 r27.1.2.2.2.1), (sl v30)]) Try.underlying29 rfl ti29 (Opd.t rfl) (fun _ => (hs.box (i := 15) rfl).part 0 rfl) rfl) rfl rfl rfl <| ?_
  obtain ⟨r134, hr135, -, hm⟩ := callG_some hm
  refine WL_callG rfl rfl rfl guard_pos (f := 16) (first := []) (cap := []) (xs := [(.tmp 118)]) (vs := [(.agg #[(.int .i64 r27.1.1), (sl v29), (.int .i64 r27.1.2.2.1), (.int .i64 r27.1.2.2.2.1), (sl v30)])]) (args := [(.agg #[(.int .i64 r27.1.1), (sl v29), (.int .i64 r27.1.2.2.1), (.int .i64 r27.1.2.2.2.1), (sl v30)])]) Try.call16 Opd.f (.cons (Opd.g rfl id) .nil) rfl rfl (fun hg => dfa_Size_ok (hs.re 26 [16, 17, 0, 1, 2, 3, 4, 5, 6, 7, 8, 9, 10, 11, 12, 13, 14, 15, 16, 17, 18, 19, 20, 21, 22, 23, 24, 25] rfl) (hr135 hg)) ?_
  intro v137 w136 hv138 hz139
  replace hs := Sat.ofG (fun hg => (hv138 hg).2.re 26 [0, 1, 2, 3, 4, 5, 6, 7, 8, 9, 10, 11, 12, 13, 14, 15, 16, 17, 18, 19, 20, 21, 22, 23, 24, 25] rfl) hz139 hs
  refine WL_sub1 (v := (.int .i64 r134)) (fun hg => (hv138 hg).1) ?_
  replace hs := Sat.n26 (Γ := Φ) hs rfl
  obtain ⟨b140, e141, hm⟩ := letv_some hm
  refine WL_opG rfl rfl rfl rfl guard_pos (Run.eqB (Run_eqI (Opd.g rfl id) Opd.c) e141) rfl rfl rfl <| ?_
  obtain ⟨b142, e143, hm⟩ := letv_some hm
  refine WL_op (Run.eqB (Run_and (Opd.t rfl) (Opd.g rfl id)) e143) rfl rfl rfl rfl <| WL_op (Run_move (Opd.t rfl)) rfl rfl rfl rfl <| WL_opG rfl rfl rfl rfl guard_pos (Run_loadA (vs := [(.int .i64 r38.1.1), (sl v40), (.int .i64 r38.1.2.2.1), (.int .i64 r38.1.2.2.2.1), (sl v41)]) Try.underlying29 rfl ti29 (Opd.t rfl) (fun _ => (hs.box (i := 11) rfl).part 0 rfl) rfl) rfl rfl rfl <| ?_
  obtain ⟨r144, hr145, -, hm⟩ := callG_some hm
  refine WL_callG rfl rfl rfl guard_pos (f := 16) (first := []) (cap := []) (xs := [(.tmp 123)]) (vs := [(.agg #[(.int .i64 r38.1.1), (sl v40), (.int .i64 r38.1.2.2.1), (.int .i64 r38.1.2.2.2.1), (sl v41)])]) (args := [(.agg #[(.int .i64 r38.1.1), (sl v40), (.int .i64 r38.1.2.2.1), (.int .i64 r38.1.2.2.2.1), (sl v41)])]) Try.call16 Opd.f (.cons (Opd.g rfl id) .nil) rfl rfl (fun hg => dfa_Size_ok (hs.re 26 [12, 13, 0, 1, 2, 3, 4, 5, 6, 7, 8, 9, 10, 11, 12, 13, 14, 15, 16, 17, 18, 19, 20, 21, 22, 23, 24, 25] rfl) (hr145 hg)) ?_
  intro v147 w146 hv148 hz149
  replace hs := Sat.ofG (fun hg => (hv148 hg).2.re 26 [0, 1, 2, 3, 4, 5, 6, 7, 8, 9, 10, 11, 12, 13, 14, 15, 16, 17, 18, 19, 20, 21, 22, 23, 24, 25] rfl) hz149 hs
  refine WL_sub1 (v := (.int .i64 r144)) (fun hg => (hv148 hg).1) ?_
  replace hs := Sat.n26 (Γ := Φ) hs rfl
  obtain ⟨b150, e151, hm⟩ := letv_some hm
  refine WL_opG rfl rfl rfl rfl guard_pos (Run.eqB (Run_eqI (Opd.g rfl id) Opd.c) e151) rfl rfl rfl <| ?_
  obtain ⟨b152, e153, hm⟩ := letv_some hm
  refine WL_op (Run.eqB (Run_and (Opd.t rfl) (Opd.g rfl id)) e153) rfl rfl rfl rfl <| WL_op (Run_move (Opd.t rfl)) rfl rfl rfl rfl <| WL_opG rfl rfl rfl rfl guard_pos (Run_loadA (vs := [(.int .i64 r38.1.1), (sl v40), (.int .i64 r38.1.2.2.1), (.int .i64 r38.1.2.2.2.1), (sl v41)]) Try.underlying29 rfl ti29 (Opd.t rfl) (fun _ => (hs.box (i := 11) rfl).part 0 rfl) rfl) rfl rfl rfl <| ?_
  obtain ⟨r154, hr155, -, hm⟩ := callG_some hm
  refine WL_callG rfl rfl rfl guard_pos (f := 15) (first := []) (cap := []) (xs := [(.tmp 128)]) (vs := [(.agg #[(.int .i64 r38.1.1), (sl v40), (.int .i64 r38.1.2.2.1), (.int .i64 r38.1.2.2.2.1), (sl v41)])]) (args := [(.agg #[(.int .i64 r38.1.1), (sl v40), (.int .i64 r38.1.2.2.1), (.int .i64 r38.1.2.2.2.1), (sl v41)])]) Try.call15 Opd.f (.cons (Opd.g rfl id) .nil) rfl rfl (fun hg => dfa_Many_ok (hs.re 26 [12, 13, 0, 1, 2, 3, 4, 5, 6, 7, 8, 9, 10, 11, 12, 13, 14, 15, 16, 17, 18, 19, 20, 21, 22, 23, 24, 25] rfl) (hr155 hg)) ?_
  intro v157 w156 hv158 hz159
  replace hs := Sat.ofG (fun hg => (hv158 hg).2.re 26 [0, 1, 2, 3, 4, 5, 6, 7, 8, 9, 10, 11, 12, 13, 14, 15, 16, 17, 18, 19, 20, 21, 22, 23, 24, 25] rfl) hz159 hs
  refine WL_sub1 (v := (.int .i64 r154)) (fun hg => (hv158 hg).1) ?_
  replace hs := Sat.n26 (Γ := Φ) hs rfl
  obtain ⟨b160, e161, hm⟩ := letv_some hm
  refine WL_opG rfl rfl rfl rfl guard_pos (Run.eqB (Run_eqI (Opd.g rfl id) Opd.c) e161) rfl rfl rfl <| ?_
  obtain ⟨b162, e163, hm⟩ := letv_some hm
  refine WL_op (Run.eqB (Run_and (Opd.t rfl) (Opd.g rfl id)) e163) rfl rfl rfl rfl <| WL_op (Run_move (Opd.t rfl)) rfl rfl rfl rfl <| WL_opG rfl rfl rfl rfl guard_pos (Run_loadA (vs := [(.int .i64 r38.1.1), (sl v40), (.int .i64 r38.1.2.2.1), (.int .i64 r38.1.2.2.2.1), (sl v41)]) Try.underlying29 rfl ti29 (Opd.t rfl) (fun _ => (hs.box (i := 11) rfl).part 0 rfl) rfl) rfl rfl rfl <| ?_
  refine WS_litBG (xs := [99, 100]) (zs := [(.int .u8 0)]) (cells := [(.int .u8 99), (.int .u8 100)]) (parts := [(0, (.const (.int .u8 99))), (1, (.const (.int .u8 100)))]) rfl rfl (fun _ => rfl) rfl guard_pos hs Try.underlying23 Try.underlying5 ti5 rfl rfl rfl (.cons Opd.c (.cons Opd.c .nil)) (by kernel_rfl) rfl (fun hg => (ARd.cons (A := RI .u8) (c := [(.int .u8 99)]) (x := 99) rfl (ARd.cons (A := RI .u8) (c := [(.int .u8 100)]) (x := 100) rfl ARd.nil))) rfl rfl ?_
  intro v164 w165 hs
  obtain ⟨r166, hr167, -, hm⟩ := callG_some hm
  refine WL_callG rfl rfl rfl guard_pos (f := 20) (first := []) (cap := []) (xs := [(.tmp 133), (.tmp 135)]) (vs := [(.agg #[(.int .i64 r38.1.1), (sl v40), (.int .i64 r38.1.2.2.1), (.int .i64 r38.1.2.2.2.1), (sl v41)]), (sl v164)]) (args := [(.agg #[(.int .i64 r38.1.1), (sl v40), (.int .i64 r38.1.2.2.1), (.int .i64 r38.1.2.2.2.1), (sl v41)]), (sl v164)]) Try.call20 Opd.f (.cons (Opd.g rfl id) (.cons (Opd.g rfl id) .nil)) rfl rfl (fun hg => dfa_Has_ok ((hs.dupS (i := 0) rfl hg).re 28 [14, 15, 0, 1, 2, 3, 4, 5, 6, 7, 8, 9, 10, 11, 12, 13, 14, 15, 16, 17, 18, 19, 20, 21, 22, 23, 24, 25, 26, 27] rfl) (hr167 hg)) ?_
  intro v169 w168 hv170 hz171
  replace hs := Sat.ofG (fun hg => (hv170 hg).2.re 27 [0, 1, 2, 3, 4, 5, 6, 7, 8, 9, 10, 11, 12, 13, 14, 15, 16, 17, 18, 19, 20, 21, 22, 23, 24, 25, 26] rfl) hz171 hs
  refine WL_sub1 (v := (.bool r166)) (fun hg => (hv170 hg).1) ?_
  replace hs := Sat.n27 (Γ := Φ) hs rfl
  obtain ⟨b172, e173, hm⟩ := letv_some hm
  refine WL_op (Run.eqB (Run_and (Opd.t rfl) (Opd.g rfl id)) e173) rfl rfl rfl rfl <| WL_op (Run_move (Opd.t rfl)) rfl rfl rfl rfl <| WL_opG rfl rfl rfl rfl guard_pos (Run_loadA (vs := [(.int .i64 r38.1.1), (sl v40), (.int .i64 r38.1.2.2.1), (.int .i64 r38.1.2.2.2.1), (sl v41)]) Try.underlying29 rfl ti29 (Opd.t rfl) (fun _ => (hs.box (i := 12) rfl).part 0 rfl) rfl) rfl rfl rfl <| ?_
  refine WS_litBG (xs := [97, 100]) (zs := [(.int .u8 0)]) (cells := [(.int .u8 97), (.int .u8 100)]) (parts := [(0, (.const (.int .u8 97))), (1, (.const (.int .u8 100)))]) rfl rfl (fun _ => rfl) rfl guard_pos hs Try.underlying23 Try.underlying5 ti5 rfl rfl rfl (.cons Opd.c (.cons Opd.c .nil)) (by kernel_rfl) rfl (fun hg => (ARd.cons (A := RI .u8) (c := [(.int .u8 97)]) (x := 97) rfl (ARd.cons (A := RI .u8) (c := [(.int .u8 100)]) (x := 100) rfl ARd.nil))) rfl rfl ?_
  intro v174 w175 hs
  obtain ⟨r176, hr177, -, hm⟩ := callG_some hm
  refine WL_callG rfl rfl rfl guard_pos (f := 20) (first := []) (cap := []) (xs := [(.tmp 139), (.tmp 141)]) (vs := [(.agg #[(.int .i64 r38.1.1), (sl v40), (.int .i64 r38.1.2.2.1), (.int .i64 r38.1.2.2.2.1), (sl v41)]), (sl v174)]) (args := [(.agg #[(.int .i64 r38.1.1), (sl v40), (.int .i64 r38.1.2.2.1), (.int .i64 r38.1.2.2.2.1), (sl v41)]), (sl v174)]) Try.call20 Opd.f (.cons (Opd.g rfl id) (.cons (Opd.g rfl id) .nil)) rfl rfl (fun hg => dfa_Has_ok ((hs.dupS (i := 0) rfl hg).re 29 [15, 16, 0, 1, 2, 3, 4, 5, 6, 7, 8, 9, 10, 11, 12, 13, 14, 15, 16, 17, 18, 19, 20, 21, 22, 23, 24, 25, 26, 27, 28] rfl) (hr177 hg)) ?_
  intro v179 w178 hv180 hz181
  replace hs := Sat.ofG (fun hg => (hv180 hg).2.re 28 [0, 1, 2, 3, 4, 5, 6, 7, 8, 9, 10, 11, 12, 13, 14, 15, 16, 17, 18, 19, 20, 21, 22, 23, 24, 25, 26, 27] rfl) hz181 hs
  refine WL_sub1 (v := (.bool r176)) (fun hg => (hv180 hg).1) ?_
  replace hs := Sat.n28 (Γ := Φ) hs rfl
  obtain ⟨b182, e183, hm⟩ := letv_some hm
  refine WL_opG rfl rfl rfl rfl guard_pos (Run.eqB (Run_notB (Opd.g rfl id)) e183) rfl rfl rfl <| ?_
  obtain ⟨b184, e185, hm⟩ := letv_some hm
  refine WL_op (Run.eqB (Run_and (Opd.t rfl) (Opd.g rfl id)) e185) rfl rfl rfl rfl <| WL_op (Run_move (Opd.t rfl)) rfl rfl rfl rfl <| WL_opG rfl rfl rfl rfl guard_pos (Run_loadA (vs := [(.int .i64 r38.1.1), (sl v40), (.int .i64 r38.1.2.2.1), (.int .i64 r38.1.2.2.2.1), (sl v41)]) Try.underlying29 rfl ti29 (Opd.t rfl) (fun _ => (hs.box (i := 13) rfl).part 0 rfl) rfl) rfl rfl rfl <| ?_
  refine WS_litBG (xs := [99]) (zs := [(.int .u8 0)]) (cells := [(.int .u8 99)]) (parts := [(0, (.const (.int .u8 99)))]) rfl rfl (fun _ => rfl) rfl guard_pos hs Try.underlying23 Try.underlying5 ti5 rfl rfl rfl (.cons Opd.c .nil) (by kernel_rfl) rfl (fun hg => (ARd.cons (A := RI .u8) (c := [(.int .u8 99)]) (x := 99) rfl ARd.nil)) rfl rfl ?_
  intro v186 w187 hs
  obtain ⟨r188, hr189, -, hm⟩ := callG_some hm
  refine WL_callG rfl rfl rfl guard_pos (f := 20) (first := []) (cap := []) (xs := [(.tmp 146), (.tmp 148)]) (vs := [(.agg #[(.int .i64 r38.1.1), (sl v40), (.int .i64 r38.1.2.2.1), (.int .i64 r38.1.2.2.2.1), (sl v41)]), (sl v186)]) (args := [(.agg #[(.int .i64 r38.1.1), (sl v40), (.int .i64 r38.1.2.2.1), (.int .i64 r38.1.2.2.2.1), (sl v41)]), (sl v186)]) Try.call20 Opd.f (.cons (Opd.g rfl id) (.cons (Opd.g rfl id) .nil)) rfl rfl (fun hg => dfa_Has_ok ((hs.dupS (i := 0) rfl hg).re 30 [16, 17, 0, 1, 2, 3, 4, 5, 6, 7, 8, 9, 10, 11, 12, 13, 14, 15, 16, 17, 18, 19, 20, 21, 22, 23, 24, 25, 26, 27, 28, 29] rfl) (hr189 hg)) ?_
  intro v191 w190 hv192 hz193
  replace hs := Sat.ofG (fun hg => (hv192 hg).2.re 29 [0, 1, 2, 3, 4, 5, 6, 7, 8, 9, 10, 11, 12, 13, 14, 15, 16, 17, 18, 19, 20, 21, 22, 23, 24, 25, 26, 27, 28] rfl) hz193 hs
  refine WL_sub1 (v := (.bool r188)) (fun hg => (hv192 hg).1) ?_
  replace hs := Sat.n29 (Γ := Φ) hs rfl
  obtain ⟨b194, e195, hm⟩ := letv_some hm
  refine WL_opG rfl rfl rfl rfl guard_pos (Run.eqB (Run_notB (Opd.g rfl id)) e195) rfl rfl rfl <| ?_
  obtain ⟨b196, e197, hm⟩ := letv_some hm
  refine WL_op (Run.eqB (Run_and (Opd.t rfl) (Opd.g rfl id)) e197) rfl rfl rfl rfl <| WL_op (Run_move (Opd.t rfl)) rfl rfl rfl rfl <| WL_opG rfl rfl rfl rfl guard_pos (Run_loadA (vs := [(.int .i64 r38.1.1), (sl v40), (.int .i64 r38.1.2.2.1), (.int .i64 r38.1.2.2.2.1), (sl v41)]) Try.underlying29 rfl ti29 (Opd.t rfl) (fun _ => (hs.box (i := 14) rfl).part 0 rfl) rfl) rfl rfl rfl <| ?_
  obtain ⟨r198, hr199, -, hm⟩ := callG_some hm
  refine WL_callG rfl rfl rfl guard_pos (f := 19) (first := []) (cap := []) (xs := [(.tmp 153)]) (vs := [(.agg #[(.int .i64 r38.1.1), (sl v40), (.int .i64 r38.1.2.2.1), (.int .i64 r38.1.2.2.2.1), (sl v41)])]) (args := [(.agg #[(.int .i64 r38.1.1), (sl v40), (.int .i64 r38.1.2.2.1), (.int .i64 r38.1.2.2.2.1), (sl v41)])]) Try.call19 Opd.f (.cons (Opd.g rfl id) .nil) rfl rfl (fun hg => dfa_Words_ok (hs.re 29 [15, 16, 0, 1, 2, 3, 4, 5, 6, 7, 8, 9, 10, 11, 12, 13, 14, 15, 16, 17, 18, 19, 20, 21, 22, 23, 24, 25, 26, 27, 28] rfl) (hr199 hg)) ?_
  intro v203 w202 hv204 hz205
  obtain ⟨v200, hw206, hs⟩ : ∃ v200 : SLV, (b196 = true → v203 = (sl v200)) ∧ Sat (immG b196 (RSl (RSl (RI .u8))) [sl v200] r198 :: immG b184 (RSl (RI .u8)) [sl v186] ([99] : List Int) :: immG b172 (RSl (RI .u8)) [sl v174] ([97, 100] : List Int) :: immG b162 (RSl (RI .u8)) [sl v164] ([99, 100] : List Int) :: box b75 29 [(.int .i64 r68.1.1), (sl v70), (.int .i64 r68.1.2.2.1), (.int .i64 r68.1.2.2.2.1), (sl v72)] :: osl (RP (RSl (RP (RI .u8) (RI .i64))) (RI .i64)) 60 (sl v70) r68.1.2.1 R71 :: osl (RI .i64) 3 (sl v72) r68.1.2.2.2.2 R73 :: box b65 29 [(.int .i64 r60.1.1), (sl v62), (.int .i64 r60.1.2.2.1), (.int .i64 r60.1.2.2.2.1), (sl v63)] :: imm (RSl (RP (RSl (RP (RI .u8) (RI .i64))) (RI .i64))) [sl v62] r60.1.2.1 :: imm (RSl (RI .i64)) [sl v63] r60.1.2.2.2.2 :: imm (RSl (RI .u8)) [sl (some ⟨b57, 0, none⟩, 1, 1)] ([97] : List Int) :: box b54 29 [(.int .i64 r49.1.1), (sl v51), (.int .i64 r49.1.2.2.1), (.int .i64 r49.1.2.2.2.1), (sl v52)] :: imm (RSl (RP (RSl (RP (RI .u8) (RI .i64))) (RI .i64))) [sl v51] r49.1.2.1 :: imm (RSl (RI .i64)) [sl v52] r49.1.2.2.2.2 :: imm (RSl (RI .u8)) [sl (some ⟨b46, 0, none⟩, 2, 2)] ([97, 98] : List Int) :: box b43 29 [(.int .i64 r38.1.1), (sl v40), (.int .i64 r38.1.2.2.1), (.int .i64 r38.1.2.2.2.1), (sl v41)] :: imm (RSl (RP (RSl (RP (RI .u8) (RI .i64))) (RI .i64))) [sl v40] r38.1.2.1 :: imm (RSl (RI .i64)) [sl v41] r38.1.2.2.2.2 :: imm (RSl (RI .u8)) [sl (some ⟨b35, 0, none⟩, 2, 2)] ([99, 100] : List Int) :: box b32 29 [(.int .i64 r27.1.1), (sl v29), (.int .i64 r27.1.2.2.1), (.int .i64 r27.1.2.2.2.1), (sl v30)] :: imm (RSl (RP (RSl (RP (RI .u8) (RI .i64))) (RI .i64))) [sl v29] r27.1.2.1 :: imm (RSl (RI .i64)) [sl v30] r27.1.2.2.2.2 :: imm (RSl (RI .u8)) [sl (some ⟨b24, 0, none⟩, 2, 2)] ([99, 98] : List Int) :: box b21 29 [(.int .i64 r16.1.1), (sl v18), (.int .i64 r16.1.2.2.1), (.int .i64 r16.1.2.2.2.1), (sl v19)] :: imm (RSl (RP (RSl (RP (RI .u8) (RI .i64))) (RI .i64))) [sl v18] r16.1.2.1 :: imm (RSl (RI .i64)) [sl v19] r16.1.2.2.2.2 :: imm (RSl (RI .u8)) [sl (some ⟨b13, 0, none⟩, 2, 2)] ([97, 98] : List Int) :: box b10 29 [(.int .i64 r3.1.1), (sl v5), (.int .i64 r3.1.2.2.1), (.int .i64 r3.1.2.2.2.1), (sl v7)] :: imm (RSl (RP (RSl (RP (RI .u8) (RI .i64))) (RI .i64))) [sl v5] r3.1.2.1 :: imm (RSl (RI .i64)) [sl v7] r3.1.2.2.2.2 :: Φ) w202 := by
    cases hg : b196
    · rw [hz205 hg]; exact ⟨(none, 0, 0), (fun h => by cases h), (sat_addG0 hs rfl)⟩
    · obtain ⟨v200, R201, hq, hs⟩ := hv204 hg
      replace hs := hs.freeze (i := 0) rfl
      replace hs := hs.re 30 [0, 1, 2, 3, 4, 5, 6, 7, 8, 9, 10, 11, 12, 13, 14, 15, 16, 17, 18, 19, 20, 21, 22, 23, 24, 25, 26, 27, 28, 29] rfl
      replace hs := sat_gate hs (i := 0) rfl true
      exact ⟨v200, (fun _ => hq), hs⟩
  refine WL_sub1 (v := (sl v200)) hw206 ?_
  refine WS_litBG (xs := [97, 98]) (zs := [(.int .u8 0)]) (cells := [(.int .u8 97), (.int .u8 98)]) (parts := [(0, (.const (.int .u8 97))), (1, (.const (.int .u8 98)))]) rfl rfl (fun _ => rfl) rfl guard_pos hs Try.underlying23 Try.underlying5 ti5 rfl rfl rfl (.cons Opd.c (.cons Opd.c .nil)) (by kernel_rfl) rfl (fun hg => (ARd.cons (A := RI .u8) (c := [(.int .u8 97)]) (x := 97) rfl (ARd.cons (A := RI .u8) (c := [(.int .u8 98)]) (x := 98) rfl ARd.nil))) rfl rfl ?_
  intro v207 w208 hs
  refine WS_litBG (xs := [99, 98]) (zs := [(.int .u8 0)]) (cells := [(.int .u8 99), (.int .u8 98)]) (parts := [(0, (.const (.int .u8 99))), (1, (.const (.int .u8 98)))]) rfl rfl (fun _ => rfl) rfl guard_pos hs Try.underlying23 Try.underlying5 ti5 rfl rfl rfl (.cons Opd.c (.cons Opd.c .nil)) (by kernel_rfl) rfl (fun hg => (ARd.cons (A := RI .u8) (c := [(.int .u8 99)]) (x := 99) rfl (ARd.cons (A := RI .u8) (c := [(.int .u8 98)]) (x := 98) rfl ARd.nil))) rfl rfl ?_
  intro v209 w210 hs
  refine WS_litBG (xs := [99, 100]) (zs := [(.int .u8 0)]) (cells := [(.int .u8 99), (.int .u8 100)]) (parts := [(0, (.const (.int .u8 99))), (1, (.const (.int .u8 100)))]) rfl rfl (fun _ => rfl) rfl guard_pos hs Try.underlying23 Try.underlying5 ti5 rfl rfl rfl (.cons Opd.c (.cons Opd.c .nil)) (by kernel_rfl) rfl (fun hg => (ARd.cons (A := RI .u8) (c := [(.int .u8 99)]) (x := 99) rfl (ARd.cons (A := RI .u8) (c := [(.int .u8 100)]) (x := 100) rfl ARd.nil))) rfl rfl ?_
  intro v211 w212 hs
  refine WS_litG (A := (RSl (RI .u8))) (xs := [([97, 98] : List Int), ([99, 98] : List Int), ([99, 100] : List Int)]) (zs := [(sl (none, 0, 0))]) (cells := [(sl v207), (sl v209), (sl v211)]) (parts := [(0, (.tmp 156)), (1, (.tmp 158)), (2, (.tmp 160))]) rfl rfl rfl guard_pos hs Try.underlying22 ti23 rfl rfl rfl (.cons (Opd.g rfl id) (.cons (Opd.g rfl id) (.cons (Opd.g rfl id) .nil))) (by kernel_rfl) rfl (fun hg => (ARd.cons (A := (RSl (RI .u8))) (c := [(sl v207)]) (x := ([97, 98] : List Int)) ⟨_, rfl, ((hs.slG (i := 2) rfl) hg)⟩ (ARd.cons (A := (RSl (RI .u8))) (c := [(sl v209)]) (x := ([99, 98] : List Int)) ⟨_, rfl, ((hs.slG (i := 1) rfl) hg)⟩ (ARd.cons (A := (RSl (RI .u8))) (c := [(sl v211)]) (x := ([99, 100] : List Int)) ⟨_, rfl, ((hs.slG (i := 0) rfl) hg)⟩ ARd.nil)))) rfl ?_
  intro v213 w214 hs
  obtain ⟨r215, hr216, -, hm⟩ := callG_some hm
  refine WL_callG rfl rfl rfl guard_pos (f := 18) (first := []) (cap := []) (xs := [(.tmp 154), (.tmp 161)]) (vs := [(sl v200), (sl v213)]) (args := [(sl v200), (sl v213)]) Try.call18 Opd.f (.cons (Opd.g rfl id) (.cons (Opd.g rfl id) .nil)) rfl rfl (fun hg => scrutinyref04_Rows_ok (((hs.dupS (i := 4) rfl hg).dupS (i := 1) rfl hg).re 36 [1, 0, 2, 3, 4, 5, 6, 7, 8, 9, 10, 11, 12, 13, 14, 15, 16, 17, 18, 19, 20, 21, 22, 23, 24, 25, 26, 27, 28, 29, 30, 31, 32, 33, 34, 35] rfl) (hr216 hg)) ?_
  intro v218 w217 hv219 hz220
  replace hs := Sat.ofG (fun hg => (hv219 hg).2.re 34 [0, 1, 2, 3, 4, 5, 6, 7, 8, 9, 10, 11, 12, 13, 14, 15, 16, 17, 18, 19, 20, 21, 22, 23, 24, 25, 26, 27, 28, 29, 30, 31, 32, 33] rfl) hz220 hs
  refine WL_sub1 (v := (.bool r215)) (fun hg => (hv219 hg).1) ?_
  replace hs := Sat.n34 (Γ := Φ) hs rfl
  obtain ⟨b221, e222, hm⟩ := letv_some hm
  refine WL_op (Run.eqB (Run_and (Opd.t rfl) (Opd.g rfl id)) e222) rfl rfl rfl rfl <| WL_op (Run_assign (Opd.t rfl)) rfl rfl rfl rfl <| ?_
  refine WL_nil ?_
  refine At_then ?_
  refine WC_ret ?_
  refine At_r1 rfl (ResIs.t rfl) ?_
  cases hm
  exact ⟨rfl, (hs.re 34 [] rfl)⟩

set_option maxRecDepth 100000 in
set_option maxHeartbeats 4000000 in
theorem scrutinyref09_Few_ok {Φ : Ctx} {w : World} {l : (List (List Int))} {most : Int} {v1 : SLV} {r : Bool} (hs : Sat (imm (RSl (RSl (RI .u8))) [sl v1] l :: Φ) w) (hm : scrutinyref09_Few l most = some r) :
    CallsR Try.prog 10 [(sl v1), (.int .i64 most)] w (fun v w' => v = (.bool r) ∧ Sat (Φ) w') := by
  refine CallsX_enter Try.func10 rfl Try.ntmps10 rfl ?_
  unfold scrutinyref09_Few at hm
  refine WC_seq ?_
  refine WC_region ?_
  refine WL_op (Run_assign Opd.c) rfl rfl rfl rfl <| ?_
  refine WL_nil ?_
  refine At_then ?_
  refine WC_seq ?_
  refine WC_seq ?_
  refine WC_region ?_
  refine WL_op (Run_move (Opd.t rfl)) rfl rfl rfl rfl <| WL_op (Run_lenSlG Try.underlying22 (Opd.t rfl) (fun hg => (hs.sl (i := 0) rfl).len)) rfl rfl rfl rfl <| WL_op (Run_move (Opd.t rfl)) rfl rfl rfl rfl <| WL_op (Run_gtI (Opd.t rfl) (Opd.t rfl)) rfl rfl rfl rfl <| ?_
  refine WL_nil ?_
  refine At_then ?_
  refine WC_cond (Opd.t rfl) (fun hc3 => ?_) (fun hc3 => ?_)
  ·
    replace hm := bif_t hc3 hm
    refine WC_seq ?_
    refine WC_region ?_
    refine WL_op (Run_assign Opd.c) rfl rfl rfl rfl <| ?_
    refine WL_nil ?_
    refine At_then ?_
    refine WC_ret ?_
    refine At_then_ret <| ?_
    refine At_r1 rfl (ResIs.t rfl) ?_
    cases hm
    exact ⟨rfl, (hs.re 1 [] rfl)⟩
  ·
    replace hm := bif_f hc3 hm
    refine WC_skip ?_
    refine At_then ?_
    refine WC_seq ?_
    refine WC_seq ?_
    refine WC_region ?_
    refine WL_op (Run_assign Opd.c) rfl rfl rfl rfl <| ?_
    refine WL_nil ?_
    refine At_then ?_
    refine WC_block ?_
    refine WC_loop (σ := Int) (γ := Unit) (F := (scrutinyref09_Few_L1 l)) (N := FUEL) (s0 := 0) (r := r) (fun i5 (_ : Unit) w4 => Sat (imm (RSl (RSl (RI .u8))) [sl v1] l :: Φ) w4) (fun i5 (_ : Unit) => [(0, true, (sl v1)), (5, true, (.int .i64 i5))]) hm () (hs.re 1 [0] rfl) rfl ?_
    rintro again6 i5 _ w4 hm hs
    unfold scrutinyref09_Few_L1 at hm
    refine WC_seq ?_
    refine WC_seq ?_
    refine WC_region ?_
    refine WL_op (Run_move (Opd.t rfl)) rfl rfl rfl rfl <| WL_op (Run_move (Opd.t rfl)) rfl rfl rfl rfl <| WL_op (Run_lenSlG Try.underlying22 (Opd.t rfl) (fun hg => (hs.sl (i := 0) rfl).len)) rfl rfl rfl rfl <| WL_op (Run_ltI (Opd.t rfl) (Opd.t rfl)) rfl rfl rfl rfl <| ?_
    refine WL_nil ?_
    refine At_then ?_
    refine WC_cond (Opd.t rfl) (fun hc7 => ?_) (fun hc7 => ?_)
    ·
      replace hm := bif_t hc7 hm
      refine WC_skip ?_
      refine At_then ?_
      refine WC_seq ?_
      refine WC_block ?_
      refine WC_seq ?_
      refine WC_region ?_
      refine WL_op (Run_move (Opd.t rfl)) rfl rfl rfl rfl <| WL_op (Run_move (Opd.t rfl)) rfl rfl rfl rfl <| ?_
      obtain ⟨e8, he9, hm⟩ := bind_some' hm
      obtain ⟨v10, hC11, hN12, hR13⟩ := cellsM23 (g := true) (fun hg => (hs.sl (i := 0) rfl)) (fun hg => he9)
      replace hs := hs.addL [elem true (elA (sl v1) i5 1) [(sl v10)], imm (RSl (RI .u8)) [sl v10] e8] rfl ⟨fun hg => ⟨hN12 hg, hC11 hg⟩, ⟨_, rfl, hR13 rfl⟩, trivial⟩
      replace hs := Sat.n3 (Γ := Φ) hs rfl
      refine WL_op (Run_idxAddr (p := (elA (sl v1) i5 1)) Try.underlying22 ti23 (Opd.t rfl) (Opd.t rfl) (fun hg => (SRd.atA (A := (RSl (RI .u8))) (v := (sl v1)) (hs.sl (i := 2) rfl) he9).1)) rfl rfl rfl rfl <| WL_op (Run_load1 (v := (sl v10)) Try.underlying23 rfl (Opd.t rfl) (fun hg => ((hs.elem (i := 0) rfl) hg).sub 0 rfl)) rfl rfl rfl rfl <| WL_op (Run_lenSlG Try.underlying23 (Opd.t rfl) (fun hg => (hs.sl (i := 1) rfl).len)) rfl rfl rfl rfl <| WL_op (Run_gtI (Opd.t rfl) Opd.c) rfl rfl rfl rfl <| ?_
      refine WL_nil ?_
      refine At_then ?_
      refine WC_cond (Opd.t rfl) (fun hc14 => ?_) (fun hc14 => ?_)
      ·
        replace hm := bif_t hc14 hm
        refine WC_seq ?_
        refine WC_region ?_
        refine WL_op (Run_assign Opd.c) rfl rfl rfl rfl <| ?_
        refine WL_nil ?_
        refine At_then ?_
        refine WC_ret ?_
        refine At_blk_ret <| At_then_ret <| At_then_ret <| At_blk_ret <| At_then_ret <| ?_
        refine At_r1 rfl (ResIs.t rfl) ?_
        cases hm
        exact ⟨rfl, (hs.re 3 [] rfl)⟩
      ·
        replace hm := bif_f hc14 hm
        refine WC_skip ?_
        refine At_blk_normal ?_
        refine At_then ?_
        refine WC_region ?_
        refine WL_op (Run_move (Opd.t rfl)) rfl rfl rfl rfl <| WL_op (Run_add (Opd.t rfl) Opd.c) rfl rfl rfl rfl <| WL_op (Run_assign (Opd.t rfl)) rfl rfl rfl rfl <| ?_
        refine WL_nil ?_
        exact At_again (IntKind.i64.wrap (i5 + 1)) () hm (hs.re 3 [2] rfl) rfl
    ·
      replace hm := bif_f hc7 hm
      refine WC_exit ?_
      refine At_then_exit <| At_then_exit <| At_blk_here <| ?_
      refine At_then ?_
      refine WC_seq ?_
      refine WC_region ?_
      refine WL_op (Run_assign Opd.c) rfl rfl rfl rfl <| ?_
      refine WL_nil ?_
      refine At_then ?_
      refine WC_ret ?_
      refine At_r1 rfl (ResIs.t rfl) ?_
      cases hm
      exact ⟨rfl, (hs.re 1 [] rfl)⟩

set_option maxRecDepth 100000 in
set_option maxHeartbeats 4000000 in
theorem scrutinyref09_New_ok {Φ : Ctx} {w : World} {wide : Int} {r : ((Int × (List (List Int))) × Int)} (hs : Sat (Φ) w) (hm : scrutinyref09_New wide = some r) :
    CallsR Try.prog 12 [(.int .i64 wide)] w (fun v w' => ∃ v3 : SLV, ∃ R4 : List Nat, v = (.tuple #[(.agg #[(.int .i64 r.1.1), (sl v3)]), (.int .i64 r.2)]) ∧ Sat (osl (RSl (RI .u8)) 23 (sl v3) r.1.2 R4 :: Φ) w') := by
  refine CallsX_enter Try.func12 rfl Try.ntmps12 rfl ?_
  unfold scrutinyref09_New at hm
  refine WC_seq ?_
  refine WC_region ?_
  refine WS_alloc (zs := [(.int .i64 0), (sl (none, 0, 0))]) hs ti34 rfl rfl ?_
  intro b6 w7 hs
  replace hs := Sat.n1 (Γ := Φ) hs rfl
  refine WL_op (Run_assign Opd.c) rfl rfl rfl rfl <| ?_
  refine WL_nil ?_
  refine At_then ?_
  refine WC_seq ?_
  refine WC_seq ?_
  refine WC_region ?_
  refine WL_op (Run_move (Opd.t rfl)) rfl rfl rfl rfl <| ?_
  obtain ⟨b8, e9, hm⟩ := letv_some hm
  refine WL_op (Run.eqB (Run_ltI (Opd.t rfl) Opd.c) e9) rfl rfl rfl rfl <| WL_op (Run_move (Opd.t rfl)) rfl rfl rfl rfl <| WL_opG rfl rfl rfl rfl guard_neg (Run_move (Opd.t rfl)) rfl rfl rfl <| ?_
  obtain ⟨b10, e11, hm⟩ := letv_some hm
  refine WL_opG rfl rfl rfl rfl guard_neg (Run.eqB (Run_gtI (Opd.g rfl id) Opd.c) e11) rfl rfl rfl <| ?_
  obtain ⟨b12, e13, hm⟩ := letv_some hm
  refine WL_op (Run.eqB (Run_or (Opd.t rfl) (Opd.g rfl id)) e13) rfl rfl rfl rfl <| ?_
  refine WL_nil ?_
  refine At_then ?_
  refine WC_cond (Opd.t rfl) (fun hc14 => ?_) (fun hc14 => ?_)
  ·
    replace hm := bif_t hc14 hm
    refine WC_seq ?_
    refine WC_region ?_
    refine WL_op (Run_build (parts := []) (v := (.agg #[(.int .i64 0), (sl (none, 0, 0))])) .nil (fun _ => by kernel_rfl)) rfl rfl rfl rfl <| ?_
    refine WS_store (us := [(.int .i64 0), (sl (none, 0, 0))]) (vs' := [(.int .i64 0), (sl (none, 0, 0))]) hs 0 rfl ti34 (Opd.t rfl) (Opd.t rfl) rfl rfl rfl rfl rfl ?_
    intro w15 hs
    replace hs := Sat.n1 (Γ := Φ) hs rfl
    refine WL_op (Run_assign Opd.c) rfl rfl rfl rfl <| ?_
    refine WL_nil ?_
    refine At_then ?_
    refine WC_ret ?_
    refine At_then_ret <| ?_
    refine At_r2 rfl (ResIs.cA (vs := [(.int .i64 0), (sl (none, 0, 0))]) rfl Try.underlying34 rfl ti34 ((hs.box (i := 0) rfl).part 0 rfl) rfl) (ResIs.t rfl) ?_
    replace hs := hs.addNil (RSl (RI .u8)) 23
    cases hm
    exact ⟨(none, 0, 0), [], rfl, (hs.re 2 [0] rfl)⟩
  ·
    replace hm := bif_f hc14 hm
    refine WC_skip ?_
    refine At_then ?_
    refine WC_seq ?_
    refine WC_region ?_
    refine WL_op (Run_move (Opd.t rfl)) rfl rfl rfl rfl <| WL_op (Run_build (parts := [(0, (.tmp 11))]) (v := (.agg #[(.int .i64 wide), (sl (none, 0, 0))])) (.cons (Opd.t rfl) .nil) (fun _ => by kernel_rfl)) rfl rfl rfl rfl <| ?_
    refine WS_store (us := [(.int .i64 wide), (sl (none, 0, 0))]) (vs' := [(.int .i64 wide), (sl (none, 0, 0))]) hs 0 rfl ti34 (Opd.t rfl) (Opd.t rfl) rfl rfl rfl rfl rfl ?_
    intro w16 hs
    replace hs := Sat.n1 (Γ := Φ) hs rfl
    refine WL_op (Run_assign Opd.c) rfl rfl rfl rfl <| ?_
    refine WL_nil ?_
    refine At_then ?_
    refine WC_ret ?_
    refine At_r2 rfl (ResIs.cA (vs := [(.int .i64 wide), (sl (none, 0, 0))]) rfl Try.underlying34 rfl ti34 ((hs.box (i := 0) rfl).part 0 rfl) rfl) (ResIs.t rfl) ?_
    replace hs := hs.addNil (RSl (RI .u8)) 23
    cases hm
    exact ⟨(none, 0, 0), [], rfl, (hs.re 2 [0] rfl)⟩

set_option maxRecDepth 100000 in
set_option maxHeartbeats 4000000 in
theorem scrutinyref09_Has_ok {Φ : Ctx} {w : World} {s : (Int × (List (List Int)))} {w3 : (List Int)} {v1 : SLV} {v4 : SLV} {r : Bool} (hs : Sat (imm (RSl (RSl (RI .u8))) [sl v1] s.2 :: imm (RSl (RI .u8)) [sl v4] w3 :: Φ) w) (hm : scrutinyref09_Has s w3 = some r) :
    CallsR Try.prog 21 [(.agg #[(.int .i64 s.1), (sl v1)]), (sl v4)] w (fun v w' => v = (.bool r) ∧ Sat (Φ) w') := by
  refine CallsX_enter Try.func21 rfl Try.ntmps21 rfl ?_
  unfold scrutinyref09_Has at hm
  refine WC_seq ?_
  refine WC_region ?_
  refine WS_box (zs := [(.int .i64 s.1), (sl v1)]) hs (Opd.t rfl) rfl rfl ?_
  intro b3 w4 hs
  replace hs := Sat.n3 (Γ := Φ) hs rfl
  refine WL_op (Run_assign Opd.c) rfl rfl rfl rfl <| ?_
  refine WL_nil ?_
  refine At_then ?_
  refine WC_seq ?_
  refine WC_seq ?_
  refine WC_region ?_
  refine WL_op (Run_assign Opd.c) rfl rfl rfl rfl <| ?_
  refine WL_nil ?_
  refine At_then ?_
  refine WC_block ?_
  refine WC_loop (σ := Int) (γ := Unit) (F := (scrutinyref09_Has_L1 s w3)) (N := FUEL) (s0 := 0) (r := r) (fun i6 (_ : Unit) w5 => Sat (imm (RSl (RI .u8)) [sl v4] w3 :: box b3 34 [(.int .i64 s.1), (sl v1)] :: imm (RSl (RSl (RI .u8))) [sl v1] s.2 :: Φ) w5) (fun i6 (_ : Unit) => [(1, true, (sl v4)), (2, true, (.pointer (some ⟨b3, 0, none⟩))), (5, true, (.int .i64 i6))]) hm () (hs.re 3 [2, 0, 1] rfl) rfl ?_
  rintro again7 i6 _ w5 hm hs
  unfold scrutinyref09_Has_L1 at hm
  refine WC_seq ?_
  refine WC_seq ?_
  refine WC_region ?_
  refine WL_op (Run_move (Opd.t rfl)) rfl rfl rfl rfl <| WL_op (Run_fieldAddr fo34_1 (Opd.t rfl)) rfl rfl rfl rfl <| WL_op (Run_load1 (v := (sl v1)) Try.underlying22 rfl (Opd.t rfl) (fun _ => (hs.box (i := 1) rfl).part 1 rfl)) rfl rfl rfl rfl <| WL_op (Run_lenSlG Try.underlying22 (Opd.t rfl) (fun hg => (hs.sl (i := 2) rfl).len)) rfl rfl rfl rfl <| WL_op (Run_ltI (Opd.t rfl) (Opd.t rfl)) rfl rfl rfl rfl <| ?_
  refine WL_nil ?_
  refine At_then ?_
  refine WC_cond (Opd.t rfl) (fun hc8 => ?_) (fun hc8 => ?_)
  ·
    replace hm := bif_t hc8 hm
    refine WC_skip ?_
    refine At_then ?_
    refine WC_seq ?_
    refine WC_block ?_
    refine WC_seq ?_
    refine WC_region_mixed [0, 1, 0, 6, 8, 16, 0, 64, 160] (.q 0 0 (.q 1 1 (.q 2 3 (.q 3 7 (.q 4 15 (.q 5 31 (.q 6 63 (.q 7 127 (.q 8 255 .nil))))))))) (by kernel_rfl) (by kernel_rfl) ?_
    intro w9 hx10
    replace hs := hs.ext hx10
    refine WD_pure (fun _ => (Run_fieldAddr fo34_1 (Opd.t rfl))) rfl rfl rfl rfl <| WD_op (fun w => CellsAt w ⟨b3, 1, none⟩ [(sl v1)]) ((hs.box (i := 1) rfl).part 1 rfl) (fun _ hJ => (Run_load1 (v := (sl v1)) Try.underlying22 rfl (Opd.t rfl) (fun _ => hJ))) rfl rfl rfl rfl <| WD_pure (fun _ => (Run_move (Opd.t rfl))) rfl rfl rfl rfl <| ?_
    obtain ⟨e11, he12, hm⟩ := bind_some' hm
    obtain ⟨v13, hC14, hN15, hR16⟩ := cellsM23 (g := true) (fun hg => (hs.sl (i := 2) rfl)) (fun hg => he12)
    replace hs := hs.addL [elem true (elA (sl v1) i6 1) [(sl v13)], imm (RSl (RI .u8)) [sl v13] e11] rfl ⟨fun hg => ⟨hN15 hg, hC14 hg⟩, ⟨_, rfl, hR16 rfl⟩, trivial⟩
    replace hs := Sat.n5 (Γ := Φ) hs rfl
    refine WD_pure (fun _ => (Run_idxAddr (p := (elA (sl v1) i6 1)) Try.underlying22 ti23 (Opd.t rfl) (Opd.t rfl) (fun hg => (SRd.atA (A := (RSl (RI .u8))) (v := (sl v1)) (hs.sl (i := 4) rfl) he12).1))) rfl rfl rfl rfl <| WD_op (fun w => true = true → CellsAt w (elA (sl v1) i6 1) [(sl v13)]) (fun hg => ((hs.elem (i := 0) rfl) hg).sub 0 rfl) (fun _ hJ => (Run_load1 (v := (sl v13)) Try.underlying23 rfl (Opd.t rfl) hJ)) rfl rfl rfl rfl <| WD_op (fun w => true = true → SRd (RI .u8) (fun _ => False) w (sl v13) e11) (fun hg => (hs.sl (i := 1) rfl).mv (Mv.weaken _ (fun _ h => h.elim))) (fun _ hJ => (Run_b2s Try.underlying23 Try.underlying5 Try.underlying9 (Opd.t rfl) hJ)) rfl rfl rfl rfl <| WD_pure (fun _ => (Run_move (Opd.t rfl))) rfl rfl rfl rfl <| WD_op (fun w => true = true → SRd (RI .u8) (fun _ => False) w (sl v4) w3) (fun hg => (hs.sl (i := 2) rfl).mv (Mv.weaken _ (fun _ h => h.elim))) (fun _ hJ => (Run_b2s Try.underlying23 Try.underlying5 Try.underlying9 (Opd.t rfl) hJ)) rfl rfl rfl rfl <| WD_pure (fun _ => (Run_eqS (Opd.t rfl) (Opd.t rfl))) rfl rfl rfl rfl <| ?_
    refine WD_nil ?_
    refine At_then ?_
    refine WC_cond (Opd.t rfl) (fun hc17 => ?_) (fun hc17 => ?_)
    ·
      replace hm := bif_t hc17 hm
      refine WC_seq ?_
      refine WC_region ?_
      refine WL_op (Run_assign Opd.c) rfl rfl rfl rfl <| ?_
      refine WL_nil ?_
      refine At_then ?_
      refine WC_ret ?_
      refine At_blk_ret <| At_then_ret <| At_then_ret <| At_blk_ret <| At_then_ret <| ?_
      refine At_r1 rfl (ResIs.t rfl) ?_
      cases hm
      exact ⟨rfl, (hs.re 5 [] rfl)⟩
    ·
      replace hm := bif_f hc17 hm
      refine WC_skip ?_
      refine At_blk_normal ?_
      refine At_then ?_
      refine WC_region ?_
      refine WL_op (Run_move (Opd.t rfl)) rfl rfl rfl rfl <| WL_op (Run_add (Opd.t rfl) Opd.c) rfl rfl rfl rfl <| WL_op (Run_assign (Opd.t rfl)) rfl rfl rfl rfl <| ?_
      refine WL_nil ?_
      exact At_again (IntKind.i64.wrap (i6 + 1)) () hm (hs.re 5 [2, 3, 4] rfl) rfl
  ·
    replace hm := bif_f hc8 hm
    refine WC_exit ?_
    refine At_then_exit <| At_then_exit <| At_blk_here <| ?_
    refine At_then ?_
    refine WC_seq ?_
    refine WC_region ?_
    refine WL_op (Run_assign Opd.c) rfl rfl rfl rfl <| ?_
    refine WL_nil ?_
    refine At_then ?_
    refine WC_ret ?_
    refine At_r1 rfl (ResIs.t rfl) ?_
    cases hm
    exact ⟨rfl, (hs.re 3 [] rfl)⟩

end Go.Proofs.Ytjappdgehmjomaa
