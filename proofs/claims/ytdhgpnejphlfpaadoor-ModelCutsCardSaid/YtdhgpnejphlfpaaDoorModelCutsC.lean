/-
  Own texts for the statement ModelCuts, cut down to what it needs: Walk6, Walk7, Walk8, Walk9, Walk10, Walk11, Walk12, Walk13. (cut and joined by a program)
-/
import Derived.Test.YtdhgpnejphlfpaaDoorModelCutsA
import Derived.Test.YtdhgpnejphlfpaaDoorModelCutsB
set_option maxRecDepth 100000
set_option maxHeartbeats 4000000
namespace Go.Proofs.YtdhgpnejphlfpaaDoor
open Go.Proofs
theorem expr_Key_ok {Φ w name r} (hs : Sat (gl 0 (keysL.map S) :: Φ) w) (hm : expr_Key name = some r) :
  CallsR Tryd.prog 61 [(S name)] w (fun v w' => v = (.bool r) ∧ Sat (Φ) w') := by
 refine CallsX_enter Tryd.func61 rfl Tryd.ntmps61 rfl ?_
 unfold expr_Key at hm
 refine WC_seq <| WC_region ?_
 refine W ?_
 refine WL_nil <| At_then <| WC_seq <| WC_region ?_
 refine Wo (Run_cutArr Tryd.underlying104 ti9 rfl Opd.gl) rfl <| ?_
 replace hs := hs.addS (gl_sl (A := RS) (hs.gl (i := 0) rfl).1 (hs.gl (i := 0) rfl).2 (ARd_strs _))
 refine W ?_
 obtain ⟨r3, hr4, hm⟩ := bind_some' hm
 refine WL_call (f := 70) (first := []) (cap := []) (xs := [(.tmp 3), (.tmp 4)]) (vs := [(sl (some ⟨0, 0, none⟩, 9, 9)), (S name)]) (args := [(sl (some ⟨0, 0, none⟩, 9, 9)), (S name)]) Tryd.call70 Opd.f (.cons (O rfl) (.cons (O rfl) .nil)) rfl rfl (slices_Contains_string_string_ok (hs.re 2 [0, 0, 1] rfl) hr4) ?_
 rintro _ w5 ⟨rfl, hs⟩
 replace hs := Sat.n2 (Γ := Φ) hs rfl
 refine W ?_
 refine WL_nil <| At_then ?_
 refine WC_ret ?_
 refine At_r1 rfl (ResIs.t rfl) ?_
 cases hm
 exact ⟨rfl, (hs.re 2 [] rfl)⟩
theorem slices_Index_string_string_s2_ok {Φ w s v3 v1 R r} (hs : Sat (osl RS 9 (sl v1) s R :: Φ) w) (hm : slices_Index_string_string_s2 s v3 = some r) :
  CallsR Tryd.prog 74 [(sl v1), (S v3)] w (fun v w' => v = (.int .i64 r) ∧ Sat (osl RS 9 (sl v1) s R :: Φ) w') := by
 refine CallsX_enter Tryd.func74 rfl Tryd.ntmps74 rfl ?_
 unfold slices_Index_string_string_s2 at hm
 refine WC_seq <| WC_region ?_
 refine W ?_
 refine WL_nil <| At_then <| WC_seq <| WC_seq <| WC_region ?_
 iterate 3 refine W ?_
 refine WL_nil <| At_then ?_
 refine WC_block ?_
 refine WC_loop (σ := Int) (γ := Unit) (F := (slices_Index_string_string_s2_L1 s v3)) (N := FUEL) (s0 := 0) (r := r) (fun t4 (_ : Unit) w3 => Sat (osl RS 9 (sl v1) s R :: Φ) w3) (fun t4 (_ : Unit) => [(0, true, (sl v1)), (1, true, (S v3)), (7, true, (.int .i64 (List.length s : Int))), (8, true, (.int .i64 t4))]) hm () (hs.re 1 [0] rfl) rfl ?_
 rintro again5 t4 _ w3 hm hs
 unfold slices_Index_string_string_s2_L1 at hm
 refine WC_seq <| WC_region ?_
 refine W ?_
 refine WL_nil <| At_then <| WC_seq ?_
 refine WC_cond (O rfl) (fun hc6 => ?_) (fun hc6 => ?_)
 ·
  replace hm := bif_t hc6 hm
  refine WC_skip ?_
  refine At_then <| WC_seq ?_
  refine WC_block ?_
  refine WC_seq <| WC_region ?_
  iterate 2 refine W ?_
  refine WL_nil <| At_then <| WC_seq <| WC_region ?_
  iterate 3 refine W ?_
  obtain ⟨e7, he8, hm⟩ := bind_some' hm
  refine Wo (Run_idxAddr (p := (elA (sl v1) t4 1)) Tryd.underlying26 ti9 (O rfl) (O rfl) (fun hg => (Own.atA (A := RS) (v := (sl v1)) (hs.own (i := 0) rfl) he8).1)) rfl <| Wo (Run_load1 (v := (S e7)) Tryd.underlying9 rfl (O rfl) (fun hg => (Own.cellsF (A := RS) (v := (sl v1)) (hs.own (i := 0) rfl) he8 (fun _ h => openT9 h)).sub 0 rfl)) rfl <| ?_
  refine W ?_
  refine WL_nil <| At_then ?_
  refine WC_cond (O rfl) (fun hc9 => ?_) (fun hc9 => ?_)
  ·
   replace hm := bif_t hc9 hm
   refine WC_seq <| WC_region ?_
   iterate 2 refine W ?_
   refine WL_nil <| At_then ?_
   refine WC_ret ?_
   refine At_blk_ret <| At_then_ret <| At_then_ret <| At_blk_ret <| At_then_ret <| ?_
   refine At_r1 rfl (ResIs.t rfl) ?_
   cases hm
   exact ⟨rfl, (hs.re 1 [0] rfl)⟩
  ·
   replace hm := bif_f hc9 hm
   refine WC_skip ?_
   refine At_blk_normal ?_
   refine At_then <| WC_region ?_
   iterate 2 refine W ?_
   refine WL_nil ?_
   exact At_again (IntKind.i64.wrap (t4 + 1)) () hm (hs.re 1 [0] rfl) rfl
 ·
  replace hm := bif_f hc6 hm
  refine WC_exit ?_
  refine At_then_exit <| At_then_exit <| At_blk_here <| ?_
  refine At_then <| WC_seq <| WC_region ?_
  refine W ?_
  refine WL_nil <| At_then ?_
  refine WC_ret ?_
  refine At_r1 rfl (ResIs.t rfl) ?_
  cases hm
  exact ⟨rfl, (hs.re 1 [0] rfl)⟩
theorem slices_Contains_string_string_s2_ok {Φ w s v3 v1 R r} (hs : Sat (osl RS 9 (sl v1) s R :: Φ) w) (hm : slices_Contains_string_string_s2 s v3 = some r) :
  CallsR Tryd.prog 70 [(sl v1), (S v3)] w (fun v w' => v = (.bool r) ∧ Sat (osl RS 9 (sl v1) s R :: Φ) w') := by
 refine CallsX_enter Tryd.func70 rfl Tryd.ntmps70 rfl ?_
 unfold slices_Contains_string_string_s2 at hm
 refine WC_seq <| WC_region ?_
 refine W ?_
 refine WL_nil <| At_then <| WC_seq <| WC_region ?_
 iterate 2 refine W ?_
 obtain ⟨r3, hr4, hm⟩ := bind_some' hm
 refine WL_call (f := 74) (first := []) (cap := []) (xs := [(.tmp 5), (.tmp 6)]) (vs := [(sl v1), (S v3)]) (args := [(sl v1), (S v3)]) Tryd.call74 Opd.f (.cons (O rfl) (.cons (O rfl) .nil)) rfl rfl (slices_Index_string_string_s2_ok (hs.re 1 [0] rfl) hr4) ?_
 rintro _ w5 ⟨rfl, hs⟩
 replace hs := Sat.n1 (Γ := Φ) hs rfl
 iterate 2 refine W ?_
 refine WL_nil <| At_then ?_
 refine WC_ret ?_
 refine At_r1 rfl (ResIs.t rfl) ?_
 cases hm
 exact ⟨rfl, (hs.re 1 [0] rfl)⟩
theorem model_read_given_ok {Φ : Ctx} {w : World} {name : Str} {l : Q3} {at_ : Int} {Names : (List Str)} {Schema : Q9} {Init : (List Int)} {Procs : (List Str)} {Cmd : Q7} {b : Nat} {v2 : SLV} {R : List Nat} {v4 : SLV} {R5 : List Nat} {v7 : SLV} {R8 : List Nat} {v10 : SLV} {R11 : List Nat} {v13 : SLV} {R14 : List Nat} {v16 : SLV} {R17 : List Nat} {r : Bool} (hs : Sat (box b 69 [(sl v2), (.int .i64 at_), (sl v4), (sl v7), (sl v10), (sl v13), (sl v16)] :: osl Q1 28 (sl v2) l R :: osl RS 9 (sl v4) Names R5 :: osl Q5 44 (sl v7) Schema R8 :: osl (RI .i64) 3 (sl v10) Init R11 :: osl RS 9 (sl v13) Procs R14 :: osl Q2 54 (sl v16) Cmd R17 :: Φ) w) (hm : model_read_given name l at_ Names Schema Init Procs Cmd = some r) :
  CallsR Tryd.prog 62 [(.pointer (some ⟨b, 0, none⟩)), (S name)] w (fun v w' => v = (.bool r) ∧ Sat (box b 69 [(sl v2), (.int .i64 at_), (sl v4), (sl v7), (sl v10), (sl v13), (sl v16)] :: osl Q1 28 (sl v2) l R :: osl RS 9 (sl v4) Names R5 :: osl Q5 44 (sl v7) Schema R8 :: osl (RI .i64) 3 (sl v10) Init R11 :: osl RS 9 (sl v13) Procs R14 :: osl Q2 54 (sl v16) Cmd R17 :: Φ) w') := by
 refine CallsX_enter Tryd.func62 rfl Tryd.ntmps62 rfl ?_
 unfold model_read_given at hm
 refine WC_seq <| WC_region ?_
 refine Wo (Run_assign Opd.c) rfl <| ?_
 refine WL_nil <| At_then <| WC_seq <| WC_region ?_
 refine Wo (Run_move (O rfl)) rfl <| Wo (Run_nilP (O rfl)) rfl <| Wo (Run_fieldAddr fo69_2 (O rfl)) rfl <| Wo (Run_fieldAddr fo33_0 (O rfl)) rfl <| Wo (Run_load1 (v := (sl v4)) Tryd.underlying26 rfl (O rfl) (fun _ => (hs.box (i := 0) rfl).part 2 rfl)) rfl <| Wo (Run_move (O rfl)) rfl <| ?_
 obtain ⟨r3, hr4, hm⟩ := bind_some' hm
 refine WL_call (f := 70) (first := []) (cap := []) (xs := [(.tmp 9), (.tmp 10)]) (vs := [(sl v4), (S name)]) (args := [(sl v4), (S name)]) Tryd.call70 Opd.f (.cons (O rfl) (.cons (O rfl) .nil)) rfl rfl (slices_Contains_string_string_s2_ok (hs.re 7 [2, 0, 1, 3, 4, 5, 6] rfl) hr4) ?_
 rintro _ w5 ⟨rfl, hs⟩
 replace hs := Sat.n7 (Γ := Φ) hs rfl
 refine Wo (Run_move (O rfl)) rfl <| Wg rfl guard_neg (Run_move (O rfl)) rfl <| Wg rfl guard_neg (Run_nilP (Opd.g rfl id)) rfl <| Wg rfl guard_neg (Run_fieldAddr fo69_2 (Opd.g rfl id)) rfl <| Wg rfl guard_neg (Run_fieldAddr fo33_3 (Opd.g rfl id)) rfl <| Wg rfl guard_neg (Run_load1 (v := (sl v13)) Tryd.underlying26 rfl (Opd.g rfl id) (fun _ => (hs.box (i := 1) rfl).part 5 rfl)) rfl <| Wg rfl guard_neg (Run_move (O rfl)) rfl <| ?_
 obtain ⟨r6, hr7, -, hm⟩ := callG_some hm
 refine WL_callG rfl rfl rfl guard_neg (f := 70) (first := []) (cap := []) (xs := [(.tmp 17), (.tmp 18)]) (vs := [(sl v13), (S name)]) (args := [(sl v13), (S name)]) Tryd.call70 Opd.f (.cons (Opd.g rfl id) (.cons (Opd.g rfl id) .nil)) rfl rfl (fun hg => slices_Contains_string_string_s2_ok (hs.re 7 [5, 0, 1, 2, 3, 4, 6] rfl) (hr7 hg)) ?_
 intro v9 w8 hv10 hz11
 replace hs := Sat.ofG (fun hg => (hv10 hg).2.re 7 [1, 2, 3, 4, 5, 0, 6] rfl) hz11 hs
 refine WL_sub1 (v := (.bool r6)) (fun hg => (hv10 hg).1) ?_
 replace hs := Sat.n7 (Γ := Φ) hs rfl
 obtain ⟨b12, e13, hm⟩ := letv_some hm
 refine Wo (Run.eqB (Run_or (O rfl) (Opd.g rfl id)) e13) rfl <| Wo (Run_assign (O rfl)) rfl <| ?_
 refine WL_nil <| At_then ?_
 refine WC_ret ?_
 refine At_r1 rfl (ResIs.t rfl) ?_
 cases hm
 exact ⟨rfl, (hs.re 7 [1, 2, 0, 3, 4, 5, 6] rfl)⟩
end Go.Proofs.YtdhgpnejphlfpaaDoor
namespace Go.Proofs.YtdhgpnejphlfpaaDoor
open Go.Proofs
theorem model_read_name_ok {Φ w full l at_ Names Schema Init Procs Cmd b v2 R v4 R5 v7 R8 v10 R11 v13 R14 v16 R17 r} (hs : Sat (box b 69 [(sl v2), (.int .i64 at_), (sl v4), (sl v7), (sl v10), (sl v13), (sl v16)] :: osl Q1 28 (sl v2) l R :: osl RS 9 (sl v4) Names R5 :: osl Q5 44 (sl v7) Schema R8 :: osl (RI .i64) 3 (sl v10) Init R11 :: osl RS 9 (sl v13) Procs R14 :: osl Q2 54 (sl v16) Cmd R17 :: gl 0 (keysL.map S) :: Φ) w) (hm : model_read_name full l at_ Names Schema Init Procs Cmd = some r) :
  CallsE Tryd.prog 53 [(.pointer (some ⟨b, 0, none⟩)), (.bool full)] w r panV Φ (fun (r : (Str × Int)) v w' => v = (S r.1) ∧ Sat (box b 69 [(sl v2), (.int .i64 r.2), (sl v4), (sl v7), (sl v10), (sl v13), (sl v16)] :: osl Q1 28 (sl v2) l R :: osl RS 9 (sl v4) Names R5 :: osl Q5 44 (sl v7) Schema R8 :: osl (RI .i64) 3 (sl v10) Init R11 :: osl RS 9 (sl v13) Procs R14 :: osl Q2 54 (sl v16) Cmd R17 :: Φ) w') := by
 refine CallsX_enter Tryd.func53 rfl Tryd.ntmps53 rfl ?_
 unfold model_read_name at hm
 refine WC_seq <| WC_region ?_
 refine W ?_
 refine WL_nil <| At_then <| WC_seq <| WC_region ?_
 refine W ?_
 obtain ⟨r4, hr5, hm⟩ := bind_some' hm
 refine WL_call (f := 43) (first := []) (cap := []) (xs := [(.tmp 6)]) (vs := [(.pointer (some ⟨b, 0, none⟩))]) (args := [(.pointer (some ⟨b, 0, none⟩))]) Tryd.call43 Opd.f (.cons (O rfl) .nil) rfl rfl (model_read_next_ok (hs.re 8 [0, 1, 2, 3, 4, 5, 6, 7] rfl) hr5) ?_
 rintro _ w6 ⟨rfl, hs⟩
 replace hs := Sat.n8 (Γ := Φ) hs rfl
 refine WS_alloc (zs := [(.int .i64 0), (S []), (.int .i64 0), (.int .i64 0)]) hs ti28 rfl rfl ?_
 intro b7 w8 hs
 replace hs := Sat.n9 (Γ := Φ) hs rfl
 refine WS_store (us := [(.int .i64 r4.1), (S r4.2.1), (.int .i64 r4.2.2.1), (.int .i64 r4.2.2.2)]) (vs' := [(.int .i64 r4.1), (S r4.2.1), (.int .i64 r4.2.2.1), (.int .i64 r4.2.2.2)]) hs 0 rfl ti28 (O rfl) (O rfl) rfl rfl rfl rfl rfl ?_
 intro w9 hs
 replace hs := Sat.n9 (Γ := Φ) hs rfl
 refine WL_nil <| At_then ?_
 refine WC_seq_cut (γ := Unit) (fun (_ : Unit) w10 => model_read_name_K1 at_ r4 = some r ∧ Sat (box b 69 [(sl v2), (.int .i64 at_), (sl v4), (sl v7), (sl v10), (sl v13), (sl v16)] :: osl Q1 28 (sl v2) l R :: osl RS 9 (sl v4) Names R5 :: osl Q5 44 (sl v7) Schema R8 :: osl (RI .i64) 3 (sl v10) Init R11 :: osl RS 9 (sl v13) Procs R14 :: osl Q2 54 (sl v16) Cmd R17 :: box b7 28 [(.int .i64 r4.1), (S r4.2.1), (.int .i64 r4.2.2.1), (.int .i64 r4.2.2.2)] :: gl 0 (keysL.map S) :: Φ) w10) (fun (_ : Unit) => [(0, true, (.pointer (some ⟨b, 0, none⟩))), (5, true, (.pointer (some ⟨b7, 0, none⟩)))]) ?_ ?_
 ·
  rintro _ w10 ⟨hm, hs⟩
  unfold model_read_name_K1 at hm
  refine WC_seq <| WC_region ?_
  iterate 7 refine W ?_
  refine WS_store (us := [(.int .i64 (IntKind.i64.wrap (at_ + 1)))]) (vs' := [(sl v2), (.int .i64 (IntKind.i64.wrap (at_ + 1))), (sl v4), (sl v7), (sl v10), (sl v13), (sl v16)]) hs 0 rfl ti3 (O rfl) (O rfl) rfl rfl rfl rfl rfl ?_
  intro w11 hs
  replace hs := Sat.n9 (Γ := Φ) hs rfl
  refine WL_nil <| At_then <| WC_seq <| WC_region ?_
  iterate 3 refine W ?_
  refine WL_nil <| At_then ?_
  refine WC_ret ?_
  refine At_r1 rfl (ResIs.t rfl) ?_
  cases hm
  exact ⟨_, rfl, rfl, (hs.re 9 [0, 1, 2, 3, 4, 5, 6] rfl)⟩
 ·
  refine WC_block ?_
  refine WC_seq <| WC_region ?_
  iterate 4 refine W ?_
  refine WL_nil <| At_then ?_
  refine WC_cond (O rfl) (fun hc12 => ?_) (fun hc12 => ?_)
  ·
   replace hm := bif_t hc12 hm
   refine WC_region ?_
   refine W ?_
   rcases bindE_some hm with ⟨p15, hp16, rfl⟩ | ⟨r13, hr14, hm⟩
   ·
    refine WL_callP (f := 45) (first := []) (cap := []) (xs := [(.tmp 12), (.const (.int .i64 2))]) (vs := [(.pointer (some ⟨b, 0, none⟩)), (.int .i64 2)]) (args := [(.pointer (some ⟨b, 0, none⟩)), (.int .i64 2)]) Tryd.call45 Opd.f (.cons (O rfl) (.cons Opd.c .nil)) rfl rfl (model_read_stop_ok (hs.re 9 [1, 2, 3, 4, 5, 6, 7, 0, 8] rfl) hp16) ?_
    intro w18 hs
    refine At_blk_panic <| At_then_panic <| ?_
    exact At_p ⟨_, rfl, rfl, hs.re 2 [] rfl⟩
   exact r13.elim
  ·
   replace hm := bif_f hc12 hm
   refine WC_seq <| WC_region ?_
   iterate 2 refine W ?_
   obtain ⟨r19, hr20, hm⟩ := bind_some' hm
   refine WL_call (f := 61) (first := []) (cap := []) (xs := [(.tmp 16)]) (vs := [(S r4.2.1)]) (args := [(S r4.2.1)]) Tryd.call61 Opd.f (.cons (O rfl) .nil) rfl rfl (expr_Key_ok (hs.re 9 [8, 0, 1, 2, 3, 4, 5, 6, 7, 8] rfl) hr20) ?_
   rintro _ w21 ⟨rfl, hs⟩
   replace hs := Sat.n9 (Γ := Φ) hs rfl
   refine W ?_
   iterate 3 refine WG ?_
   obtain ⟨r22, hr23, -, hm⟩ := callG_some hm
   refine WL_callG rfl rfl rfl guard_neg (f := 62) (first := []) (cap := []) (xs := [(.tmp 19), (.tmp 21)]) (vs := [(.pointer (some ⟨b, 0, none⟩)), (S r4.2.1)]) (args := [(.pointer (some ⟨b, 0, none⟩)), (S r4.2.1)]) Tryd.call62 Opd.f (.cons (Opd.g rfl id) (.cons (Opd.g rfl id) .nil)) rfl rfl (fun hg => model_read_given_ok (hs.re 9 [1, 2, 3, 4, 5, 6, 7, 0, 8] rfl) (hr23 hg)) ?_
   intro v25 w24 hv26 hz27
   replace hs := Sat.ofG (fun hg => (hv26 hg).2.re 9 [7, 0, 1, 2, 3, 4, 5, 6, 8] rfl) hz27 hs
   refine WL_sub1 (v := (.bool r22)) (fun hg => (hv26 hg).1) ?_
   replace hs := Sat.n9 (Γ := Φ) hs rfl
   obtain ⟨b28, e29, hm⟩ := letv_som hm
   iterate 2 refine W ?_
   refine WL_nil <| At_then ?_
   refine WC_cond (O rfl) (fun hc30 => ?_) (fun hc30 => ?_)
   ·
    replace hm := bif_t hc30 hm
    refine WC_region ?_
    refine W ?_
    rcases bindE_some hm with ⟨p33, hp34, rfl⟩ | ⟨r31, hr32, hm⟩
    ·
     refine WL_callP (f := 45) (first := []) (cap := []) (xs := [(.tmp 24), (.const (.int .i64 3))]) (vs := [(.pointer (some ⟨b, 0, none⟩)), (.int .i64 3)]) (args := [(.pointer (some ⟨b, 0, none⟩)), (.int .i64 3)]) Tryd.call45 Opd.f (.cons (O rfl) (.cons Opd.c .nil)) rfl rfl (model_read_stop_ok (hs.re 9 [1, 2, 3, 4, 5, 6, 7, 0, 8] rfl) hp34) ?_
     intro w36 hs
     refine At_blk_panic <| At_then_panic <| ?_
     exact At_p ⟨_, rfl, rfl, hs.re 2 [] rfl⟩
    exact r31.elim
   ·
    replace hm := bif_f hc30 hm
    refine WC_seq <| WC_region ?_
    iterate 2 refine W ?_
    refine WL_nil <| At_then ?_
    refine WC_cond (O rfl) (fun hc37 => ?_) (fun hc37 => ?_)
    ·
     replace hm := bif_t hc37 hm
     refine WC_region ?_
     refine W ?_
     rcases bindE_some hm with ⟨p40, hp41, rfl⟩ | ⟨r38, hr39, hm⟩
     ·
      refine WL_callP (f := 45) (first := []) (cap := []) (xs := [(.tmp 28), (.const (.int .i64 9))]) (vs := [(.pointer (some ⟨b, 0, none⟩)), (.int .i64 9)]) (args := [(.pointer (some ⟨b, 0, none⟩)), (.int .i64 9)]) Tryd.call45 Opd.f (.cons (O rfl) (.cons Opd.c .nil)) rfl rfl (model_read_stop_ok (hs.re 9 [1, 2, 3, 4, 5, 6, 7, 0, 8] rfl) hp41) ?_
      intro w43 hs
      refine At_blk_panic <| At_then_panic <| ?_
      exact At_p ⟨_, rfl, rfl, hs.re 2 [] rfl⟩
     exact r38.elim
    ·
     replace hm := bif_f hc37 hm
     refine WC_skip ?_
     refine At_blk_normal ?_
     exact At_join () ⟨hm, (hs.re 9 [1, 2, 3, 4, 5, 6, 7, 0, 8] rfl)⟩ rfl
theorem model_read_number_ok {Φ w l at_ Names Schema Init Procs Cmd b v2 R v4 R5 v7 R8 v10 R11 v13 R14 v16 R17 r} (hs : Sat (box b 69 [(sl v2), (.int .i64 at_), (sl v4), (sl v7), (sl v10), (sl v13), (sl v16)] :: osl Q1 28 (sl v2) l R :: osl RS 9 (sl v4) Names R5 :: osl Q5 44 (sl v7) Schema R8 :: osl (RI .i64) 3 (sl v10) Init R11 :: osl RS 9 (sl v13) Procs R14 :: osl Q2 54 (sl v16) Cmd R17 :: Φ) w) (hm : model_read_number l at_ Names Schema Init Procs Cmd = some r) :
  CallsE Tryd.prog 54 [(.pointer (some ⟨b, 0, none⟩))] w r panV Φ (fun (r : (Int × Int)) v w' => v = (.int .i64 r.1) ∧ Sat (box b 69 [(sl v2), (.int .i64 r.2), (sl v4), (sl v7), (sl v10), (sl v13), (sl v16)] :: osl Q1 28 (sl v2) l R :: osl RS 9 (sl v4) Names R5 :: osl Q5 44 (sl v7) Schema R8 :: osl (RI .i64) 3 (sl v10) Init R11 :: osl RS 9 (sl v13) Procs R14 :: osl Q2 54 (sl v16) Cmd R17 :: Φ) w') := by
 refine CallsX_enter Tryd.func54 rfl Tryd.ntmps54 rfl ?_
 unfold model_read_number at hm
 refine WC_seq <| WC_region ?_
 refine W ?_
 refine WL_nil <| At_then <| WC_seq <| WC_region ?_
 refine W ?_
 obtain ⟨r4, hr5, hm⟩ := bind_some' hm
 refine WL_call (f := 44) (first := []) (cap := []) (xs := [(.tmp 5), (.const (.int .i64 3)), (.const (.string ⟨#[45]⟩))]) (vs := [(.pointer (some ⟨b, 0, none⟩)), (.int .i64 3), (S [45])]) (args := [(.pointer (some ⟨b, 0, none⟩)), (.int .i64 3), (S [45])]) Tryd.call44 Opd.f (.cons (O rfl) (.cons Opd.c (.cons Opd.c .nil))) rfl rfl (model_read_is_ok (hs.re 7 [0, 1, 2, 3, 4, 5, 6] rfl) hr5) ?_
 rintro _ w6 ⟨rfl, hs⟩
 replace hs := Sat.n7 (Γ := Φ) hs rfl
 refine W ?_
 refine WL_nil <| At_then ?_
 refine WC_seq_cut (γ := Int) (fun c8 w7 => model_read_number_K1 l Names Schema Init Procs Cmd r4 c8 = some r ∧ Sat (box b 69 [(sl v2), (.int .i64 c8), (sl v4), (sl v7), (sl v10), (sl v13), (sl v16)] :: osl Q1 28 (sl v2) l R :: osl RS 9 (sl v4) Names R5 :: osl Q5 44 (sl v7) Schema R8 :: osl (RI .i64) 3 (sl v10) Init R11 :: osl RS 9 (sl v13) Procs R14 :: osl Q2 54 (sl v16) Cmd R17 :: Φ) w7) (fun c8 => [(0, true, (.pointer (some ⟨b, 0, none⟩))), (3, true, (.bool r4))]) ?_ ?_
 ·
  rintro c8 w7 ⟨hm, hs⟩
  unfold model_read_number_K1 at hm
  refine WC_seq <| WC_region ?_
  refine W ?_
  obtain ⟨r9, hr10, hm⟩ := bind_some' hm
  refine WL_call (f := 43) (first := []) (cap := []) (xs := [(.tmp 15)]) (vs := [(.pointer (some ⟨b, 0, none⟩))]) (args := [(.pointer (some ⟨b, 0, none⟩))]) Tryd.call43 Opd.f (.cons (O rfl) .nil) rfl rfl (model_read_next_ok (hs.re 7 [0, 1, 2, 3, 4, 5, 6] rfl) hr10) ?_
  rintro _ w11 ⟨rfl, hs⟩
  replace hs := Sat.n7 (Γ := Φ) hs rfl
  refine WS_alloc (zs := [(.int .i64 0), (S []), (.int .i64 0), (.int .i64 0)]) hs ti28 rfl rfl ?_
  intro b12 w13 hs
  replace hs := Sat.n8 (Γ := Φ) hs rfl
  refine WS_store (us := [(.int .i64 r9.1), (S r9.2.1), (.int .i64 r9.2.2.1), (.int .i64 r9.2.2.2)]) (vs' := [(.int .i64 r9.1), (S r9.2.1), (.int .i64 r9.2.2.1), (.int .i64 r9.2.2.2)]) hs 0 rfl ti28 (O rfl) (O rfl) rfl rfl rfl rfl rfl ?_
  intro w14 hs
  replace hs := Sat.n8 (Γ := Φ) hs rfl
  refine WL_nil <| At_then ?_
  refine WC_seq_cut (γ := Unit) (fun (_ : Unit) w15 => model_read_number_K2 r4 c8 r9 = some r ∧ Sat (box b 69 [(sl v2), (.int .i64 c8), (sl v4), (sl v7), (sl v10), (sl v13), (sl v16)] :: osl Q1 28 (sl v2) l R :: osl RS 9 (sl v4) Names R5 :: osl Q5 44 (sl v7) Schema R8 :: osl (RI .i64) 3 (sl v10) Init R11 :: osl RS 9 (sl v13) Procs R14 :: osl Q2 54 (sl v16) Cmd R17 :: box b12 28 [(.int .i64 r9.1), (S r9.2.1), (.int .i64 r9.2.2.1), (.int .i64 r9.2.2.2)] :: Φ) w15) (fun (_ : Unit) => [(0, true, (.pointer (some ⟨b, 0, none⟩))), (3, true, (.bool r4)), (4, true, (.pointer (some ⟨b12, 0, none⟩)))]) ?_ ?_
  ·
   rintro _ w15 ⟨hm, hs⟩
   unfold model_read_number_K2 at hm
   refine WC_seq <| WC_region ?_
   iterate 7 refine W ?_
   refine WS_store (us := [(.int .i64 (IntKind.i64.wrap (c8 + 1)))]) (vs' := [(sl v2), (.int .i64 (IntKind.i64.wrap (c8 + 1))), (sl v4), (sl v7), (sl v10), (sl v13), (sl v16)]) hs 0 rfl ti3 (O rfl) (O rfl) rfl rfl rfl rfl rfl ?_
   intro w16 hs
   replace hs := Sat.n8 (Γ := Φ) hs rfl
   refine WL_nil <| At_then <| WC_seq <| WC_seq <| WC_region ?_
   refine W ?_
   refine WL_nil <| At_then ?_
   refine WC_cond (O rfl) (fun hc17 => ?_) (fun hc17 => ?_)
   ·
    replace hm := bif_t hc17 hm
    refine WC_seq <| WC_region ?_
    iterate 4 refine W ?_
    refine WL_nil <| At_then ?_
    refine WC_ret ?_
    refine At_then_ret <| ?_
    refine At_r1 rfl (ResIs.t rfl) ?_
    cases hm
    exact ⟨_, rfl, rfl, (hs.re 8 [0, 1, 2, 3, 4, 5, 6] rfl)⟩
   ·
    replace hm := bif_f hc17 hm
    refine WC_skip ?_
    refine At_then <| WC_seq <| WC_region ?_
    iterate 3 refine W ?_
    refine WL_nil <| At_then ?_
    refine WC_ret ?_
    refine At_r1 rfl (ResIs.t rfl) ?_
    cases hm
    exact ⟨_, rfl, rfl, (hs.re 8 [0, 1, 2, 3, 4, 5, 6] rfl)⟩
  ·
   refine WC_seq <| WC_region ?_
   iterate 3 refine W ?_
   refine WL_nil <| At_then ?_
   refine WC_cond (O rfl) (fun hc18 => ?_) (fun hc18 => ?_)
   ·
    replace hm := bif_t hc18 hm
    refine WC_region ?_
    refine W ?_
    rcases bindE_some hm with ⟨p21, hp22, rfl⟩ | ⟨r19, hr20, hm⟩
    ·
     refine WL_callP (f := 45) (first := []) (cap := []) (xs := [(.tmp 20), (.const (.int .i64 2))]) (vs := [(.pointer (some ⟨b, 0, none⟩)), (.int .i64 2)]) (args := [(.pointer (some ⟨b, 0, none⟩)), (.int .i64 2)]) Tryd.call45 Opd.f (.cons (O rfl) (.cons Opd.c .nil)) rfl rfl (model_read_stop_ok (hs.re 8 [1, 2, 3, 4, 5, 6, 7, 0] rfl) hp22) ?_
     intro w24 hs
     refine At_then_panic <| ?_
     exact At_p ⟨_, rfl, rfl, hs.re 1 [] rfl⟩
    exact r19.elim
   ·
    replace hm := bif_f hc18 hm
    refine WC_skip ?_
    exact At_join () ⟨hm, (hs.re 8 [1, 2, 3, 4, 5, 6, 7, 0] rfl)⟩ rfl
 ·
  refine WC_seq <| WC_region ?_
  refine W ?_
  refine WL_nil <| At_then ?_
  refine WC_cond (O rfl) (fun hc25 => ?_) (fun hc25 => ?_)
  ·
   replace hm := bif_t hc25 hm
   refine WC_region ?_
   iterate 7 refine W ?_
   refine WS_store (us := [(.int .i64 (IntKind.i64.wrap (at_ + 1)))]) (vs' := [(sl v2), (.int .i64 (IntKind.i64.wrap (at_ + 1))), (sl v4), (sl v7), (sl v10), (sl v13), (sl v16)]) hs 0 rfl ti3 (O rfl) (O rfl) rfl rfl rfl rfl rfl ?_
   intro w26 hs
   replace hs := Sat.n7 (Γ := Φ) hs rfl
   refine WL_nil ?_
   exact At_join (IntKind.i64.wrap (at_ + 1)) ⟨hm, (hs.re 7 [0, 1, 2, 3, 4, 5, 6] rfl)⟩ rfl
  ·
   replace hm := bif_f hc25 hm
   refine WC_skip ?_
   exact At_join at_ ⟨hm, (hs.re 7 [0, 1, 2, 3, 4, 5, 6] rfl)⟩ rfl
theorem model_read_sign_ok {Φ w text l at_ Names Schema Init Procs Cmd b v2 R v4 R5 v7 R8 v10 R11 v13 R14 v16 R17 r} (hs : Sat (box b 69 [(sl v2), (.int .i64 at_), (sl v4), (sl v7), (sl v10), (sl v13), (sl v16)] :: osl Q1 28 (sl v2) l R :: osl RS 9 (sl v4) Names R5 :: osl Q5 44 (sl v7) Schema R8 :: osl (RI .i64) 3 (sl v10) Init R11 :: osl RS 9 (sl v13) Procs R14 :: osl Q2 54 (sl v16) Cmd R17 :: Φ) w) (hm : model_read_sign text l at_ Names Schema Init Procs Cmd = some r) :
  CallsE Tryd.prog 55 [(.pointer (some ⟨b, 0, none⟩)), (S text)] w r panV Φ (fun (r : Int) v w' => v = (.tuple #[]) ∧ Sat (box b 69 [(sl v2), (.int .i64 r), (sl v4), (sl v7), (sl v10), (sl v13), (sl v16)] :: osl Q1 28 (sl v2) l R :: osl RS 9 (sl v4) Names R5 :: osl Q5 44 (sl v7) Schema R8 :: osl (RI .i64) 3 (sl v10) Init R11 :: osl RS 9 (sl v13) Procs R14 :: osl Q2 54 (sl v16) Cmd R17 :: Φ) w') := by
 refine CallsX_enter Tryd.func55 rfl Tryd.ntmps55 rfl ?_
 unfold model_read_sign at hm
 refine WC_seq_cut (γ := Unit) (fun (_ : Unit) w3 => model_read_sign_K1 at_ = some r ∧ Sat (box b 69 [(sl v2), (.int .i64 at_), (sl v4), (sl v7), (sl v10), (sl v13), (sl v16)] :: osl Q1 28 (sl v2) l R :: osl RS 9 (sl v4) Names R5 :: osl Q5 44 (sl v7) Schema R8 :: osl (RI .i64) 3 (sl v10) Init R11 :: osl RS 9 (sl v13) Procs R14 :: osl Q2 54 (sl v16) Cmd R17 :: Φ) w3) (fun (_ : Unit) => [(0, true, (.pointer (some ⟨b, 0, none⟩)))]) ?_ ?_
 ·
  rintro _ w3 ⟨hm, hs⟩
  unfold model_read_sign_K1 at hm
  refine WC_region ?_
  iterate 7 refine W ?_
  refine WS_store (us := [(.int .i64 (IntKind.i64.wrap (at_ + 1)))]) (vs' := [(sl v2), (.int .i64 (IntKind.i64.wrap (at_ + 1))), (sl v4), (sl v7), (sl v10), (sl v13), (sl v16)]) hs 0 rfl ti3 (O rfl) (O rfl) rfl rfl rfl rfl rfl ?_
  intro w4 hs
  replace hs := Sat.n7 (Γ := Φ) hs rfl
  refine WL_nil ?_
  refine At_e0 rfl  ?_
  cases hm
  exact ⟨_, rfl, rfl, (hs.re 7 [0, 1, 2, 3, 4, 5, 6] rfl)⟩
 ·
  refine WC_seq <| WC_region ?_
  iterate 2 refine W ?_
  obtain ⟨r5, hr6, hm⟩ := bind_some' hm
  refine WL_call (f := 44) (first := []) (cap := []) (xs := [(.tmp 4), (.const (.int .i64 3)), (.tmp 5)]) (vs := [(.pointer (some ⟨b, 0, none⟩)), (.int .i64 3), (S text)]) (args := [(.pointer (some ⟨b, 0, none⟩)), (.int .i64 3), (S text)]) Tryd.call44 Opd.f (.cons (O rfl) (.cons Opd.c (.cons (O rfl) .nil))) rfl rfl (model_read_is_ok (hs.re 7 [0, 1, 2, 3, 4, 5, 6] rfl) hr6) ?_
  rintro _ w7 ⟨rfl, hs⟩
  replace hs := Sat.n7 (Γ := Φ) hs rfl
  refine W ?_
  refine WL_nil <| At_then ?_
  refine WC_cond (O rfl) (fun hc8 => ?_) (fun hc8 => ?_)
  ·
   replace hm := bif_t hc8 hm
   refine WC_region ?_
   refine W ?_
   rcases bindE_some hm with ⟨p11, hp12, rfl⟩ | ⟨r9, hr10, hm⟩
   ·
    refine WL_callP (f := 45) (first := []) (cap := []) (xs := [(.tmp 8), (.const (.int .i64 2))]) (vs := [(.pointer (some ⟨b, 0, none⟩)), (.int .i64 2)]) (args := [(.pointer (some ⟨b, 0, none⟩)), (.int .i64 2)]) Tryd.call45 Opd.f (.cons (O rfl) (.cons Opd.c .nil)) rfl rfl (model_read_stop_ok (hs.re 7 [0, 1, 2, 3, 4, 5, 6] rfl) hp12) ?_
    intro w14 hs
    refine At_then_panic <| ?_
    exact At_p ⟨_, rfl, rfl, hs.re 0 [] rfl⟩
   exact r9.elim
  ·
   replace hm := bif_f hc8 hm
   refine WC_skip ?_
   exact At_join () ⟨hm, (hs.re 7 [0, 1, 2, 3, 4, 5, 6] rfl)⟩ rfl
theorem schema_span_may_ok {Φ w f r} (hs : Sat (Φ) w) (hm : schema_span_may f = some r) :
  CallsR Tryd.prog 65 [(.agg #[(.int .i64 f.1), (.int .i64 f.2)])] w (fun v w' => v = (.bool r) ∧ Sat (Φ) w') := by
 refine CallsX_enter Tryd.func65 rfl Tryd.ntmps65 rfl ?_
 unfold schema_span_may at hm
 refine WC_seq <| WC_region ?_
 refine WS_box (zs := [(.int .i64 f.1), (.int .i64 f.2)]) hs (O rfl) rfl rfl ?_
 intro b3 w4 hs
 replace hs := Sat.n1 (Γ := Φ) hs rfl
 refine W ?_
 refine WL_nil <| At_then <| WC_seq <| WC_region ?_
 iterate 2 refine W ?_
 obtain ⟨b5, e6, hm⟩ := letv_som hm
 iterate 2 refine W ?_
 iterate 2 refine WG ?_
 obtain ⟨b7, e8, hm⟩ := letv_som hm
 refine WG ?_
 obtain ⟨b9, e10, hm⟩ := letv_som hm
 iterate 2 refine W ?_
 refine WL_nil <| At_then <| WC_seq <| WC_region ?_
 refine W ?_
 obtain ⟨b11, e12, hm⟩ := letv_som hm
 iterate 2 refine W ?_
 iterate 4 refine WG ?_
 obtain ⟨b13, e14, hm⟩ := letv_som hm
 refine WG ?_
 obtain ⟨b15, e16, hm⟩ := letv_som hm
 iterate 2 refine W ?_
 iterate 5 refine WG ?_
 obtain ⟨b17, e18, hm⟩ := letv_som hm
 refine WG ?_
 obtain ⟨b19, e20, hm⟩ := letv_som hm
 iterate 2 refine W ?_
 refine WL_nil <| At_then ?_
 refine WC_ret ?_
 refine At_r1 rfl (ResIs.t rfl) ?_
 cases hm
 exact ⟨rfl, (hs.re 1 [] rfl)⟩
end Go.Proofs.YtdhgpnejphlfpaaDoor
namespace Go.Proofs.YtdhgpnejphlfpaaDoor
open Go.Proofs
theorem schema_each_bool_s2_ok {Φ w s v1 R r} (hs : Sat (osl Q5 44 (sl v1) s R :: Φ) w) (hm : schema_each_bool_s2 s = some r) :
  CallsR Tryd.prog 64 [(sl v1), (.func (.func 65) #[] #[])] w (fun v w' => ∃ v3 : SLV, ∃ R4 : List Nat, v = (sl v3) ∧ Sat (osl RB 4 (sl v3) r R4 :: osl Q5 44 (sl v1) s R :: Φ) w') := by
 refine CallsX_enter Tryd.func64 rfl Tryd.ntmps64 rfl ?_
 unfold schema_each_bool_s2 at hm
 refine WC_seq <| WC_region ?_
 refine W ?_
 refine WL_nil <| At_then <| WC_seq <| WC_region ?_
 iterate 2 refine W ?_
 obtain ⟨k5, hm⟩ := chk_some hm
 obtain ⟨k6, hm⟩ := chk_some hm
 refine WS_make (A := RB) (zx := false) (zs := [(.bool false)]) hs Tryd.underlying97 ti4 rfl rfl rfl (O rfl) (O rfl) k5 k6 (fun M w => rfl) rfl ?_
 intro b7 w8 hs
 replace hs := Sat.n2 (Γ := Φ) hs rfl
 refine W ?_
 refine WL_nil <| At_then <| WC_seq <| WC_seq <| WC_region ?_
 iterate 3 refine W ?_
 refine WL_nil <| At_then ?_
 refine WC_block ?_
 refine WC_loop (σ := (List Bool) × Int) (γ := Unit) (F := (schema_each_bool_s2_L1 s)) (N := FUEL) (s0 := ((List.replicate (Int.toNat (List.length s : Int)) false), 0)) (r := r) (fun ⟨l10, t11⟩ (_ : Unit) w9 => Sat (osl RB 4 (sl (some ⟨b7, 0, none⟩, Int.toNat (List.length s : Int), Int.toNat (List.length s : Int))) l10 [b7] :: osl Q5 44 (sl v1) s R :: Φ) w9) (fun ⟨l10, t11⟩ (_ : Unit) => [(1, true, (.func (.func 65) #[] #[])), (5, true, (sl (some ⟨b7, 0, none⟩, Int.toNat (List.length s : Int), Int.toNat (List.length s : Int)))), (11, true, (sl v1)), (12, true, (.int .i64 (List.length s : Int))), (13, true, (.int .i64 t11))]) hm () (hs.re 2 [0, 1] rfl) rfl ?_
 rintro again12 ⟨l10, t11⟩ _ w9 hm hs
 unfold schema_each_bool_s2_L1 at hm
 dsimp only at hm
 refine WC_seq <| WC_region ?_
 refine W ?_
 refine WL_nil <| At_then <| WC_seq ?_
 refine WC_cond (O rfl) (fun hc13 => ?_) (fun hc13 => ?_)
 ·
  replace hm := bif_t hc13 hm
  refine WC_skip ?_
  refine At_then <| WC_seq ?_
  refine WC_block ?_
  refine WC_seq <| WC_region ?_
  refine W ?_
  obtain ⟨e14, he15, hm⟩ := bind_some' hm
  refine Wo (Run_idxAddr (p := (elA (sl v1) t11 2)) Tryd.underlying29 ti44 (O rfl) (O rfl) (fun hg => (Own.atA (A := Q5) (v := (sl v1)) (hs.own (i := 1) rfl) he15).1)) rfl <| Wo (Run_loadA (vs := [(.int .i64 e14.1), (.int .i64 e14.2)]) Tryd.underlying44 rfl ti44 (O rfl) (fun hg => (Own.cellsF (A := Q5) (v := (sl v1)) (hs.own (i := 1) rfl) he15 (fun _ h => openT44 h)).sub 0 rfl) rfl) rfl <| ?_
  refine WS_alloc (zs := [(.int .i64 0), (.int .i64 0)]) hs ti44 rfl rfl ?_
  intro b16 w17 hs
  replace hs := Sat.n3 (Γ := Φ) hs rfl
  refine W ?_
  refine WS_store (us := [(.int .i64 e14.1), (.int .i64 e14.2)]) (vs' := [(.int .i64 e14.1), (.int .i64 e14.2)]) hs 0 rfl ti44 (O rfl) (O rfl) rfl rfl rfl rfl rfl ?_
  intro w18 hs
  replace hs := Sat.n3 (Γ := Φ) hs rfl
  refine WL_nil <| At_then <| WC_region ?_
  iterate 3 refine W ?_
  refine Wo (Run_loadA (vs := [(.int .i64 e14.1), (.int .i64 e14.2)]) Tryd.underlying44 rfl ti44 (O rfl) (fun _ => (hs.box (i := 0) rfl).part 0 rfl) rfl) rfl <| ?_
  obtain ⟨r19, hr20, hm⟩ := bind_some' hm
  refine WL_call (f := 65) (first := []) (cap := []) (xs := [(.tmp 21)]) (vs := [(.agg #[(.int .i64 e14.1), (.int .i64 e14.2)])]) (args := [(.agg #[(.int .i64 e14.1), (.int .i64 e14.2)])]) Tryd.call65 (O rfl) (.cons (O rfl) .nil) rfl rfl (schema_span_may_ok (hs.re 3 [0, 1, 2] rfl) hr20) ?_
  rintro _ w21 ⟨rfl, hs⟩
  replace hs := Sat.n3 (Γ := Φ) hs rfl
  obtain ⟨e22, he23, hm⟩ := bind_some' hm
  refine WL_op (Run_idxAddr (p := (elA (sl (some ⟨b7, 0, none⟩, Int.toNat (List.length s : Int), Int.toNat (List.length s : Int))) t11 1)) Tryd.underlying97 ti4 (O rfl) (O rfl) (fun hg => (Own.atA (A := RB) (v := (sl (some ⟨b7, 0, none⟩, Int.toNat (List.length s : Int), Int.toNat (List.length s : Int)))) (hs.own (i := 1) rfl) he23).1)) rfl rfl rfl rfl <| ?_
  refine WS_storeElA (A := RB) (us := [(.bool r19)]) (u := r19) hs 1 rfl ti4 (idx_inB he23 (by simp)) (O rfl) (O rfl) rfl rfl rfl rfl rfl ?_
  intro w24 hs
  replace hs := Sat.n3 (Γ := Φ) hs rfl
  refine WL_nil ?_
  refine At_blk_normal ?_
  refine At_then <| WC_region ?_
  iterate 2 refine W ?_
  refine WL_nil ?_
  exact At_again ((List.set l10 (Int.toNat t11) r19), (IntKind.i64.wrap (t11 + 1))) () hm (hs.re 3 [1, 2] rfl) rfl
 ·
  replace hm := bif_f hc13 hm
  refine WC_exit ?_
  refine At_then_exit <| At_then_exit <| At_blk_here <| ?_
  refine At_then <| WC_seq <| WC_region ?_
  iterate 2 refine W ?_
  refine WL_nil <| At_then ?_
  refine WC_ret ?_
  refine At_r1 rfl (ResIs.t rfl) ?_
  cases hm
  exact ⟨(some ⟨b7, 0, none⟩, Int.toNat (List.length s : Int), Int.toNat (List.length s : Int)), [b7], rfl, (hs.re 2 [0, 1] rfl)⟩
theorem slices_Index_bool_bool_ok {Φ w s v3 v1 r} (hs : Sat (imm (RSl RB) [sl v1] s :: Φ) w) (hm : slices_Index_bool_bool s v3 = some r) :
  CallsR Tryd.prog 71 [(sl v1), (.bool v3)] w (fun v w' => v = (.int .i64 r) ∧ Sat (Φ) w') := by
 refine CallsX_enter Tryd.func71 rfl Tryd.ntmps71 rfl ?_
 unfold slices_Index_bool_bool at hm
 refine WC_seq <| WC_region ?_
 refine W ?_
 refine WL_nil <| At_then <| WC_seq <| WC_seq <| WC_region ?_
 iterate 3 refine W ?_
 refine WL_nil <| At_then ?_
 refine WC_block ?_
 refine WC_loop (σ := Int) (γ := Unit) (F := (slices_Index_bool_bool_L1 s v3)) (N := FUEL) (s0 := 0) (r := r) (fun t4 (_ : Unit) w3 => Sat (imm (RSl RB) [sl v1] s :: Φ) w3) (fun t4 (_ : Unit) => [(0, true, (sl v1)), (1, true, (.bool v3)), (7, true, (.int .i64 (List.length s : Int))), (8, true, (.int .i64 t4))]) hm () (hs.re 1 [0] rfl) rfl ?_
 rintro again5 t4 _ w3 hm hs
 unfold slices_Index_bool_bool_L1 at hm
 refine WC_seq <| WC_region ?_
 refine W ?_
 refine WL_nil <| At_then <| WC_seq ?_
 refine WC_cond (O rfl) (fun hc6 => ?_) (fun hc6 => ?_)
 ·
  replace hm := bif_t hc6 hm
  refine WC_skip ?_
  refine At_then <| WC_seq ?_
  refine WC_block ?_
  refine WC_seq <| WC_region ?_
  iterate 2 refine W ?_
  refine WL_nil <| At_then <| WC_seq <| WC_region ?_
  iterate 3 refine W ?_
  obtain ⟨e7, he8, hm⟩ := bind_some' hm
  refine Wo (Run_idxAddr (p := (elA (sl v1) t4 1)) Tryd.underlying97 ti4 (O rfl) (O rfl) (fun hg => (SRd.atA (A := RB) (v := (sl v1)) (hs.sl (i := 0) rfl) he8).1)) rfl <| Wo (Run_load1 (v := (.bool e7)) Tryd.underlying4 rfl (O rfl) (fun hg => (SRd.cellsF (A := RB) (v := (sl v1)) (hs.sl (i := 0) rfl) he8 (fun _ h => openT4 h)).sub 0 rfl)) rfl <| ?_
  refine W ?_
  refine WL_nil <| At_then ?_
  refine WC_cond (O rfl) (fun hc9 => ?_) (fun hc9 => ?_)
  ·
   replace hm := bif_t hc9 hm
   refine WC_seq <| WC_region ?_
   iterate 2 refine W ?_
   refine WL_nil <| At_then ?_
   refine WC_ret ?_
   refine At_blk_ret <| At_then_ret <| At_then_ret <| At_blk_ret <| At_then_ret <| ?_
   refine At_r1 rfl (ResIs.t rfl) ?_
   cases hm
   exact ⟨rfl, (hs.re 1 [] rfl)⟩
  ·
   replace hm := bif_f hc9 hm
   refine WC_skip ?_
   refine At_blk_normal ?_
   refine At_then <| WC_region ?_
   iterate 2 refine W ?_
   refine WL_nil ?_
   exact At_again (IntKind.i64.wrap (t4 + 1)) () hm (hs.re 1 [0] rfl) rfl
 ·
  replace hm := bif_f hc6 hm
  refine WC_exit ?_
  refine At_then_exit <| At_then_exit <| At_blk_here <| ?_
  refine At_then <| WC_seq <| WC_region ?_
  refine W ?_
  refine WL_nil <| At_then ?_
  refine WC_ret ?_
  refine At_r1 rfl (ResIs.t rfl) ?_
  cases hm
  exact ⟨rfl, (hs.re 1 [] rfl)⟩
theorem slices_Contains_bool_bool_ok {Φ w s v3 v1 r} (hs : Sat (imm (RSl RB) [sl v1] s :: Φ) w) (hm : slices_Contains_bool_bool s v3 = some r) :
  CallsR Tryd.prog 63 [(sl v1), (.bool v3)] w (fun v w' => v = (.bool r) ∧ Sat (Φ) w') := by
 refine CallsX_enter Tryd.func63 rfl Tryd.ntmps63 rfl ?_
 unfold slices_Contains_bool_bool at hm
 refine WC_seq <| WC_region ?_
 refine W ?_
 refine WL_nil <| At_then <| WC_seq <| WC_region ?_
 iterate 2 refine W ?_
 obtain ⟨r3, hr4, hm⟩ := bind_some' hm
 refine WL_call (f := 71) (first := []) (cap := []) (xs := [(.tmp 5), (.tmp 6)]) (vs := [(sl v1), (.bool v3)]) (args := [(sl v1), (.bool v3)]) Tryd.call71 Opd.f (.cons (O rfl) (.cons (O rfl) .nil)) rfl rfl (slices_Index_bool_bool_ok (hs.re 1 [0, 0] rfl) hr4) ?_
 rintro _ w5 ⟨rfl, hs⟩
 replace hs := Sat.n1 (Γ := Φ) hs rfl
 iterate 2 refine W ?_
 refine WL_nil <| At_then ?_
 refine WC_ret ?_
 refine At_r1 rfl (ResIs.t rfl) ?_
 cases hm
 exact ⟨rfl, (hs.re 1 [] rfl)⟩
theorem schema_Right_s2_ok {Φ w s v1 R r} (hs : Sat (osl Q5 44 (sl v1) s R :: Φ) w) (hm : schema_Right_s2 s = some r) :
  CallsR Tryd.prog 56 [(sl v1)] w (fun v w' => v = (.bool r) ∧ Sat (osl Q5 44 (sl v1) s R :: Φ) w') := by
 refine CallsX_enter Tryd.func56 rfl Tryd.ntmps56 rfl ?_
 unfold schema_Right_s2 at hm
 refine WC_seq <| WC_region ?_
 refine W ?_
 refine WL_nil <| At_then <| WC_seq <| WC_region ?_
 iterate 2 refine W ?_
 obtain ⟨b3, e4, hm⟩ := letv_som hm
 iterate 2 refine W ?_
 iterate 2 refine WG ?_
 obtain ⟨b5, e6, hm⟩ := letv_som hm
 refine WG ?_
 obtain ⟨b7, e8, hm⟩ := letv_som hm
 iterate 2 refine W ?_
 refine WG ?_
 obtain ⟨r9, hr10, -, hm⟩ := callG_some hm
 refine WL_callG rfl rfl rfl guard_pos (f := 64) (first := []) (cap := []) (xs := [(.tmp 12), (.func 65)]) (vs := [(sl v1), (.func (.func 65) #[] #[])]) (args := [(sl v1), (.func (.func 65) #[] #[])]) Tryd.call64 Opd.f (.cons (Opd.g rfl id) (.cons Opd.f .nil)) rfl rfl (fun hg => schema_each_bool_s2_ok (hs.re 1 [0] rfl) (hr10 hg)) ?_
 intro v14 w13 hv15 hz16
 obtain ⟨v11, hw17, hs⟩ : ∃ v11 : SLV, (b7 = true → v14 = (sl v11)) ∧ Sat (immG b7 (RSl RB) [sl v11] r9 :: osl Q5 44 (sl v1) s R :: Φ) w13 := by
  cases hg : b7
  ·rw [hz16 hg]; exact ⟨(none, 0, 0), (fun h => by cases h), (sat_addG0 hs rfl)⟩
  ·obtain ⟨v11, R12, hq, hs⟩ := hv15 hg
   replace hs := hs.freeze (i := 0) rfl
   replace hs := hs.re 2 [0, 1] rfl
   replace hs := sat_gate hs (i := 0) rfl true
   exact ⟨v11, (fun _ => hq), hs⟩
 refine WL_sub1 (v := (sl v11)) hw17 ?_
 obtain ⟨r18, hr19, -, hm⟩ := callG_some hm
 refine WL_callG rfl rfl rfl guard_pos (f := 63) (first := []) (cap := []) (xs := [(.tmp 13), (.const (.bool false))]) (vs := [(sl v11), (.bool false)]) (args := [(sl v11), (.bool false)]) Tryd.call63 Opd.f (.cons (Opd.g rfl id) (.cons Opd.c .nil)) rfl rfl (fun hg => slices_Contains_bool_bool_ok ((hs.dupS (i := 0) rfl hg).re 3 [0, 1, 2] rfl) (hr19 hg)) ?_
 intro v21 w20 hv22 hz23
 replace hs := Sat.ofG (fun hg => (hv22 hg).2.re 2 [0, 1] rfl) hz23 hs
 refine WL_sub1 (v := (.bool r18)) (fun hg => (hv22 hg).1) ?_
 replace hs := Sat.n2 (Γ := Φ) hs rfl
 obtain ⟨b24, e25, hm⟩ := letv_som hm
 refine WG ?_
 obtain ⟨b26, e27, hm⟩ := letv_som hm
 iterate 2 refine W ?_
 refine WL_nil <| At_then ?_
 refine WC_ret ?_
 refine At_r1 rfl (ResIs.t rfl) ?_
 cases hm
 exact ⟨rfl, (hs.re 2 [1] rfl)⟩
end Go.Proofs.YtdhgpnejphlfpaaDoor
namespace Go.Proofs.YtdhgpnejphlfpaaDoor
open Go.Proofs
theorem schema_span_has_ok {Φ w f n r} (hs : Sat (Φ) w) (hm : schema_span_has f n = some r) :
  CallsR Tryd.prog 66 [(.agg #[(.int .i64 f.1), (.int .i64 f.2)]), (.int .i64 n)] w (fun v w' => v = (.bool r) ∧ Sat (Φ) w') := by
 refine CallsX_enter Tryd.func66 rfl Tryd.ntmps66 rfl ?_
 unfold schema_span_has at hm
 refine WC_seq <| WC_region ?_
 refine WS_box (zs := [(.int .i64 f.1), (.int .i64 f.2)]) hs (O rfl) rfl rfl ?_
 intro b3 w4 hs
 replace hs := Sat.n1 (Γ := Φ) hs rfl
 refine W ?_
 refine WL_nil <| At_then <| WC_seq <| WC_region ?_
 iterate 3 refine W ?_
 obtain ⟨b5, e6, hm⟩ := letv_som hm
 iterate 2 refine W ?_
 iterate 3 refine WG ?_
 obtain ⟨b7, e8, hm⟩ := letv_som hm
 refine WG ?_
 obtain ⟨b9, e10, hm⟩ := letv_som hm
 iterate 2 refine W ?_
 refine WL_nil <| At_then ?_
 refine WC_ret ?_
 refine At_r1 rfl (ResIs.t rfl) ?_
 cases hm
 exact ⟨rfl, (hs.re 1 [] rfl)⟩
theorem schema_In_s2_ok {Φ w s v3 v1 R v4 r} (hs : Sat (osl Q5 44 (sl v1) s R :: imm Q8 [sl v4] v3 :: Φ) w) (hm : schema_In_s2 s v3 = some r) :
  CallsR Tryd.prog 57 [(sl v1), (sl v4)] w (fun v w' => v = (.int .i64 r) ∧ Sat (osl Q5 44 (sl v1) s R :: Φ) w') := by
 refine CallsX_enter Tryd.func57 rfl Tryd.ntmps57 rfl ?_
 unfold schema_In_s2 at hm
 refine WC_seq <| WC_region ?_
 refine W ?_
 refine WL_nil <| At_then <| WC_seq <| WC_seq <| WC_region ?_
 iterate 5 refine W ?_
 refine WL_nil <| At_then ?_
 refine WC_cond (O rfl) (fun hc3 => ?_) (fun hc3 => ?_)
 ·
  replace hm := bif_t hc3 hm
  refine WC_seq <| WC_region ?_
  refine W ?_
  refine WL_nil <| At_then ?_
  refine WC_ret ?_
  refine At_then_ret <| ?_
  refine At_r1 rfl (ResIs.t rfl) ?_
  cases hm
  exact ⟨rfl, (hs.re 2 [0] rfl)⟩
 ·
  replace hm := bif_f hc3 hm
  refine WC_skip ?_
  refine At_then <| WC_seq <| WC_seq <| WC_region ?_
  iterate 3 refine W ?_
  refine WL_nil <| At_then ?_
  refine WC_block ?_
  refine WC_loop (σ := Int) (γ := Unit) (F := (schema_In_s2_L1 s v3)) (N := FUEL) (s0 := 0) (r := r) (fun t5 (_ : Unit) w4 => Sat (osl Q5 44 (sl v1) s R :: imm Q8 [sl v4] v3 :: Φ) w4) (fun t5 (_ : Unit) => [(0, true, (sl v1)), (12, true, (sl v4)), (13, true, (.int .i64 (List.length v3 : Int))), (14, true, (.int .i64 t5))]) hm () (hs.re 2 [0, 1] rfl) rfl ?_
  rintro again6 t5 _ w4 hm hs
  unfold schema_In_s2_L1 at hm
  refine WC_seq <| WC_region ?_
  refine W ?_
  refine WL_nil <| At_then <| WC_seq ?_
  refine WC_cond (O rfl) (fun hc7 => ?_) (fun hc7 => ?_)
  ·
   replace hm := bif_t hc7 hm
   refine WC_skip ?_
   refine At_then <| WC_seq ?_
   refine WC_block ?_
   refine WC_seq <| WC_region ?_
   refine W ?_
   obtain ⟨e8, he9, hm⟩ := bind_some' hm
   refine Wo (Run_idxAddr (p := (elA (sl v4) t5 1)) Tryd.underlying30 ti3 (O rfl) (O rfl) (fun hg => (SRd.atA (A := (RI .i64)) (v := (sl v4)) (hs.sl (i := 1) rfl) he9).1)) rfl <| Wo (Run_load1 (v := (.int .i64 e8)) Tryd.underlying3 rfl (O rfl) (fun hg => (SRd.cellsF (A := (RI .i64)) (v := (sl v4)) (hs.sl (i := 1) rfl) he9 (fun _ h => openT3 h)).sub 0 rfl)) rfl <| ?_
   iterate 2 refine W ?_
   refine WL_nil <| At_then <| WC_seq <| WC_region ?_
   iterate 2 refine W ?_
   obtain ⟨e10, he11, hm⟩ := bind_some' hm
   refine Wo (Run_idxAddr (p := (elA (sl v1) t5 2)) Tryd.underlying29 ti44 (O rfl) (O rfl) (fun hg => (Own.atA (A := Q5) (v := (sl v1)) (hs.own (i := 0) rfl) he11).1)) rfl <| Wo (Run_loadA (vs := [(.int .i64 e10.1), (.int .i64 e10.2)]) Tryd.underlying44 rfl ti44 (O rfl) (fun hg => (Own.cellsF (A := Q5) (v := (sl v1)) (hs.own (i := 0) rfl) he11 (fun _ h => openT44 h)).sub 0 rfl) rfl) rfl <| ?_
   refine W ?_
   obtain ⟨r12, hr13, hm⟩ := bind_some' hm
   refine WL_call (f := 66) (first := []) (cap := []) (xs := [(.tmp 22), (.tmp 23)]) (vs := [(.agg #[(.int .i64 e10.1), (.int .i64 e10.2)]), (.int .i64 e8)]) (args := [(.agg #[(.int .i64 e10.1), (.int .i64 e10.2)]), (.int .i64 e8)]) Tryd.call66 Opd.f (.cons (O rfl) (.cons (O rfl) .nil)) rfl rfl (schema_span_has_ok (hs.re 2 [0, 1] rfl) hr13) ?_
   rintro _ w14 ⟨rfl, hs⟩
   replace hs := Sat.n2 (Γ := Φ) hs rfl
   refine W ?_
   refine WL_nil <| At_then ?_
   refine WC_cond (O rfl) (fun hc15 => ?_) (fun hc15 => ?_)
   ·
    replace hm := bif_t hc15 hm
    refine WC_seq <| WC_region ?_
    refine W ?_
    refine WL_nil <| At_then ?_
    refine WC_ret ?_
    refine At_blk_ret <| At_then_ret <| At_then_ret <| At_blk_ret <| At_then_ret <| ?_
    refine At_r1 rfl (ResIs.t rfl) ?_
    cases hm
    exact ⟨rfl, (hs.re 2 [0] rfl)⟩
   ·
    replace hm := bif_f hc15 hm
    refine WC_skip ?_
    refine At_blk_normal ?_
    refine At_then <| WC_region ?_
    iterate 2 refine W ?_
    refine WL_nil ?_
    exact At_again (IntKind.i64.wrap (t5 + 1)) () hm (hs.re 2 [0, 1] rfl) rfl
  ·
   replace hm := bif_f hc7 hm
   refine WC_exit ?_
   refine At_then_exit <| At_then_exit <| At_blk_here <| ?_
   refine At_then <| WC_seq <| WC_region ?_
   refine W ?_
   refine WL_nil <| At_then ?_
   refine WC_ret ?_
   refine At_r1 rfl (ResIs.t rfl) ?_
   cases hm
   exact ⟨rfl, (hs.re 2 [0] rfl)⟩
theorem model_read_variable_ok {Φ : Ctx} {w : World} {l : Q3} {at_ : Int} {Names : (List Str)} {Schema : Q9} {Init : (List Int)} {Procs : (List Str)} {Cmd : Q7} {b : Nat} {v2 : SLV} {R : List Nat} {v4 : SLV} {R5 : List Nat} {v7 : SLV} {R8 : List Nat} {v10 : SLV} {R11 : List Nat} {v13 : SLV} {R14 : List Nat} {v16 : SLV} {R17 : List Nat} {r : (Except (Int × Int) (Int × (List Str) × Q9 × (List Int)))} (hs : Sat (box b 69 [(sl v2), (.int .i64 at_), (sl v4), (sl v7), (sl v10), (sl v13), (sl v16)] :: osl Q1 28 (sl v2) l R :: osl RS 9 (sl v4) Names R5 :: osl Q5 44 (sl v7) Schema R8 :: osl (RI .i64) 3 (sl v10) Init R11 :: osl RS 9 (sl v13) Procs R14 :: osl Q2 54 (sl v16) Cmd R17 :: gl 0 (keysL.map S) :: Φ) w) (hm : model_read_variable l at_ Names Schema Init Procs Cmd = some r) :
  CallsE Tryd.prog 41 [(.pointer (some ⟨b, 0, none⟩))] w r panV Φ (fun (r : (Int × (List Str) × Q9 × (List Int))) v w' => ∃ v5 : SLV, ∃ R6 : List Nat, ∃ v8 : SLV, ∃ R9 : List Nat, ∃ v11 : SLV, ∃ R12 : List Nat, v = (.tuple #[]) ∧ Sat (box b 69 [(sl v2), (.int .i64 r.1), (sl v5), (sl v8), (sl v11), (sl v13), (sl v16)] :: osl Q1 28 (sl v2) l R :: osl RS 9 (sl v5) r.2.1 R6 :: osl Q5 44 (sl v8) r.2.2.1 R9 :: osl (RI .i64) 3 (sl v11) r.2.2.2 R12 :: osl RS 9 (sl v13) Procs R14 :: osl Q2 54 (sl v16) Cmd R17 :: Φ) w') := by
 refine CallsX_enter Tryd.func41 rfl Tryd.ntmps41 rfl ?_
 unfold model_read_variable at hm
 refine WC_seq <| WC_region ?_
 refine Wo (Run_move (O rfl)) rfl <| Wo (Run_move (O rfl)) rfl <| Wo (Run_nilP (O rfl)) rfl <| Wo (Run_fieldAddr fo69_2 (O rfl)) rfl <| Wo (Run_fieldAddr fo33_0 (O rfl)) rfl <| Wo (Run_load1 (v := (sl v4)) Tryd.underlying26 rfl (O rfl) (fun _ => (hs.box (i := 0) rfl).part 2 rfl)) rfl <| Wo (Run_lenSlG Tryd.underlying26 (O rfl) (fun _ => (hs.own (i := 2) rfl).len)) rfl <| Wo (Run_geI (O rfl) Opd.c) rfl <| ?_
 rcases bindE_some hm with ⟨p15, hp16, rfl⟩ | ⟨r13, hr14, hm⟩
 ·
  refine WL_callP (f := 53) (first := []) (cap := []) (xs := [(.tmp 8), (.tmp 15)]) (vs := [(.pointer (some ⟨b, 0, none⟩)), (.bool (decide (16 ≤ (List.length Names : Int))))]) (args := [(.pointer (some ⟨b, 0, none⟩)), (.bool (decide (16 ≤ (List.length Names : Int))))]) Tryd.call53 Opd.f (.cons (O rfl) (.cons (O rfl) .nil)) rfl rfl (model_read_name_ok (hs.re 8 [0, 1, 2, 3, 4, 5, 6, 7, 7] rfl) hp16) ?_
  intro w18 hs
  refine At_then_panic <| ?_
  exact At_p ⟨_, rfl, rfl, hs.re 1 [] rfl⟩
 refine WL_callN (f := 53) (first := []) (cap := []) (xs := [(.tmp 8), (.tmp 15)]) (vs := [(.pointer (some ⟨b, 0, none⟩)), (.bool (decide (16 ≤ (List.length Names : Int))))]) (args := [(.pointer (some ⟨b, 0, none⟩)), (.bool (decide (16 ≤ (List.length Names : Int))))]) Tryd.call53 Opd.f (.cons (O rfl) (.cons (O rfl) .nil)) rfl rfl (model_read_name_ok (hs.re 8 [0, 1, 2, 3, 4, 5, 6, 7, 7] rfl) hr14) ?_
 rintro _ w17 ⟨rfl, hs⟩
 replace hs := Sat.n8 (Γ := Φ) hs rfl
 refine Wo (Run_assign (O rfl)) rfl <| ?_
 refine WL_nil <| At_then <| WC_seq <| WC_region ?_
 refine Wo (Run_move (O rfl)) rfl <| ?_
 obtain ⟨r19, hr20, hm⟩ := bind_some' hm
 refine WL_call (f := 43) (first := []) (cap := []) (xs := [(.tmp 17)]) (vs := [(.pointer (some ⟨b, 0, none⟩))]) (args := [(.pointer (some ⟨b, 0, none⟩))]) Tryd.call43 Opd.f (.cons (O rfl) .nil) rfl rfl (model_read_next_ok (hs.re 8 [0, 1, 2, 3, 4, 5, 6, 7] rfl) hr20) ?_
 rintro _ w21 ⟨rfl, hs⟩
 replace hs := Sat.n8 (Γ := Φ) hs rfl
 refine Wo (Run_field (cs := [(.int .i64 r19.1), (S r19.2.1), (.int .i64 r19.2.2.1), (.int .i64 r19.2.2.2)]) Tryd.underlying28 rfl rfl rfl Tryd.underlying3 ti3 (O rfl) rfl) rfl <| Wo (Run_assign (O rfl)) rfl <| ?_
 refine WL_nil <| At_then <| WC_seq <| WC_region ?_
 refine Wo (Run_move (O rfl)) rfl <| ?_
 rcases bindE_some hm with ⟨p24, hp25, rfl⟩ | ⟨r22, hr23, hm⟩
 ·
  refine WL_callP (f := 54) (first := []) (cap := []) (xs := [(.tmp 20)]) (vs := [(.pointer (some ⟨b, 0, none⟩))]) (args := [(.pointer (some ⟨b, 0, none⟩))]) Tryd.call54 Opd.f (.cons (O rfl) .nil) rfl rfl (model_read_number_ok (hs.re 8 [0, 1, 2, 3, 4, 5, 6, 7] rfl) hp25) ?_
  intro w27 hs
  refine At_then_panic <| ?_
  exact At_p ⟨_, rfl, rfl, hs.re 1 [] rfl⟩
 refine WL_callN (f := 54) (first := []) (cap := []) (xs := [(.tmp 20)]) (vs := [(.pointer (some ⟨b, 0, none⟩))]) (args := [(.pointer (some ⟨b, 0, none⟩))]) Tryd.call54 Opd.f (.cons (O rfl) .nil) rfl rfl (model_read_number_ok (hs.re 8 [0, 1, 2, 3, 4, 5, 6, 7] rfl) hr23) ?_
 rintro _ w26 ⟨rfl, hs⟩
 replace hs := Sat.n8 (Γ := Φ) hs rfl
 refine Wo (Run_move (O rfl)) rfl <| ?_
 rcases bindE_some hm with ⟨p30, hp31, rfl⟩ | ⟨r28, hr29, hm⟩
 ·
  refine WL_callP (f := 54) (first := []) (cap := []) (xs := [(.tmp 22)]) (vs := [(.pointer (some ⟨b, 0, none⟩))]) (args := [(.pointer (some ⟨b, 0, none⟩))]) Tryd.call54 Opd.f (.cons (O rfl) .nil) rfl rfl (model_read_number_ok (hs.re 8 [0, 1, 2, 3, 4, 5, 6, 7] rfl) hp31) ?_
  intro w33 hs
  refine At_then_panic <| ?_
  exact At_p ⟨_, rfl, rfl, hs.re 1 [] rfl⟩
 refine WL_callN (f := 54) (first := []) (cap := []) (xs := [(.tmp 22)]) (vs := [(.pointer (some ⟨b, 0, none⟩))]) (args := [(.pointer (some ⟨b, 0, none⟩))]) Tryd.call54 Opd.f (.cons (O rfl) .nil) rfl rfl (model_read_number_ok (hs.re 8 [0, 1, 2, 3, 4, 5, 6, 7] rfl) hr29) ?_
 rintro _ w32 ⟨rfl, hs⟩
 replace hs := Sat.n8 (Γ := Φ) hs rfl
 refine Wo (Run_move (O rfl)) rfl <| ?_
 rcases bindE_some hm with ⟨p36, hp37, rfl⟩ | ⟨r34, hr35, hm⟩
 ·
  refine WL_callP (f := 54) (first := []) (cap := []) (xs := [(.tmp 24)]) (vs := [(.pointer (some ⟨b, 0, none⟩))]) (args := [(.pointer (some ⟨b, 0, none⟩))]) Tryd.call54 Opd.f (.cons (O rfl) .nil) rfl rfl (model_read_number_ok (hs.re 8 [0, 1, 2, 3, 4, 5, 6, 7] rfl) hp37) ?_
  intro w39 hs
  refine At_then_panic <| ?_
  exact At_p ⟨_, rfl, rfl, hs.re 1 [] rfl⟩
 refine WL_callN (f := 54) (first := []) (cap := []) (xs := [(.tmp 24)]) (vs := [(.pointer (some ⟨b, 0, none⟩))]) (args := [(.pointer (some ⟨b, 0, none⟩))]) Tryd.call54 Opd.f (.cons (O rfl) .nil) rfl rfl (model_read_number_ok (hs.re 8 [0, 1, 2, 3, 4, 5, 6, 7] rfl) hr35) ?_
 rintro _ w38 ⟨rfl, hs⟩
 replace hs := Sat.n8 (Γ := Φ) hs rfl
 refine Wo (Run_assign (O rfl)) rfl <| Wo (Run_assign (O rfl)) rfl <| Wo (Run_assign (O rfl)) rfl <| ?_
 refine WL_nil <| At_then <| WC_seq <| WC_region ?_
 refine Wo (Run_move (O rfl)) rfl <| Wo (Run_move (O rfl)) rfl <| Wo (Run_build (parts := [(0, (.tmp 26)), (1, (.tmp 27))]) (v := (.agg #[(.int .i64 r22.1), (.int .i64 r28.1)])) (.cons (O rfl) (.cons (O rfl) .nil)) (fun _ => by kernel_rfl)) rfl <| ?_
 refine WS_lit (A := Q5) (xs := [(r22.1, r28.1)]) (zs := [(.int .i64 0), (.int .i64 0)]) (cells := [(.int .i64 r22.1), (.int .i64 r28.1)]) (parts := [(0, (.tmp 28))]) hs Tryd.underlying29 ti44 rfl rfl rfl (.cons (O rfl) .nil) (by kernel_rfl) rfl (ARd.cons (A := Q5) (c := [(.int .i64 r22.1), (.int .i64 r28.1)]) (x := (r22.1, r28.1)) ⟨_, _, rfl, rfl, rfl⟩ ARd.nil) rfl ?_
 intro b40 w41 hs
 replace hs := Sat.n9 (Γ := Φ) hs rfl
 refine Wo (Run_assign (O rfl)) rfl <| ?_
 refine WL_nil <| At_then <| WC_seq <| WC_region ?_
 refine Wo (Run_move (O rfl)) rfl <| ?_
 rcases bindE_some hm with ⟨p44, hp45, rfl⟩ | ⟨r42, hr43, hm⟩
 ·
  refine WL_callP (f := 55) (first := []) (cap := []) (xs := [(.tmp 30), (.const (.string ⟨#[59]⟩))]) (vs := [(.pointer (some ⟨b, 0, none⟩)), (S [59])]) (args := [(.pointer (some ⟨b, 0, none⟩)), (S [59])]) Tryd.call55 Opd.f (.cons (O rfl) (.cons Opd.c .nil)) rfl rfl (model_read_sign_ok (hs.re 9 [1, 2, 3, 4, 5, 6, 7, 0, 8] rfl) hp45) ?_
  intro w47 hs
  refine At_then_panic <| ?_
  exact At_p ⟨_, rfl, rfl, hs.re 2 [] rfl⟩
 refine WL_callN (f := 55) (first := []) (cap := []) (xs := [(.tmp 30), (.const (.string ⟨#[59]⟩))]) (vs := [(.pointer (some ⟨b, 0, none⟩)), (S [59])]) (args := [(.pointer (some ⟨b, 0, none⟩)), (S [59])]) Tryd.call55 Opd.f (.cons (O rfl) (.cons Opd.c .nil)) rfl rfl (model_read_sign_ok (hs.re 9 [1, 2, 3, 4, 5, 6, 7, 0, 8] rfl) hr43) ?_
 rintro _ w46 ⟨rfl, hs⟩
 replace hs := Sat.n9 (Γ := Φ) hs rfl
 refine WL_nil <| At_then ?_
 refine WC_seq_cut (γ := Unit) (fun (_ : Unit) w48 => model_read_variable_K1 Names Schema Init r13 r22 r28 r34 r42 = some r ∧ Sat (box b 69 [(sl v2), (.int .i64 r42), (sl v4), (sl v7), (sl v10), (sl v13), (sl v16)] :: osl Q1 28 (sl v2) l R :: osl RS 9 (sl v4) Names R5 :: osl Q5 44 (sl v7) Schema R8 :: osl (RI .i64) 3 (sl v10) Init R11 :: osl RS 9 (sl v13) Procs R14 :: osl Q2 54 (sl v16) Cmd R17 :: osl Q5 44 (sl (some ⟨b40, 0, none⟩, 1, 1)) ([(r22.1, r28.1)] : List (Int × Int)) [b40] :: gl 0 (keysL.map S) :: Φ) w48) (fun (_ : Unit) => [(0, true, (.pointer (some ⟨b, 0, none⟩))), (2, true, (S r13.1)), (6, true, (.int .i64 r34.1)), (7, true, (sl (some ⟨b40, 0, none⟩, 1, 1)))]) ?_ ?_
 ·
  rintro _ w48 ⟨hm, hs⟩
  unfold model_read_variable_K1 at hm
  refine WC_seq <| WC_region ?_
  refine Wo (Run_move (O rfl)) rfl <| Wo (Run_move (O rfl)) rfl <| Wo (Run_nilP (O rfl)) rfl <| Wo (Run_fieldAddr fo69_2 (O rfl)) rfl <| Wo (Run_fieldAddr fo33_0 (O rfl)) rfl <| Wo (Run_load1 (v := (sl v4)) Tryd.underlying26 rfl (O rfl) (fun _ => (hs.box (i := 0) rfl).part 2 rfl)) rfl <| Wo (Run_move (O rfl)) rfl <| ?_
  refine WS_lit (A := RS) (xs := [r13.1]) (zs := [(S [])]) (cells := [(S r13.1)]) (parts := [(0, (.tmp 51))]) hs Tryd.underlying26 ti9 rfl rfl rfl (.cons (O rfl) .nil) (by kernel_rfl) rfl (ARd.cons (A := RS) (c := [(S r13.1)]) (x := r13.1) rfl ARd.nil) rfl ?_
  intro b49 w50 hs
  replace hs := Sat.n10 (Γ := Φ) hs rfl
  replace hs := hs.freeze (i := 0) rfl
  obtain ⟨k51, hm⟩ := chk_some hm
  refine WS_append (A := RS) hs 3 rfl Tryd.underlying26 ti9 rfl rfl (O rfl) (O rfl) (hs.sl (i := 0) rfl) k51 rfl ?_
  intro v52 R53 w54 hs
  replace hs := Sat.n10 (Γ := Φ) hs rfl
  refine Wo (Run_nilP (O rfl)) rfl <| Wo (Run_fieldAddr fo69_2 (O rfl)) rfl <| Wo (Run_fieldAddr fo33_0 (O rfl)) rfl <| ?_
  refine WS_store (us := [(sl v52)]) (vs' := [(sl v2), (.int .i64 r42), (sl v52), (sl v7), (sl v10), (sl v13), (sl v16)]) hs 1 rfl ti26 (O rfl) (O rfl) rfl rfl rfl rfl rfl ?_
  intro w55 hs
  replace hs := Sat.n10 (Γ := Φ) hs rfl
  refine WL_nil <| At_then <| WC_seq ?_
  refine WC_region_mixed [0, 0, 2, 4, 8, 16, 0, 64, 128, 256, 544, 2047, 4095, 6143, 10239] (.q 0 0 (.q 1 1 (.q 2 3 (.q 3 7 (.q 4 15 (.q 5 31 (.q 6 63 (.q 7 127 (.q 8 255 (.l 9 511 (.l 10 1023 (.q 11 2047 (.q 12 4095 (.q 13 8191 (.l 14 16383 .nil))))))))))))))) (by kernel_rfl) (by kernel_rfl) ?_
  intro w56 hx57
  replace hs := hs.ext hx57
  refine WD_pure (fun _ => (Run_move (O rfl))) rfl rfl rfl rfl <| WD_pure (fun _ => (Run_move (O rfl))) rfl rfl rfl rfl <| WD_pure (fun _ => (Run_nilP (O rfl))) rfl rfl rfl rfl <| WD_pure (fun _ => (Run_fieldAddr fo69_2 (O rfl))) rfl rfl rfl rfl <| WD_pure (fun _ => (Run_fieldAddr fo33_1 (O rfl))) rfl rfl rfl rfl <| WD_op (fun w => CellsAt w ⟨b, 3, none⟩ [(sl v7)]) ((hs.box (i := 1) rfl).part 3 rfl) (fun _ hJ => (Run_load1 (v := (sl v7)) Tryd.underlying29 rfl (O rfl) (fun _ => hJ))) rfl rfl rfl rfl <| WD_pure (fun _ => (Run_move (O rfl))) rfl rfl rfl rfl <| ?_
  obtain ⟨e58, he59, hm⟩ := bind_some' hm
  refine WD_pure (fun _ => (Run_idxAddr (p := (elA (sl (some ⟨b40, 0, none⟩, 1, 1)) 0 2)) Tryd.underlying29 ti44 (O rfl) Opd.c (fun hg => (Own.atA (A := Q5) (v := (sl (some ⟨b40, 0, none⟩, 1, 1))) (hs.own (i := 8) rfl) he59).1))) rfl rfl rfl rfl <| WD_op (fun w => true = true → CellsAt w (elA (sl (some ⟨b40, 0, none⟩, 1, 1)) 0 2) [(.int .i64 e58.1), (.int .i64 e58.2)]) (fun hg => (Own.cellsF (A := Q5) (v := (sl (some ⟨b40, 0, none⟩, 1, 1))) (hs.own (i := 8) rfl) he59 (fun _ h => openT44 h)).sub 0 rfl) (fun _ hJ => (Run_loadA (vs := [(.int .i64 e58.1), (.int .i64 e58.2)]) Tryd.underlying44 rfl ti44 (O rfl) hJ rfl)) rfl rfl rfl rfl <| ?_
  refine WD_loud (pend' := [(5, fun w => CellsAt w ⟨b, 3, none⟩ [(sl v7)])]) rfl (by kernel_rfl) ?_
  refine WS_lit (A := Q5) (xs := [e58]) (zs := [(.int .i64 0), (.int .i64 0)]) (cells := [(.int .i64 e58.1), (.int .i64 e58.2)]) (parts := [(0, (.tmp 65))]) hs Tryd.underlying29 ti44 rfl rfl rfl (.cons (O rfl) .nil) (by kernel_rfl) rfl (ARd.cons (A := Q5) (c := [(.int .i64 e58.1), (.int .i64 e58.2)]) (x := e58) ⟨_, _, rfl, rfl, rfl⟩ ARd.nil) rfl ?_
  intro b60 w61 hs
  replace hs := Sat.n11 (Γ := Φ) hs rfl
  refine WL_nil ?_
  refine At_QK (allJ_cons ((hs.box (i := 2) rfl).part 3 rfl) allJ_nil) ?_
  refine WD_loud (pend' := []) rfl (by kernel_rfl) ?_
  replace hs := hs.freeze (i := 0) rfl
  obtain ⟨k62, hm⟩ := chk_some hm
  refine WS_append (A := Q5) hs 5 rfl Tryd.underlying29 ti44 rfl rfl (O rfl) (O rfl) (hs.sl (i := 0) rfl) k62 rfl ?_
  intro v63 R64 w65 hs
  replace hs := Sat.n11 (Γ := Φ) hs rfl
  refine WL_nil ?_
  refine At_QK allJ_nil ?_
  refine WD_pure (fun _ => (Run_nilP (O rfl))) rfl rfl rfl rfl <| WD_pure (fun _ => (Run_fieldAddr fo69_2 (O rfl))) rfl rfl rfl rfl <| WD_pure (fun _ => (Run_fieldAddr fo33_1 (O rfl))) rfl rfl rfl rfl <| ?_
  refine WD_loud (pend' := []) rfl (by kernel_rfl) ?_
  refine WS_store (us := [(sl v63)]) (vs' := [(sl v2), (.int .i64 r42), (sl v52), (sl v63), (sl v10), (sl v13), (sl v16)]) hs 2 rfl ti29 (O rfl) (O rfl) rfl rfl rfl rfl rfl ?_
  intro w66 hs
  replace hs := Sat.n11 (Γ := Φ) hs rfl
  refine WL_nil ?_
  refine At_QK allJ_nil ?_
  refine WD_nil ?_
  refine At_then <| WC_region ?_
  refine Wo (Run_move (O rfl)) rfl <| Wo (Run_move (O rfl)) rfl <| Wo (Run_nilP (O rfl)) rfl <| Wo (Run_fieldAddr fo69_2 (O rfl)) rfl <| Wo (Run_fieldAddr fo33_2 (O rfl)) rfl <| Wo (Run_load1 (v := (sl v10)) Tryd.underlying30 rfl (O rfl) (fun _ => (hs.box (i := 2) rfl).part 4 rfl)) rfl <| Wo (Run_move (O rfl)) rfl <| ?_
  refine WS_lit (A := (RI .i64)) (xs := [r34.1]) (zs := [(.int .i64 0)]) (cells := [(.int .i64 r34.1)]) (parts := [(0, (.tmp 77))]) hs Tryd.underlying30 ti3 rfl rfl rfl (.cons (O rfl) .nil) (by kernel_rfl) rfl (ARd.cons (A := (RI .i64)) (c := [(.int .i64 r34.1)]) (x := r34.1) rfl ARd.nil) rfl ?_
  intro b67 w68 hs
  replace hs := Sat.n12 (Γ := Φ) hs rfl
  replace hs := hs.freeze (i := 0) rfl
  obtain ⟨k69, hm⟩ := chk_some hm
  refine WS_append (A := (RI .i64)) hs 7 rfl Tryd.underlying30 ti3 rfl rfl (O rfl) (O rfl) (hs.sl (i := 0) rfl) k69 rfl ?_
  intro v70 R71 w72 hs
  replace hs := Sat.n12 (Γ := Φ) hs rfl
  refine Wo (Run_nilP (O rfl)) rfl <| Wo (Run_fieldAddr fo69_2 (O rfl)) rfl <| Wo (Run_fieldAddr fo33_2 (O rfl)) rfl <| ?_
  refine WS_store (us := [(sl v70)]) (vs' := [(sl v2), (.int .i64 r42), (sl v52), (sl v63), (sl v70), (sl v13), (sl v16)]) hs 3 rfl ti30 (O rfl) (O rfl) rfl rfl rfl rfl rfl ?_
  intro w73 hs
  replace hs := Sat.n12 (Γ := Φ) hs rfl
  refine WL_nil ?_
  refine At_e0 rfl  ?_
  cases hm
  exact ⟨_, rfl, v52, R53, v63, R64, v70, R71, rfl, (hs.re 12 [3, 4, 5, 6, 7, 8, 9] rfl)⟩
 ·
  refine WC_seq <| WC_region ?_
  refine Wo (Run_move (O rfl)) rfl <| ?_
  obtain ⟨r74, hr75, hm⟩ := bind_some' hm
  refine WL_call (f := 56) (first := []) (cap := []) (xs := [(.tmp 32)]) (vs := [(sl (some ⟨b40, 0, none⟩, 1, 1))]) (args := [(sl (some ⟨b40, 0, none⟩, 1, 1))]) Tryd.call56 Opd.f (.cons (O rfl) .nil) rfl rfl (schema_Right_s2_ok (s := ([(r22.1, r28.1)] : List (Int × Int))) (hs.re 9 [7, 0, 1, 2, 3, 4, 5, 6, 8] rfl) hr75) ?_
  rintro _ w76 ⟨rfl, hs⟩
  replace hs := Sat.n9 (Γ := Φ) hs rfl
  obtain ⟨b77, e78, hm⟩ := letv_some hm
  refine Wo (Run.eqB (Run_notB (O rfl)) e78) rfl <| Wo (Run_move (O rfl)) rfl <| Wg rfl guard_neg (Run_move (O rfl)) rfl <| Wg rfl guard_neg (Run_move (O rfl)) rfl <| ?_
  refine WS_litG (A := (RI .i64)) (xs := [r34.1]) (zs := [(.int .i64 0)]) (cells := [(.int .i64 r34.1)]) (parts := [(0, (.tmp 37))]) rfl rfl rfl guard_neg hs Tryd.underlying30 ti3 rfl rfl rfl (.cons (Opd.g rfl id) .nil) (by kernel_rfl) rfl (fun hg => (ARd.cons (A := (RI .i64)) (c := [(.int .i64 r34.1)]) (x := r34.1) rfl ARd.nil)) rfl ?_
  intro v79 w80 hs
  obtain ⟨r81, hr82, -, hm⟩ := callG_some hm
  refine WL_callG rfl rfl rfl guard_neg (f := 57) (first := []) (cap := []) (xs := [(.tmp 36), (.tmp 38)]) (vs := [(sl (some ⟨b40, 0, none⟩, 1, 1)), (sl v79)]) (args := [(sl (some ⟨b40, 0, none⟩, 1, 1)), (sl v79)]) Tryd.call57 Opd.f (.cons (Opd.g rfl id) (.cons (Opd.g rfl id) .nil)) rfl rfl (fun hg => schema_In_s2_ok (s := ([(r22.1, r28.1)] : List (Int × Int))) ((hs.dupS (i := 0) rfl hg).re 11 [2, 0, 1, 3, 4, 5, 6, 7, 8, 9, 10] rfl) (hr82 hg)) ?_
  intro v84 w83 hv85 hz86
  replace hs := Sat.ofG (fun hg => (hv85 hg).2.re 10 [1, 0, 2, 3, 4, 5, 6, 7, 8, 9] rfl) hz86 hs
  refine WL_sub1 (v := (.int .i64 r81)) (fun hg => (hv85 hg).1) ?_
  replace hs := Sat.n10 (Γ := Φ) hs rfl
  obtain ⟨b87, e88, hm⟩ := letv_some hm
  refine Wg rfl guard_neg (Run.eqB (Run_neI (Opd.g rfl id) Opd.c) e88) rfl <| ?_
  obtain ⟨b89, e90, hm⟩ := letv_some hm
  refine Wo (Run.eqB (Run_or (O rfl) (Opd.g rfl id)) e90) rfl <| ?_
  refine WL_nil <| At_then ?_
  refine WC_cond (O rfl) (fun hc91 => ?_) (fun hc91 => ?_)
  ·
   replace hm := bif_t hc91 hm
   refine WC_region ?_
   refine Wo (Run_move (O rfl)) rfl <| Wo (Run_build (parts := [(0, (.const (.int .i64 5))), (1, (.tmp 42))]) (v := (.agg #[(.int .i64 5), (.int .i64 r19.2.2.2)])) (.cons Opd.c (.cons (O rfl) .nil)) (fun _ => by kernel_rfl)) rfl <| Wo (Run_mkIface Tryd.underlying65 rfl (O rfl)) rfl <| ?_
   cases hm
   refine WL_panic (O rfl) ?_
   refine At_then_panic <| ?_
   exact At_p ⟨_, rfl, rfl, hs.re 10 [] rfl⟩
  ·
   replace hm := bif_f hc91 hm
   refine WC_skip ?_
   exact At_join () ⟨hm, (hs.re 10 [2, 3, 4, 5, 6, 7, 8, 1, 9] rfl)⟩ rfl
theorem expr_read_fail_s3_ok {Φ w e l at_ names deep bad place b v2 R v4 R5 r} (hs : Sat (box b 115 [(sl v2), (.int .i64 at_), (sl v4), (.int .i64 deep), (.int .i64 bad), (.int .i64 place)] :: osl Q1 28 (sl v2) l R :: osl RS 9 (sl v4) names R5 :: Φ) w) (hm : expr_read_fail_s3 e l at_ names deep bad place = some r) :
  CallsR Tryd.prog 80 [(.pointer (some ⟨b, 0, none⟩)), (.int .i64 e)] w (fun v w' => ∃ v3 : SLV, ∃ R4 : List Nat, v = (.agg #[(.int .i64 r.1.op), (.int .i64 r.1.n), (.int .i64 r.1.at_), (sl v3)]) ∧ Sat (osl RExpr 51 (sl v3) r.1.l R4 :: box b 115 [(sl v2), (.int .i64 at_), (sl v4), (.int .i64 deep), (.int .i64 r.2.1), (.int .i64 r.2.2)] :: osl Q1 28 (sl v2) l R :: osl RS 9 (sl v4) names R5 :: Φ) w') := by
 refine CallsX_enter Tryd.func80 rfl Tryd.ntmps80 rfl ?_
 unfold expr_read_fail_s3 at hm
 refine WC_seq <| WC_region ?_
 refine WS_alloc (zs := [(.int .i64 0), (.int .i64 0), (.int .i64 0), (sl (none, 0, 0))]) hs ti51 rfl rfl ?_
 intro b7 w8 hs
 replace hs := Sat.n4 (Γ := Φ) hs rfl
 refine WL_nil <| At_then <| WC_seq <| WC_seq <| WC_region ?_
 iterate 5 refine W ?_
 refine WL_nil <| At_then ?_
 refine WC_cond (O rfl) (fun hc9 => ?_) (fun hc9 => ?_)
 ·
  replace hm := bif_t hc9 hm
  refine WC_region_mixed [0, 0, 0, 0, 8, 16, 32, 0, 128, 256, 512, 1088, 2048, 4096, 9285, 25669, 42053, 131071, 262143, 393215] (.q 0 0 (.q 1 1 (.q 2 3 (.q 3 7 (.q 4 15 (.q 5 31 (.q 6 63 (.q 7 127 (.q 8 255 (.q 9 511 (.q 10 1023 (.q 11 2047 (.q 12 4095 (.q 13 8191 (.q 14 16383 (.q 15 32767 (.l 16 65535 (.q 17 131071 (.q 18 262143 (.l 19 524287 .nil)))))))))))))))))))) (by kernel_rfl) (by kernel_rfl) ?_
  intro w10 hx11
  replace hs := hs.ext hx11
  refine WD_pure (fun _ => (Run_move (O rfl))) rfl rfl rfl rfl <| WD_pure (fun _ => (Run_move (O rfl))) rfl rfl rfl rfl <| WD_pure (fun _ => (Run_move (O rfl))) rfl rfl rfl rfl <| WD_pure (fun _ => (Run_move (O rfl))) rfl rfl rfl rfl <| WD_pure (fun _ => (Run_nilP (O rfl))) rfl rfl rfl rfl <| WD_pure (fun _ => (Run_fieldAddr fo115_0 (O rfl))) rfl rfl rfl rfl <| WD_op (fun w => CellsAt w ⟨b, 0, none⟩ [(sl v2)]) ((hs.box (i := 1) rfl).part 0 rfl) (fun _ hJ => (Run_load1 (v := (sl v2)) Tryd.underlying23 rfl (O rfl) (fun _ => hJ))) rfl rfl rfl rfl <| WD_pure (fun _ => (Run_move (O rfl))) rfl rfl rfl rfl <| ?_
  refine WD_pure (fun _ => (Run_nilP (O rfl))) rfl rfl rfl rfl <| WD_pure (fun _ => (Run_fieldAddr fo115_1 (O rfl))) rfl rfl rfl rfl <| WD_op (fun w => CellsAt w ⟨b, 1, none⟩ [(.int .i64 at_)]) ((hs.box (i := 1) rfl).part 1 rfl) (fun _ hJ => (Run_load1 (v := (.int .i64 at_)) Tryd.underlying3 rfl (O rfl) (fun _ => hJ))) rfl rfl rfl rfl <| ?_
  obtain ⟨e12, he13, hm⟩ := bind_some' hm
  refine WD_pure (fun _ => (Run_idxAddr (p := (elA (sl v2) at_ 4)) Tryd.underlying23 ti28 (O rfl) (O rfl) (fun hg => (Own.atA (A := Q1) (v := (sl v2)) (hs.own (i := 2) rfl) he13).1))) rfl rfl rfl rfl <| WD_pure (fun _ => (Run_fieldAddr fo28_3 (O rfl))) rfl rfl rfl rfl <| WD_op (fun w => true = true → CellsAt w ((elA (sl v2) at_ 4).add 3) [(.int .i64 e12.2.2.2)]) (fun hg => ((Own.cellsF (A := Q1) (v := (sl v2)) (hs.own (i := 2) rfl) he13 (fun _ h => openT28 h)).sub (us := [(.int .i64 e12.2.2.2)]) 3 rfl).sub 0 rfl) (fun _ hJ => (Run_load1 (v := (.int .i64 e12.2.2.2)) Tryd.underlying3 rfl (O rfl) hJ)) rfl rfl rfl rfl <| WD_pure (fun _ => (Run_nilP (O rfl))) rfl rfl rfl rfl <| WD_pure (fun _ => (Run_fieldAddr fo115_4 (O rfl))) rfl rfl rfl rfl <| ?_
  refine WD_loud (pend' := []) rfl (by kernel_rfl) ?_
  refine WS_store (us := [(.int .i64 e)]) (vs' := [(sl v2), (.int .i64 at_), (sl v4), (.int .i64 deep), (.int .i64 e), (.int .i64 place)]) hs 1 rfl ti34 (O rfl) (O rfl) rfl rfl rfl rfl rfl ?_
  intro w14 hs
  replace hs := Sat.n4 (Γ := Φ) hs rfl
  refine WL_nil ?_
  refine At_QK allJ_nil ?_
  refine WD_pure (fun _ => (Run_nilP (O rfl))) rfl rfl rfl rfl <| WD_pure (fun _ => (Run_fieldAddr fo115_5 (O rfl))) rfl rfl rfl rfl <| ?_
  refine WD_loud (pend' := []) rfl (by kernel_rfl) ?_
  refine WS_store (us := [(.int .i64 e12.2.2.2)]) (vs' := [(sl v2), (.int .i64 at_), (sl v4), (.int .i64 deep), (.int .i64 e), (.int .i64 e12.2.2.2)]) hs 1 rfl ti3 (O rfl) (O rfl) rfl rfl rfl rfl rfl ?_
  intro w15 hs
  replace hs := Sat.n4 (Γ := Φ) hs rfl
  refine WL_nil ?_
  refine At_QK allJ_nil ?_
  refine WD_nil ?_
  refine At_then <| WC_seq <| WC_region ?_
  refine Wo (Run_build (parts := []) (v := (.agg #[(.int .i64 0), (.int .i64 0), (.int .i64 0), (sl (none, 0, 0))])) .nil (fun _ => by kernel_rfl)) rfl <| ?_
  refine WS_store (us := [(.int .i64 0), (.int .i64 0), (.int .i64 0), (sl (none, 0, 0))]) (vs' := [(.int .i64 0), (.int .i64 0), (.int .i64 0), (sl (none, 0, 0))]) hs 0 rfl ti51 (O rfl) (O rfl) rfl rfl rfl rfl rfl ?_
  intro w16 hs
  replace hs := Sat.n4 (Γ := Φ) hs rfl
  refine WL_nil <| At_then ?_
  refine WC_ret ?_
  refine At_r1 rfl (ResIs.cA (vs := [(.int .i64 0), (.int .i64 0), (.int .i64 0), (sl (none, 0, 0))]) rfl Tryd.underlying51 rfl ti51 ((hs.box (i := 0) rfl).part 0 rfl) rfl) ?_
  replace hs := hs.addNil RExpr 51
  cases hm
  exact ⟨(none, 0, 0), [], rfl, (hs.re 5 [0, 2, 3, 4] rfl)⟩
 ·
  replace hm := bif_f hc9 hm
  refine WC_skip ?_
  refine At_then <| WC_seq <| WC_region ?_
  refine Wo (Run_build (parts := []) (v := (.agg #[(.int .i64 0), (.int .i64 0), (.int .i64 0), (sl (none, 0, 0))])) .nil (fun _ => by kernel_rfl)) rfl <| ?_
  refine WS_store (us := [(.int .i64 0), (.int .i64 0), (.int .i64 0), (sl (none, 0, 0))]) (vs' := [(.int .i64 0), (.int .i64 0), (.int .i64 0), (sl (none, 0, 0))]) hs 0 rfl ti51 (O rfl) (O rfl) rfl rfl rfl rfl rfl ?_
  intro w17 hs
  replace hs := Sat.n4 (Γ := Φ) hs rfl
  refine WL_nil <| At_then ?_
  refine WC_ret ?_
  refine At_r1 rfl (ResIs.cA (vs := [(.int .i64 0), (.int .i64 0), (.int .i64 0), (sl (none, 0, 0))]) rfl Tryd.underlying51 rfl ti51 ((hs.box (i := 0) rfl).part 0 rfl) rfl) ?_
  replace hs := hs.addNil RExpr 51
  cases hm
  exact ⟨(none, 0, 0), [], rfl, (hs.re 5 [0, 2, 3, 4] rfl)⟩
end Go.Proofs.YtdhgpnejphlfpaaDoor
namespace Go.Proofs.YtdhgpnejphlfpaaDoor
open Go.Proofs
theorem expr_read_next_s3_ok {Φ w l at_ names deep bad place b v2 R v4 R5 r} (hs : Sat (box b 115 [(sl v2), (.int .i64 at_), (sl v4), (.int .i64 deep), (.int .i64 bad), (.int .i64 place)] :: osl Q1 28 (sl v2) l R :: osl RS 9 (sl v4) names R5 :: Φ) w) (hm : expr_read_next_s3 l at_ names deep bad place = some r) :
  CallsR Tryd.prog 84 [(.pointer (some ⟨b, 0, none⟩))] w (fun v w' => v = (.agg #[(.int .i64 r.1), (S r.2.1), (.int .i64 r.2.2.1), (.int .i64 r.2.2.2)]) ∧ Sat (box b 115 [(sl v2), (.int .i64 at_), (sl v4), (.int .i64 deep), (.int .i64 bad), (.int .i64 place)] :: osl Q1 28 (sl v2) l R :: osl RS 9 (sl v4) names R5 :: Φ) w') := by
 refine CallsX_enter Tryd.func84 rfl Tryd.ntmps84 rfl ?_
 unfold expr_read_next_s3 at hm
 refine WC_seq <| WC_region ?_
 refine WS_alloc (zs := [(.int .i64 0), (S []), (.int .i64 0), (.int .i64 0)]) hs ti28 rfl rfl ?_
 intro b3 w4 hs
 replace hs := Sat.n4 (Γ := Φ) hs rfl
 refine WL_nil <| At_then <| WC_seq ?_
 refine WC_region_mixed [0, 1, 2, 4, 0, 16, 32, 64, 136, 256, 1023] (.q 0 0 (.q 1 1 (.q 2 3 (.q 3 7 (.q 4 15 (.q 5 31 (.q 6 63 (.q 7 127 (.q 8 255 (.q 9 511 (.l 10 1023 .nil))))))))))) (by kernel_rfl) (by kernel_rfl) ?_
 intro w5 hx6
 replace hs := hs.ext hx6
 refine WD_pure (fun _ => (Run_move (O rfl))) rfl rfl rfl rfl <| WD_pure (fun _ => (Run_nilP (O rfl))) rfl rfl rfl rfl <| WD_pure (fun _ => (Run_fieldAddr fo115_0 (O rfl))) rfl rfl rfl rfl <| WD_op (fun w => CellsAt w ⟨b, 0, none⟩ [(sl v2)]) ((hs.box (i := 1) rfl).part 0 rfl) (fun _ hJ => (Run_load1 (v := (sl v2)) Tryd.underlying23 rfl (O rfl) (fun _ => hJ))) rfl rfl rfl rfl <| WD_pure (fun _ => (Run_move (O rfl))) rfl rfl rfl rfl <| WD_pure (fun _ => (Run_nilP (O rfl))) rfl rfl rfl rfl <| WD_pure (fun _ => (Run_fieldAddr fo115_1 (O rfl))) rfl rfl rfl rfl <| WD_op (fun w => CellsAt w ⟨b, 1, none⟩ [(.int .i64 at_)]) ((hs.box (i := 1) rfl).part 1 rfl) (fun _ hJ => (Run_load1 (v := (.int .i64 at_)) Tryd.underlying3 rfl (O rfl) (fun _ => hJ))) rfl rfl rfl rfl <| ?_
 obtain ⟨e7, he8, hm⟩ := bind_some' hm
 refine WD_pure (fun _ => (Run_idxAddr (p := (elA (sl v2) at_ 4)) Tryd.underlying23 ti28 (O rfl) (O rfl) (fun hg => (Own.atA (A := Q1) (v := (sl v2)) (hs.own (i := 2) rfl) he8).1))) rfl rfl rfl rfl <| WD_op (fun w => true = true → CellsAt w (elA (sl v2) at_ 4) [(.int .i64 e7.1), (S e7.2.1), (.int .i64 e7.2.2.1), (.int .i64 e7.2.2.2)]) (fun hg => (Own.cellsF (A := Q1) (v := (sl v2)) (hs.own (i := 2) rfl) he8 (fun _ h => openT28 h)).sub 0 rfl) (fun _ hJ => (Run_loadA (vs := [(.int .i64 e7.1), (S e7.2.1), (.int .i64 e7.2.2.1), (.int .i64 e7.2.2.2)]) Tryd.underlying28 rfl ti28 (O rfl) hJ rfl)) rfl rfl rfl rfl <| ?_
 refine WD_loud (pend' := []) rfl (by kernel_rfl) ?_
 refine WS_store (us := [(.int .i64 e7.1), (S e7.2.1), (.int .i64 e7.2.2.1), (.int .i64 e7.2.2.2)]) (vs' := [(.int .i64 e7.1), (S e7.2.1), (.int .i64 e7.2.2.1), (.int .i64 e7.2.2.2)]) hs 0 rfl ti28 (O rfl) (O rfl) rfl rfl rfl rfl rfl ?_
 intro w9 hs
 replace hs := Sat.n4 (Γ := Φ) hs rfl
 refine WL_nil ?_
 refine At_QK allJ_nil ?_
 refine WD_nil ?_
 refine At_then ?_
 refine WC_ret ?_
 refine At_r1 rfl (ResIs.cA (vs := [(.int .i64 e7.1), (S e7.2.1), (.int .i64 e7.2.2.1), (.int .i64 e7.2.2.2)]) rfl Tryd.underlying28 rfl ti28 ((hs.box (i := 0) rfl).part 0 rfl) rfl) ?_
 cases hm
 exact ⟨rfl, (hs.re 4 [1, 2, 3] rfl)⟩
theorem expr_read_is_s3_ok {Φ w ops l at_ names deep bad place b v2 v4 R v6 R7 r} (hs : Sat (box b 115 [(sl v4), (.int .i64 at_), (sl v6), (.int .i64 deep), (.int .i64 bad), (.int .i64 place)] :: imm Q8 [sl v2] ops :: osl Q1 28 (sl v4) l R :: osl RS 9 (sl v6) names R7 :: gl 0 (keysL.map S) :: gl 1 (textsL.map S) :: Φ) w) (hm : expr_read_is_s3 ops l at_ names deep bad place = some r) :
  CallsR Tryd.prog 83 [(.pointer (some ⟨b, 0, none⟩)), (sl v2)] w (fun v w' => v = (.tuple #[(.int .i64 r.1), (.bool r.2)]) ∧ Sat (box b 115 [(sl v4), (.int .i64 at_), (sl v6), (.int .i64 deep), (.int .i64 bad), (.int .i64 place)] :: osl Q1 28 (sl v4) l R :: osl RS 9 (sl v6) names R7 :: Φ) w') := by
 refine CallsX_enter Tryd.func83 rfl Tryd.ntmps83 rfl ?_
 unfold expr_read_is_s3 at hm
 refine WC_seq <| WC_region ?_
 iterate 2 refine W ?_
 refine WL_nil <| At_then <| WC_seq <| WC_region ?_
 refine W ?_
 obtain ⟨r4, hr5, hm⟩ := bind_some' hm
 refine WL_call (f := 84) (first := []) (cap := []) (xs := [(.tmp 9)]) (vs := [(.pointer (some ⟨b, 0, none⟩))]) (args := [(.pointer (some ⟨b, 0, none⟩))]) Tryd.call84 Opd.f (.cons (O rfl) .nil) rfl rfl (expr_read_next_s3_ok (hs.re 6 [0, 2, 3, 1, 4, 5] rfl) hr5) ?_
 rintro _ w6 ⟨rfl, hs⟩
 replace hs := Sat.n6 (Γ := Φ) hs rfl
 refine WS_alloc (zs := [(.int .i64 0), (S []), (.int .i64 0), (.int .i64 0)]) hs ti28 rfl rfl ?_
 intro b7 w8 hs
 replace hs := Sat.n7 (Γ := Φ) hs rfl
 refine WS_store (us := [(.int .i64 r4.1), (S r4.2.1), (.int .i64 r4.2.2.1), (.int .i64 r4.2.2.2)]) (vs' := [(.int .i64 r4.1), (S r4.2.1), (.int .i64 r4.2.2.1), (.int .i64 r4.2.2.2)]) hs 0 rfl ti28 (O rfl) (O rfl) rfl rfl rfl rfl rfl ?_
 intro w9 hs
 replace hs := Sat.n7 (Γ := Φ) hs rfl
 refine WL_nil <| At_then <| WC_seq <| WC_seq <| WC_region ?_
 iterate 2 refine W ?_
 obtain ⟨b10, e11, hm⟩ := letv_som hm
 iterate 2 refine W ?_
 iterate 2 refine WG ?_
 obtain ⟨b12, e13, hm⟩ := letv_som hm
 iterate 4 refine WG ?_
 obtain ⟨r14, hr15, -, hm⟩ := callG_some hm
 refine WL_callG rfl rfl rfl guard_pos' (f := 61) (first := []) (cap := []) (xs := [(.tmp 20)]) (vs := [(S r4.2.1)]) (args := [(S r4.2.1)]) Tryd.call61 Opd.f (.cons (Opd.g rfl id) .nil) rfl rfl (fun hg => expr_Key_ok (hs.re 7 [5, 0, 1, 2, 3, 4, 5, 6] rfl) (hr15 hg)) ?_
 intro v17 w16 hv18 hz19
 replace hs := Sat.ofG (fun hg => (hv18 hg).2.re 7 [0, 1, 2, 3, 4, 5, 6] rfl) hz19 hs
 refine WL_sub1 (v := (.bool r14)) (fun hg => (hv18 hg).1) ?_
 replace hs := Sat.n7 (Γ := Φ) hs rfl
 obtain ⟨b20, e21, hm⟩ := letv_som hm
 refine WG ?_
 obtain ⟨b22, e23, hm⟩ := letv_som hm
 refine WG ?_
 obtain ⟨b24, e25, hm⟩ := letv_som hm
 refine W ?_
 refine WL_nil <| At_then ?_
 refine WC_cond (O rfl) (fun hc26 => ?_) (fun hc26 => ?_)
 ·
  replace hm := bif_t hc26 hm
  refine WC_seq <| WC_region ?_
  iterate 2 refine W ?_
  refine WL_nil <| At_then ?_
  refine WC_ret ?_
  refine At_then_ret <| ?_
  refine At_r2 rfl (ResIs.t rfl) (ResIs.t rfl) ?_
  cases hm
  exact ⟨rfl, (hs.re 7 [1, 2, 3] rfl)⟩
 ·
  replace hm := bif_f hc26 hm
  refine WC_skip ?_
  refine At_then <| WC_seq <| WC_seq <| WC_region ?_
  iterate 3 refine W ?_
  refine WL_nil <| At_then ?_
  refine WC_block ?_
  refine WC_loop (σ := Int) (γ := Unit) (F := (expr_read_is_s3_L1 ops r4)) (N := FUEL) (s0 := 0) (r := r) (fun t28 (_ : Unit) w27 => Sat (box b7 28 [(.int .i64 r4.1), (S r4.2.1), (.int .i64 r4.2.2.1), (.int .i64 r4.2.2.2)] :: imm Q8 [sl v2] ops :: box b 115 [(sl v4), (.int .i64 at_), (sl v6), (.int .i64 deep), (.int .i64 bad), (.int .i64 place)] :: osl Q1 28 (sl v4) l R :: osl RS 9 (sl v6) names R7 :: gl 0 (keysL.map S) :: gl 1 (textsL.map S) :: Φ) w27) (fun t28 (_ : Unit) => [(6, true, (.pointer (some ⟨b7, 0, none⟩))), (25, true, (sl v2)), (26, true, (.int .i64 (List.length ops : Int))), (27, true, (.int .i64 t28))]) hm () (hs.re 7 [0, 4, 1, 2, 3, 5, 6] rfl) rfl ?_
  rintro again29 t28 _ w27 hm hs
  unfold expr_read_is_s3_L1 at hm
  refine WC_seq <| WC_region ?_
  refine W ?_
  refine WL_nil <| At_then <| WC_seq ?_
  refine WC_cond (O rfl) (fun hc30 => ?_) (fun hc30 => ?_)
  ·
   replace hm := bif_t hc30 hm
   refine WC_skip ?_
   refine At_then <| WC_seq ?_
   refine WC_block ?_
   refine WC_seq <| WC_region ?_
   obtain ⟨e31, he32, hm⟩ := bind_some' hm
   refine Wo (Run_idxAddr (p := (elA (sl v2) t28 1)) Tryd.underlying30 ti3 (O rfl) (O rfl) (fun hg => (SRd.atA (A := (RI .i64)) (v := (sl v2)) (hs.sl (i := 1) rfl) he32).1)) rfl <| Wo (Run_load1 (v := (.int .i64 e31)) Tryd.underlying3 rfl (O rfl) (fun hg => (SRd.cellsF (A := (RI .i64)) (v := (sl v2)) (hs.sl (i := 1) rfl) he32 (fun _ h => openT3 h)).sub 0 rfl)) rfl <| ?_
   refine W ?_
   refine WL_nil <| At_then <| WC_seq ?_
   refine WC_region_mixed [0, 1, 2, 0, 8, 20] (.q 0 0 (.q 1 1 (.q 2 3 (.q 3 7 (.q 4 15 (.q 5 31 .nil)))))) (by kernel_rfl) (by kernel_rfl) ?_
   intro w33 hx34
   replace hs := hs.ext hx34
   refine WD_pure (fun _ => (Run_move (O rfl))) rfl rfl rfl rfl <| ?_
   obtain ⟨e35, he36, hm⟩ := bind_some' hm
   refine WD_pure (fun _ => (Run_arrIdx Tryd.underlying124 ti9 Opd.gl (O rfl) (fun hg => idx_inB (n := 25) he36 rfl))) rfl rfl rfl rfl <| WD_op (fun w => true = true → CellsAt w ((⟨1, 0, none⟩ : Addr).add (Int.toNat e31 * 1)) [(S e35)]) (fun hg => (gl_at (A := RS) (M := fun _ => False) (hs.gl (i := 6) rfl).2 (ARd_strs _) he36 (fun _ h => openT9 h)).sub 0 rfl) (fun _ hJ => (Run_load1 (v := (S e35)) Tryd.underlying9 rfl (O rfl) hJ)) rfl rfl rfl rfl <| WD_pure (fun _ => (Run_fieldAddr fo28_1 (O rfl))) rfl rfl rfl rfl <| WD_op (fun w => CellsAt w ⟨b7, 1, none⟩ [(S r4.2.1)]) ((hs.box (i := 0) rfl).part 1 rfl) (fun _ hJ => (Run_load1 (v := (S r4.2.1)) Tryd.underlying9 rfl (O rfl) (fun _ => hJ))) rfl rfl rfl rfl <| WD_pure (fun _ => (Run_eqS (O rfl) (O rfl))) rfl rfl rfl rfl <| ?_
   refine WD_nil ?_
   refine At_then ?_
   refine WC_cond (O rfl) (fun hc37 => ?_) (fun hc37 => ?_)
   ·
    replace hm := bif_t hc37 hm
    refine WC_seq <| WC_region ?_
    iterate 3 refine W ?_
    refine WL_nil <| At_then ?_
    refine WC_ret ?_
    refine At_blk_ret <| At_then_ret <| At_then_ret <| At_blk_ret <| At_then_ret <| ?_
    refine At_r2 rfl (ResIs.t rfl) (ResIs.t rfl) ?_
    cases hm
    exact ⟨rfl, (hs.re 7 [2, 3, 4] rfl)⟩
   ·
    replace hm := bif_f hc37 hm
    refine WC_skip ?_
    refine At_blk_normal ?_
    refine At_then <| WC_region ?_
    iterate 2 refine W ?_
    refine WL_nil ?_
    exact At_again (IntKind.i64.wrap (t28 + 1)) () hm (hs.re 7 [0, 1, 2, 3, 4, 5, 6] rfl) rfl
  ·
   replace hm := bif_f hc30 hm
   refine WC_exit ?_
   refine At_then_exit <| At_then_exit <| At_blk_here <| ?_
   refine At_then <| WC_seq <| WC_region ?_
   iterate 2 refine W ?_
   refine WL_nil <| At_then ?_
   refine WC_ret ?_
   refine At_r2 rfl (ResIs.t rfl) (ResIs.t rfl) ?_
   cases hm
   exact ⟨rfl, (hs.re 7 [2, 3, 4] rfl)⟩
theorem expr_read_one_s3_ok {k_expr_read_lower_s11 : (Q3 × Int × (List Str) × Int × Int × Int) → Option Q4} (ih_expr_read_lower_s11 : ∀ {Φ : Ctx} {w : World} {l : Q3} {at_ : Int} {names : (List Str)} {deep : Int} {bad : Int} {place : Int} {b : Nat} {v2 : SLV} {R : List Nat} {v4 : SLV} {R5 : List Nat} {r : Q4}, Sat (box b 115 [(sl v2), (.int .i64 at_), (sl v4), (.int .i64 deep), (.int .i64 bad), (.int .i64 place)] :: osl Q1 28 (sl v2) l R :: osl RS 9 (sl v4) names R5 :: gl 0 (keysL.map S) :: gl 1 (textsL.map S) :: Φ) w → k_expr_read_lower_s11 (l, at_, names, deep, bad, place) = some r → CallsR Tryd.prog 77 [(.pointer (some ⟨b, 0, none⟩)), (.func (.func 78) #[] #[])] w (fun v w' => ∃ v3 : SLV, ∃ R4 : List Nat, v = (.agg #[(.int .i64 r.1.op), (.int .i64 r.1.n), (.int .i64 r.1.at_), (sl v3)]) ∧ Sat (osl RExpr 51 (sl v3) r.1.l R4 :: box b 115 [(sl v2), (.int .i64 r.2.1), (sl v4), (.int .i64 r.2.2.1), (.int .i64 r.2.2.2.1), (.int .i64 r.2.2.2.2)] :: osl Q1 28 (sl v2) l R :: osl RS 9 (sl v4) names R5 :: Φ) w')) {Φ : Ctx} {w : World} {l : Q3} {at_ : Int} {names : (List Str)} {deep : Int} {bad : Int} {place : Int} {b : Nat} {v2 : SLV} {R : List Nat} {v4 : SLV} {R5 : List Nat} {r : Q4} (hs : Sat (box b 115 [(sl v2), (.int .i64 at_), (sl v4), (.int .i64 deep), (.int .i64 bad), (.int .i64 place)] :: osl Q1 28 (sl v2) l R :: osl RS 9 (sl v4) names R5 :: gl 0 (keysL.map S) :: gl 1 (textsL.map S) :: Φ) w) (hm : expr_read_one_s3 k_expr_read_lower_s11 l at_ names deep bad place = some r) :
  CallsR Tryd.prog 99 [(.pointer (some ⟨b, 0, none⟩))] w (fun v w' => ∃ v3 : SLV, ∃ R4 : List Nat, v = (.agg #[(.int .i64 r.1.op), (.int .i64 r.1.n), (.int .i64 r.1.at_), (sl v3)]) ∧ Sat (osl RExpr 51 (sl v3) r.1.l R4 :: box b 115 [(sl v2), (.int .i64 r.2.1), (sl v4), (.int .i64 r.2.2.1), (.int .i64 r.2.2.2.1), (.int .i64 r.2.2.2.2)] :: osl Q1 28 (sl v2) l R :: osl RS 9 (sl v4) names R5 :: Φ) w') := by
 refine CallsX_enter Tryd.func99 rfl Tryd.ntmps99 rfl ?_
 unfold expr_read_one_s3 at hm
 refine WC_seq <| WC_region ?_
 refine WS_alloc (zs := [(.int .i64 0), (.int .i64 0), (.int .i64 0), (sl (none, 0, 0))]) hs ti51 rfl rfl ?_
 intro b9 w10 hs
 replace hs := Sat.n6 (Γ := Φ) hs rfl
 refine WL_nil <| At_then <| WC_seq <| WC_seq <| WC_region ?_
 refine Wo (Run_move (O rfl)) rfl <| Wo (Run_nilP (O rfl)) rfl <| Wo (Run_fieldAddr fo115_4 (O rfl)) rfl <| Wo (Run_load1 (v := (.int .i64 bad)) Tryd.underlying34 rfl (O rfl) (fun _ => (hs.box (i := 1) rfl).part 4 rfl)) rfl <| Wo (Run_neI (O rfl) Opd.c) rfl <| ?_
 refine WL_nil <| At_then ?_
 refine WC_cond (O rfl) (fun hc11 => ?_) (fun hc11 => ?_)
 ·
  replace hm := bif_t hc11 hm
  refine WC_seq <| WC_region ?_
  refine Wo (Run_build (parts := []) (v := (.agg #[(.int .i64 0), (.int .i64 0), (.int .i64 0), (sl (none, 0, 0))])) .nil (fun _ => by kernel_rfl)) rfl <| ?_
  refine WS_store (us := [(.int .i64 0), (.int .i64 0), (.int .i64 0), (sl (none, 0, 0))]) (vs' := [(.int .i64 0), (.int .i64 0), (.int .i64 0), (sl (none, 0, 0))]) hs 0 rfl ti51 (O rfl) (O rfl) rfl rfl rfl rfl rfl ?_
  intro w12 hs
  replace hs := Sat.n6 (Γ := Φ) hs rfl
  refine WL_nil <| At_then ?_
  refine WC_ret ?_
  refine At_then_ret <| ?_
  refine At_r1 rfl (ResIs.cA (vs := [(.int .i64 0), (.int .i64 0), (.int .i64 0), (sl (none, 0, 0))]) rfl Tryd.underlying51 rfl ti51 ((hs.box (i := 0) rfl).part 0 rfl) rfl) ?_
  replace hs := hs.addNil RExpr 51
  cases hm
  exact ⟨(none, 0, 0), [], rfl, (hs.re 7 [0, 2, 3, 4] rfl)⟩
 ·
  replace hm := bif_f hc11 hm
  refine WC_skip ?_
  refine At_then <| WC_seq <| WC_region ?_
  refine Wo (Run_move (O rfl)) rfl <| ?_
  obtain ⟨r13, hr14, hm⟩ := bind_some' hm
  refine WL_call (f := 84) (first := []) (cap := []) (xs := [(.tmp 14)]) (vs := [(.pointer (some ⟨b, 0, none⟩))]) (args := [(.pointer (some ⟨b, 0, none⟩))]) Tryd.call84 Opd.f (.cons (O rfl) .nil) rfl rfl (expr_read_next_s3_ok (hs.re 6 [1, 2, 3, 0, 4, 5] rfl) hr14) ?_
  rintro _ w15 ⟨rfl, hs⟩
  replace hs := Sat.n6 (Γ := Φ) hs rfl
  refine WS_alloc (zs := [(.int .i64 0), (S []), (.int .i64 0), (.int .i64 0)]) hs ti28 rfl rfl ?_
  intro b16 w17 hs
  replace hs := Sat.n7 (Γ := Φ) hs rfl
  refine WS_store (us := [(.int .i64 r13.1), (S r13.2.1), (.int .i64 r13.2.2.1), (.int .i64 r13.2.2.2)]) (vs' := [(.int .i64 r13.1), (S r13.2.1), (.int .i64 r13.2.2.1), (.int .i64 r13.2.2.2)]) hs 0 rfl ti28 (O rfl) (O rfl) rfl rfl rfl rfl rfl ?_
  intro w18 hs
  replace hs := Sat.n7 (Γ := Φ) hs rfl
  refine WL_nil <| At_then <| WC_seq <| WC_region ?_
  refine Wo (Run_move (O rfl)) rfl <| ?_
  refine WS_lit (A := (RI .i64)) (xs := [13, 14]) (zs := [(.int .i64 0)]) (cells := [(.int .i64 13), (.int .i64 14)]) (parts := [(0, (.const (.int .i64 13))), (1, (.const (.int .i64 14)))]) hs Tryd.underlying30 ti3 rfl rfl rfl (.cons Opd.c (.cons Opd.c .nil)) (by kernel_rfl) rfl (ARd.cons (A := (RI .i64)) (c := [(.int .i64 13)]) (x := 13) rfl (ARd.cons (A := (RI .i64)) (c := [(.int .i64 14)]) (x := 14) rfl ARd.nil)) rfl ?_
  intro b19 w20 hs
  replace hs := Sat.n8 (Γ := Φ) hs rfl
  replace hs := hs.freeze (i := 0) rfl
  obtain ⟨r21, hr22, hm⟩ := bind_some' hm
  refine WL_call (f := 83) (first := []) (cap := []) (xs := [(.tmp 17), (.tmp 18)]) (vs := [(.pointer (some ⟨b, 0, none⟩)), (sl (some ⟨b19, 0, none⟩, 2, 2))]) (args := [(.pointer (some ⟨b, 0, none⟩)), (sl (some ⟨b19, 0, none⟩, 2, 2))]) Tryd.call83 Opd.f (.cons (O rfl) (.cons (O rfl) .nil)) rfl rfl (expr_read_is_s3_ok (hs.re 8 [2, 0, 3, 4, 6, 7, 0, 1, 5, 6, 7] rfl) hr22) ?_
  rintro _ w23 ⟨rfl, hs⟩
  replace hs := Sat.n8 (Γ := Φ) hs rfl
  refine Wo (Run_move (O rfl)) rfl <| Wo (Run_extract (vs := [(.int .i64 r21.1), (.bool r21.2)]) (O rfl) rfl) rfl <| Wo (Run_extract (vs := [(.int .i64 r21.1), (.bool r21.2)]) (O rfl) rfl) rfl <| Wo (Run_assign (O rfl)) rfl <| Wo (Run_assign (O rfl)) rfl <| ?_
  refine WL_nil <| At_then <| WC_seq ?_
  refine WC_block ?_
  refine WC_seq <| WC_region ?_
  refine Wo (Run_move (O rfl)) rfl <| Wo (Run_assign (O rfl)) rfl <| ?_
  refine WL_nil <| At_then ?_
  refine WC_cond (O rfl) (fun hc24 => ?_) (fun hc24 => ?_)
  ·
   replace hm := bif_t hc24 hm
   refine WC_seq <| WC_region ?_
   refine Wo (Run_move (O rfl)) rfl <| Wo (Run_nilP (O rfl)) rfl <| Wo (Run_fieldAddr fo115_1 (O rfl)) rfl <| Wo (Run_load1 (v := (.int .i64 at_)) Tryd.underlying3 rfl (O rfl) (fun _ => (hs.box (i := 0) rfl).part 1 rfl)) rfl <| Wo (Run_add (O rfl) Opd.c) rfl <| Wo (Run_nilP (O rfl)) rfl <| Wo (Run_fieldAddr fo115_1 (O rfl)) rfl <| ?_
   refine WS_store (us := [(.int .i64 (IntKind.i64.wrap (at_ + 1)))]) (vs' := [(sl v2), (.int .i64 (IntKind.i64.wrap (at_ + 1))), (sl v4), (.int .i64 deep), (.int .i64 bad), (.int .i64 place)]) hs 0 rfl ti3 (O rfl) (O rfl) rfl rfl rfl rfl rfl ?_
   intro w25 hs
   replace hs := Sat.n8 (Γ := Φ) hs rfl
   refine WL_nil <| At_then <| WC_seq <| WC_region ?_
   refine Wo (Run_move (O rfl)) rfl <| Wo (Run_fieldAddr fo28_3 (O rfl)) rfl <| Wo (Run_load1 (v := (.int .i64 r13.2.2.2)) Tryd.underlying3 rfl (O rfl) (fun _ => (hs.box (i := 4) rfl).part 3 rfl)) rfl <| Wo (Run_build (parts := [(0, (.tmp 31)), (2, (.tmp 33))]) (v := (.agg #[(.int .i64 r21.1), (.int .i64 0), (.int .i64 r13.2.2.2), (sl (none, 0, 0))])) (.cons (O rfl) (.cons (O rfl) .nil)) (fun _ => by kernel_rfl)) rfl <| ?_
   refine WS_store (us := [(.int .i64 r21.1), (.int .i64 0), (.int .i64 r13.2.2.2), (sl (none, 0, 0))]) (vs' := [(.int .i64 r21.1), (.int .i64 0), (.int .i64 r13.2.2.2), (sl (none, 0, 0))]) hs 5 rfl ti51 (O rfl) (O rfl) rfl rfl rfl rfl rfl ?_
   intro w26 hs
   replace hs := Sat.n8 (Γ := Φ) hs rfl
   refine WL_nil <| At_then ?_
   refine WC_ret ?_
   refine At_blk_ret <| At_then_ret <| ?_
   refine At_r1 rfl (ResIs.cA (vs := [(.int .i64 r21.1), (.int .i64 0), (.int .i64 r13.2.2.2), (sl (none, 0, 0))]) rfl Tryd.underlying51 rfl ti51 ((hs.box (i := 5) rfl).part 0 rfl) rfl) ?_
   replace hs := hs.addNil RExpr 51
   cases hm
   exact ⟨(none, 0, 0), [], rfl, (hs.re 9 [0, 1, 2, 3] rfl)⟩
  ·
   replace hm := bif_f hc24 hm
   refine WC_seq <| WC_region ?_
   refine Wo (Run_fieldAddr fo28_0 (O rfl)) rfl <| Wo (Run_load1 (v := (.int .i64 r13.1)) Tryd.underlying3 rfl (O rfl) (fun _ => (hs.box (i := 4) rfl).part 0 rfl)) rfl <| Wo (Run_eqI (O rfl) Opd.c) rfl <| Wo (Run_assign (O rfl)) rfl <| ?_
   refine WL_nil <| At_then ?_
   refine WC_cond (O rfl) (fun hc27 => ?_) (fun hc27 => ?_)
   ·
    replace hm := bif_t hc27 hm
    refine WC_seq <| WC_region ?_
    refine Wo (Run_move (O rfl)) rfl <| Wo (Run_nilP (O rfl)) rfl <| Wo (Run_fieldAddr fo115_1 (O rfl)) rfl <| Wo (Run_load1 (v := (.int .i64 at_)) Tryd.underlying3 rfl (O rfl) (fun _ => (hs.box (i := 0) rfl).part 1 rfl)) rfl <| Wo (Run_add (O rfl) Opd.c) rfl <| Wo (Run_nilP (O rfl)) rfl <| Wo (Run_fieldAddr fo115_1 (O rfl)) rfl <| ?_
    refine WS_store (us := [(.int .i64 (IntKind.i64.wrap (at_ + 1)))]) (vs' := [(sl v2), (.int .i64 (IntKind.i64.wrap (at_ + 1))), (sl v4), (.int .i64 deep), (.int .i64 bad), (.int .i64 place)]) hs 0 rfl ti3 (O rfl) (O rfl) rfl rfl rfl rfl rfl ?_
    intro w28 hs
    replace hs := Sat.n8 (Γ := Φ) hs rfl
    refine WL_nil <| At_then <| WC_seq <| WC_region ?_
    refine Wo (Run_fieldAddr fo28_2 (O rfl)) rfl <| Wo (Run_load1 (v := (.int .i64 r13.2.2.1)) Tryd.underlying3 rfl (O rfl) (fun _ => (hs.box (i := 4) rfl).part 2 rfl)) rfl <| Wo (Run_fieldAddr fo28_3 (O rfl)) rfl <| Wo (Run_load1 (v := (.int .i64 r13.2.2.2)) Tryd.underlying3 rfl (O rfl) (fun _ => (hs.box (i := 4) rfl).part 3 rfl)) rfl <| Wo (Run_build (parts := [(0, (.const (.int .i64 1))), (1, (.tmp 47)), (2, (.tmp 49))]) (v := (.agg #[(.int .i64 1), (.int .i64 r13.2.2.1), (.int .i64 r13.2.2.2), (sl (none, 0, 0))])) (.cons Opd.c (.cons (O rfl) (.cons (O rfl) .nil))) (fun _ => by kernel_rfl)) rfl <| ?_
    refine WS_store (us := [(.int .i64 1), (.int .i64 r13.2.2.1), (.int .i64 r13.2.2.2), (sl (none, 0, 0))]) (vs' := [(.int .i64 1), (.int .i64 r13.2.2.1), (.int .i64 r13.2.2.2), (sl (none, 0, 0))]) hs 5 rfl ti51 (O rfl) (O rfl) rfl rfl rfl rfl rfl ?_
    intro w29 hs
    replace hs := Sat.n8 (Γ := Φ) hs rfl
    refine WL_nil <| At_then ?_
    refine WC_ret ?_
    refine At_blk_ret <| At_then_ret <| ?_
    refine At_r1 rfl (ResIs.cA (vs := [(.int .i64 1), (.int .i64 r13.2.2.1), (.int .i64 r13.2.2.2), (sl (none, 0, 0))]) rfl Tryd.underlying51 rfl ti51 ((hs.box (i := 5) rfl).part 0 rfl) rfl) ?_
    replace hs := hs.addNil RExpr 51
    cases hm
    exact ⟨(none, 0, 0), [], rfl, (hs.re 9 [0, 1, 2, 3] rfl)⟩
   ·
    replace hm := bif_f hc27 hm
    refine WC_seq <| WC_region ?_
    refine Wo (Run_fieldAddr fo28_0 (O rfl)) rfl <| Wo (Run_load1 (v := (.int .i64 r13.1)) Tryd.underlying3 rfl (O rfl) (fun _ => (hs.box (i := 4) rfl).part 0 rfl)) rfl <| ?_
    obtain ⟨b30, e31, hm⟩ := letv_some hm
    refine Wo (Run.eqB (Run_eqI (O rfl) Opd.c) e31) rfl <| Wo (Run_move (O rfl)) rfl <| WL_opG rfl rfl rfl rfl guard_pos (Run_fieldAddr fo28_1 (O rfl)) rfl rfl rfl <| WL_opG rfl rfl rfl rfl guard_pos (Run_load1 (v := (S r13.2.1)) Tryd.underlying9 rfl (Opd.g rfl id) (fun _ => (hs.box (i := 4) rfl).part 1 rfl)) rfl rfl rfl <| ?_
    obtain ⟨r32, hr33, -, hm⟩ := callG_some hm
    refine WL_callG rfl rfl rfl guard_pos (f := 61) (first := []) (cap := []) (xs := [(.tmp 57)]) (vs := [(S r13.2.1)]) (args := [(S r13.2.1)]) Tryd.call61 Opd.f (.cons (Opd.g rfl id) .nil) rfl rfl (fun hg => expr_Key_ok (hs.re 8 [6, 0, 1, 2, 3, 4, 5, 6, 7] rfl) (hr33 hg)) ?_
    intro v35 w34 hv36 hz37
    replace hs := Sat.ofG (fun hg => (hv36 hg).2.re 8 [0, 1, 2, 3, 4, 5, 6, 7] rfl) hz37 hs
    refine WL_sub1 (v := (.bool r32)) (fun hg => (hv36 hg).1) ?_
    replace hs := Sat.n8 (Γ := Φ) hs rfl
    obtain ⟨b38, e39, hm⟩ := letv_some hm
    refine WL_opG rfl rfl rfl rfl guard_pos (Run.eqB (Run_notB (Opd.g rfl id)) e39) rfl rfl rfl <| ?_
    obtain ⟨b40, e41, hm⟩ := letv_some hm
    refine Wo (Run.eqB (Run_and (O rfl) (Opd.g rfl id)) e41) rfl <| Wo (Run_assign (O rfl)) rfl <| ?_
    refine WL_nil <| At_then ?_
    refine WC_cond (O rfl) (fun hc42 => ?_) (fun hc42 => ?_)
    ·
     replace hm := bif_t hc42 hm
     refine WC_seq ?_
     refine WC_region_mixed [0, 1, 2, 4, 0, 16, 40, 127] (.q 0 0 (.q 1 1 (.q 2 3 (.q 3 7 (.q 4 15 (.q 5 31 (.l 6 63 (.q 7 127 .nil)))))))) (by kernel_rfl) (by kernel_rfl) ?_
     intro w43 hx44
     replace hs := hs.ext hx44
     refine WD_pure (fun _ => (Run_move (O rfl))) rfl rfl rfl rfl <| WD_pure (fun _ => (Run_nilP (O rfl))) rfl rfl rfl rfl <| WD_pure (fun _ => (Run_fieldAddr fo115_2 (O rfl))) rfl rfl rfl rfl <| WD_op (fun w => CellsAt w ⟨b, 2, none⟩ [(sl v4)]) ((hs.box (i := 0) rfl).part 2 rfl) (fun _ hJ => (Run_load1 (v := (sl v4)) Tryd.underlying26 rfl (O rfl) (fun _ => hJ))) rfl rfl rfl rfl <| WD_pure (fun _ => (Run_fieldAddr fo28_1 (O rfl))) rfl rfl rfl rfl <| WD_op (fun w => CellsAt w ⟨b16, 1, none⟩ [(S r13.2.1)]) ((hs.box (i := 4) rfl).part 1 rfl) (fun _ hJ => (Run_load1 (v := (S r13.2.1)) Tryd.underlying9 rfl (O rfl) (fun _ => hJ))) rfl rfl rfl rfl <| ?_
     refine WD_loud (pend' := []) rfl (by kernel_rfl) ?_
     obtain ⟨r45, hr46, hm⟩ := bind_some' hm
     refine WL_call (f := 74) (first := []) (cap := []) (xs := [(.tmp 64), (.tmp 66)]) (vs := [(sl v4), (S r13.2.1)]) (args := [(sl v4), (S r13.2.1)]) Tryd.call74 Opd.f (.cons (O rfl) (.cons (O rfl) .nil)) rfl rfl (slices_Index_string_string_s2_ok (hs.re 8 [2, 0, 1, 3, 4, 5, 6, 7] rfl) hr46) ?_
     rintro _ w47 ⟨rfl, hs⟩
     replace hs := Sat.n8 (Γ := Φ) hs rfl
     refine WL_nil ?_
     refine At_QK allJ_nil ?_
     refine WD_pure (fun _ => (Run_assign (O rfl))) rfl rfl rfl rfl <| ?_
     refine WD_nil ?_
     refine At_then <| WC_seq <| WC_seq <| WC_region ?_
     refine Wo (Run_move (O rfl)) rfl <| Wo (Run_ltI (O rfl) Opd.c) rfl <| ?_
     refine WL_nil <| At_then ?_
     refine WC_cond (O rfl) (fun hc48 => ?_) (fun hc48 => ?_)
     ·
      replace hm := bif_t hc48 hm
      refine WC_seq <| WC_region ?_
      refine Wo (Run_move (O rfl)) rfl <| ?_
      obtain ⟨r49, hr50, hm⟩ := bind_some' hm
      refine WL_call (f := 80) (first := []) (cap := []) (xs := [(.tmp 70), (.const (.int .i64 3))]) (vs := [(.pointer (some ⟨b, 0, none⟩)), (.int .i64 3)]) (args := [(.pointer (some ⟨b, 0, none⟩)), (.int .i64 3)]) Tryd.call80 Opd.f (.cons (O rfl) (.cons Opd.c .nil)) rfl rfl (expr_read_fail_s3_ok (hs.re 8 [1, 2, 0, 3, 4, 5, 6, 7] rfl) hr50) ?_
      rintro _ w53 ⟨v51, R52, rfl, hs⟩
      replace hs := Sat.n9 (Γ := Φ) hs rfl
      refine WS_store (us := [(.int .i64 r49.1.op), (.int .i64 r49.1.n), (.int .i64 r49.1.at_), (sl v51)]) (vs' := [(.int .i64 r49.1.op), (.int .i64 r49.1.n), (.int .i64 r49.1.at_), (sl v51)]) hs 6 rfl ti51 (O rfl) (O rfl) rfl rfl rfl rfl rfl ?_
      intro w54 hs
      replace hs := Sat.n9 (Γ := Φ) hs rfl
      refine WL_nil <| At_then ?_
      refine WC_ret ?_
      refine At_then_ret <| At_blk_ret <| At_then_ret <| ?_
      refine At_r1 rfl (ResIs.cA (vs := [(.int .i64 r49.1.op), (.int .i64 r49.1.n), (.int .i64 r49.1.at_), (sl v51)]) rfl Tryd.underlying51 rfl ti51 ((hs.box (i := 6) rfl).part 0 rfl) rfl) ?_
      cases hm
      exact ⟨v51, R52, rfl, (hs.re 9 [0, 1, 2, 3] rfl)⟩
     ·
      replace hm := bif_f hc48 hm
      refine WC_skip ?_
      refine At_then <| WC_seq <| WC_region ?_
      refine Wo (Run_move (O rfl)) rfl <| Wo (Run_nilP (O rfl)) rfl <| Wo (Run_fieldAddr fo115_1 (O rfl)) rfl <| Wo (Run_load1 (v := (.int .i64 at_)) Tryd.underlying3 rfl (O rfl) (fun _ => (hs.box (i := 1) rfl).part 1 rfl)) rfl <| Wo (Run_add (O rfl) Opd.c) rfl <| Wo (Run_nilP (O rfl)) rfl <| Wo (Run_fieldAddr fo115_1 (O rfl)) rfl <| ?_
      refine WS_store (us := [(.int .i64 (IntKind.i64.wrap (at_ + 1)))]) (vs' := [(sl v2), (.int .i64 (IntKind.i64.wrap (at_ + 1))), (sl v4), (.int .i64 deep), (.int .i64 bad), (.int .i64 place)]) hs 1 rfl ti3 (O rfl) (O rfl) rfl rfl rfl rfl rfl ?_
      intro w55 hs
      replace hs := Sat.n8 (Γ := Φ) hs rfl
      refine WL_nil <| At_then <| WC_seq <| WC_region ?_
      refine Wo (Run_move (O rfl)) rfl <| Wo (Run_fieldAddr fo28_3 (O rfl)) rfl <| Wo (Run_load1 (v := (.int .i64 r13.2.2.2)) Tryd.underlying3 rfl (O rfl) (fun _ => (hs.box (i := 4) rfl).part 3 rfl)) rfl <| Wo (Run_build (parts := [(0, (.const (.int .i64 2))), (1, (.tmp 79)), (2, (.tmp 81))]) (v := (.agg #[(.int .i64 2), (.int .i64 r45), (.int .i64 r13.2.2.2), (sl (none, 0, 0))])) (.cons Opd.c (.cons (O rfl) (.cons (O rfl) .nil))) (fun _ => by kernel_rfl)) rfl <| ?_
      refine WS_store (us := [(.int .i64 2), (.int .i64 r45), (.int .i64 r13.2.2.2), (sl (none, 0, 0))]) (vs' := [(.int .i64 2), (.int .i64 r45), (.int .i64 r13.2.2.2), (sl (none, 0, 0))]) hs 5 rfl ti51 (O rfl) (O rfl) rfl rfl rfl rfl rfl ?_
      intro w56 hs
      replace hs := Sat.n8 (Γ := Φ) hs rfl
      refine WL_nil <| At_then ?_
      refine WC_ret ?_
      refine At_blk_ret <| At_then_ret <| ?_
      refine At_r1 rfl (ResIs.cA (vs := [(.int .i64 2), (.int .i64 r45), (.int .i64 r13.2.2.2), (sl (none, 0, 0))]) rfl Tryd.underlying51 rfl ti51 ((hs.box (i := 5) rfl).part 0 rfl) rfl) ?_
      replace hs := hs.addNil RExpr 51
      cases hm
      exact ⟨(none, 0, 0), [], rfl, (hs.re 9 [0, 2, 3, 1] rfl)⟩
    ·
     replace hm := bif_f hc42 hm
     refine WC_seq <| WC_region ?_
     refine Wo (Run_fieldAddr fo28_0 (O rfl)) rfl <| Wo (Run_load1 (v := (.int .i64 r13.1)) Tryd.underlying3 rfl (O rfl) (fun _ => (hs.box (i := 4) rfl).part 0 rfl)) rfl <| ?_
     obtain ⟨b57, e58, hm⟩ := letv_some hm
     refine Wo (Run.eqB (Run_eqI (O rfl) Opd.c) e58) rfl <| Wo (Run_move (O rfl)) rfl <| WL_opG rfl rfl rfl rfl guard_pos (Run_fieldAddr fo28_1 (O rfl)) rfl rfl rfl <| WL_opG rfl rfl rfl rfl guard_pos (Run_load1 (v := (S r13.2.1)) Tryd.underlying9 rfl (Opd.g rfl id) (fun _ => (hs.box (i := 4) rfl).part 1 rfl)) rfl rfl rfl <| ?_
     obtain ⟨b59, e60, hm⟩ := letv_some hm
     refine WL_opG rfl rfl rfl rfl guard_pos (Run.eqB (Run_eqS (Opd.g rfl id) Opd.c) e60) rfl rfl rfl <| ?_
     obtain ⟨b61, e62, hm⟩ := letv_some hm
     refine Wo (Run.eqB (Run_and (O rfl) (Opd.g rfl id)) e62) rfl <| Wo (Run_assign (O rfl)) rfl <| ?_
     refine WL_nil <| At_then ?_
     refine WC_cond (O rfl) (fun hc63 => ?_) (fun hc63 => ?_)
     ·
      replace hm := bif_t hc63 hm
      refine WC_seq <| WC_region ?_
      refine Wo (Run_move (O rfl)) rfl <| Wo (Run_nilP (O rfl)) rfl <| Wo (Run_fieldAddr fo115_1 (O rfl)) rfl <| Wo (Run_load1 (v := (.int .i64 at_)) Tryd.underlying3 rfl (O rfl) (fun _ => (hs.box (i := 0) rfl).part 1 rfl)) rfl <| Wo (Run_add (O rfl) Opd.c) rfl <| Wo (Run_nilP (O rfl)) rfl <| Wo (Run_fieldAddr fo115_1 (O rfl)) rfl <| ?_
      refine WS_store (us := [(.int .i64 (IntKind.i64.wrap (at_ + 1)))]) (vs' := [(sl v2), (.int .i64 (IntKind.i64.wrap (at_ + 1))), (sl v4), (.int .i64 deep), (.int .i64 bad), (.int .i64 place)]) hs 0 rfl ti3 (O rfl) (O rfl) rfl rfl rfl rfl rfl ?_
      intro w64 hs
      replace hs := Sat.n8 (Γ := Φ) hs rfl
      refine WL_nil <| At_then <| WC_seq <| WC_region ?_
      refine Wo (Run_move (O rfl)) rfl <| ?_
      obtain ⟨r65, hr66, hm⟩ := bind_some' hm
      refine WL_call (f := 77) (first := []) (cap := []) (xs := [(.tmp 99), (.func 78)]) (vs := [(.pointer (some ⟨b, 0, none⟩)), (.func (.func 78) #[] #[])]) (args := [(.pointer (some ⟨b, 0, none⟩)), (.func (.func 78) #[] #[])]) Tryd.call77 Opd.f (.cons (O rfl) (.cons Opd.f .nil)) rfl rfl (ih_expr_read_lower_s11 (hs.re 8 [0, 1, 2, 6, 7, 3, 4, 5, 6, 7] rfl) hr66) ?_
      rintro _ w69 ⟨v67, R68, rfl, hs⟩
      replace hs := Sat.n9 (Γ := Φ) hs rfl
      refine WS_alloc (zs := [(.int .i64 0), (.int .i64 0), (.int .i64 0), (sl (none, 0, 0))]) hs ti51 rfl rfl ?_
      intro b70 w71 hs
      replace hs := Sat.n10 (Γ := Φ) hs rfl
      refine WS_store (us := [(.int .i64 r65.1.op), (.int .i64 r65.1.n), (.int .i64 r65.1.at_), (sl v67)]) (vs' := [(.int .i64 r65.1.op), (.int .i64 r65.1.n), (.int .i64 r65.1.at_), (sl v67)]) hs 0 rfl ti51 (O rfl) (O rfl) rfl rfl rfl rfl rfl ?_
      intro w72 hs
      replace hs := Sat.n10 (Γ := Φ) hs rfl
      refine WL_nil <| At_then <| WC_seq <| WC_seq <| WC_region ?_
      refine Wo (Run_move (O rfl)) rfl <| Wo (Run_nilP (O rfl)) rfl <| Wo (Run_fieldAddr fo115_4 (O rfl)) rfl <| Wo (Run_load1 (v := (.int .i64 r65.2.2.2.1)) Tryd.underlying34 rfl (O rfl) (fun _ => (hs.box (i := 2) rfl).part 4 rfl)) rfl <| ?_
      obtain ⟨b73, e74, hm⟩ := letv_some hm
      refine Wo (Run.eqB (Run_eqI (O rfl) Opd.c) e74) rfl <| Wo (Run_move (O rfl)) rfl <| WL_opG rfl rfl rfl rfl guard_pos (Run_move (O rfl)) rfl rfl rfl <| ?_
      obtain ⟨r75, hr76, -, hm⟩ := callG_some hm
      refine WL_callG rfl rfl rfl guard_pos (f := 84) (first := []) (cap := []) (xs := [(.tmp 107)]) (vs := [(.pointer (some ⟨b, 0, none⟩))]) (args := [(.pointer (some ⟨b, 0, none⟩))]) Tryd.call84 Opd.f (.cons (Opd.g rfl id) .nil) rfl rfl (fun hg => expr_read_next_s3_ok (hs.re 10 [2, 3, 4, 0, 1, 5, 6, 7, 8, 9] rfl) (hr76 hg)) ?_
      intro v78 w77 hv79 hz80
      replace hs := Sat.ofG (fun hg => (hv79 hg).2.re 10 [3, 4, 0, 1, 2, 5, 6, 7, 8, 9] rfl) hz80 hs
      refine WL_sub1 (v := (.agg #[(.int .i64 r75.1), (S r75.2.1), (.int .i64 r75.2.2.1), (.int .i64 r75.2.2.2)])) (fun hg => (hv79 hg).1) ?_
      replace hs := Sat.n10 (Γ := Φ) hs rfl
      refine WL_opG rfl rfl rfl rfl guard_pos (Run_field (cs := [(.int .i64 r75.1), (S r75.2.1), (.int .i64 r75.2.2.1), (.int .i64 r75.2.2.2)]) Tryd.underlying28 rfl rfl rfl Tryd.underlying3 ti3 (Opd.g rfl id) rfl) rfl rfl rfl <| ?_
      obtain ⟨b81, e82, hm⟩ := letv_some hm
      refine WL_opG rfl rfl rfl rfl guard_pos (Run.eqB (Run_neI (Opd.g rfl id) Opd.c) e82) rfl rfl rfl <| WL_opG rfl rfl rfl rfl guard_pos (Run_move (Opd.g rfl id)) rfl rfl rfl <| WL_opG rfl rfl rfl rfl guard_neg' (Run_move (O rfl)) rfl rfl rfl <| ?_
      obtain ⟨r83, hr84, -, hm⟩ := callG_some hm
      refine WL_callG rfl rfl rfl guard_neg' (f := 84) (first := []) (cap := []) (xs := [(.tmp 112)]) (vs := [(.pointer (some ⟨b, 0, none⟩))]) (args := [(.pointer (some ⟨b, 0, none⟩))]) Tryd.call84 Opd.f (.cons (Opd.g rfl id) .nil) rfl rfl (fun hg => expr_read_next_s3_ok (hs.re 10 [2, 3, 4, 0, 1, 5, 6, 7, 8, 9] rfl) (hr84 hg)) ?_
      intro v86 w85 hv87 hz88
      replace hs := Sat.ofG (fun hg => (hv87 hg).2.re 10 [3, 4, 0, 1, 2, 5, 6, 7, 8, 9] rfl) hz88 hs
      refine WL_sub1 (v := (.agg #[(.int .i64 r83.1), (S r83.2.1), (.int .i64 r83.2.2.1), (.int .i64 r83.2.2.2)])) (fun hg => (hv87 hg).1) ?_
      replace hs := Sat.n10 (Γ := Φ) hs rfl
      refine WL_opG rfl rfl rfl rfl guard_neg' (Run_field (cs := [(.int .i64 r83.1), (S r83.2.1), (.int .i64 r83.2.2.1), (.int .i64 r83.2.2.2)]) Tryd.underlying28 rfl rfl rfl Tryd.underlying9 ti9 (Opd.g rfl id) rfl) rfl rfl rfl <| ?_
      obtain ⟨b89, e90, hm⟩ := letv_some hm
      refine WL_opG rfl rfl rfl rfl guard_neg' (Run.eqB (Run_neS (Opd.g rfl id) Opd.c) e90) rfl rfl rfl <| ?_
      obtain ⟨b91, e92, hm⟩ := letv_some hm
      refine WL_opG rfl rfl rfl rfl guard_pos (Run.eqB (Run_or (Opd.g rfl id) (Opd.g rfl id)) e92) rfl rfl rfl <| ?_
      obtain ⟨b93, e94, hm⟩ := letv_some hm
      refine Wo (Run.eqB (Run_and (O rfl) (Opd.g rfl id)) e94) rfl <| ?_
      refine WL_nil <| At_then ?_
      refine WC_cond (O rfl) (fun hc95 => ?_) (fun hc95 => ?_)
      ·
       replace hm := bif_t hc95 hm
       refine WC_seq <| WC_region ?_
       refine Wo (Run_move (O rfl)) rfl <| ?_
       obtain ⟨r96, hr97, hm⟩ := bind_some' hm
       refine WL_call (f := 80) (first := []) (cap := []) (xs := [(.tmp 118), (.const (.int .i64 2))]) (vs := [(.pointer (some ⟨b, 0, none⟩)), (.int .i64 2)]) (args := [(.pointer (some ⟨b, 0, none⟩)), (.int .i64 2)]) Tryd.call80 Opd.f (.cons (O rfl) (.cons Opd.c .nil)) rfl rfl (expr_read_fail_s3_ok (hs.re 10 [2, 3, 4, 0, 1, 5, 6, 7, 8, 9] rfl) hr97) ?_
       rintro _ w100 ⟨v98, R99, rfl, hs⟩
       replace hs := Sat.n11 (Γ := Φ) hs rfl
       refine WS_store (us := [(.int .i64 r96.1.op), (.int .i64 r96.1.n), (.int .i64 r96.1.at_), (sl v98)]) (vs' := [(.int .i64 r96.1.op), (.int .i64 r96.1.n), (.int .i64 r96.1.at_), (sl v98)]) hs 8 rfl ti51 (O rfl) (O rfl) rfl rfl rfl rfl rfl ?_
       intro w101 hs
       replace hs := Sat.n11 (Γ := Φ) hs rfl
       refine WL_nil <| At_then ?_
       refine WC_ret ?_
       refine At_then_ret <| At_blk_ret <| At_then_ret <| ?_
       refine At_r1 rfl (ResIs.cA (vs := [(.int .i64 r96.1.op), (.int .i64 r96.1.n), (.int .i64 r96.1.at_), (sl v98)]) rfl Tryd.underlying51 rfl ti51 ((hs.box (i := 8) rfl).part 0 rfl) rfl) ?_
       cases hm
       exact ⟨v98, R99, rfl, (hs.re 11 [0, 1, 2, 3] rfl)⟩
      ·
       replace hm := bif_f hc95 hm
       refine WC_skip ?_
       refine At_then <| WC_seq <| WC_seq <| WC_region ?_
       refine Wo (Run_move (O rfl)) rfl <| Wo (Run_nilP (O rfl)) rfl <| Wo (Run_fieldAddr fo115_4 (O rfl)) rfl <| Wo (Run_load1 (v := (.int .i64 r65.2.2.2.1)) Tryd.underlying34 rfl (O rfl) (fun _ => (hs.box (i := 2) rfl).part 4 rfl)) rfl <| Wo (Run_eqI (O rfl) Opd.c) rfl <| ?_
       refine WL_nil <| At_then ?_
       refine WC_cond (O rfl) (fun hc102 => ?_) (fun hc102 => ?_)
       ·
        replace hm := bif_t hc102 hm
        refine WC_region ?_
        refine Wo (Run_move (O rfl)) rfl <| Wo (Run_nilP (O rfl)) rfl <| Wo (Run_fieldAddr fo115_1 (O rfl)) rfl <| Wo (Run_load1 (v := (.int .i64 r65.2.1)) Tryd.underlying3 rfl (O rfl) (fun _ => (hs.box (i := 2) rfl).part 1 rfl)) rfl <| Wo (Run_add (O rfl) Opd.c) rfl <| Wo (Run_nilP (O rfl)) rfl <| Wo (Run_fieldAddr fo115_1 (O rfl)) rfl <| ?_
        refine WS_store (us := [(.int .i64 (IntKind.i64.wrap (r65.2.1 + 1)))]) (vs' := [(sl v2), (.int .i64 (IntKind.i64.wrap (r65.2.1 + 1))), (sl v4), (.int .i64 r65.2.2.1), (.int .i64 r65.2.2.2.1), (.int .i64 r65.2.2.2.2)]) hs 2 rfl ti3 (O rfl) (O rfl) rfl rfl rfl rfl rfl ?_
        intro w103 hs
        replace hs := Sat.n10 (Γ := Φ) hs rfl
        refine WL_nil <| At_then <| WC_seq <| WC_region ?_
        refine Wo (Run_loadA (vs := [(.int .i64 r65.1.op), (.int .i64 r65.1.n), (.int .i64 r65.1.at_), (sl v67)]) Tryd.underlying51 rfl ti51 (O rfl) (fun _ => (hs.box (i := 0) rfl).part 0 rfl) rfl) rfl <| ?_
        refine WS_store (us := [(.int .i64 r65.1.op), (.int .i64 r65.1.n), (.int .i64 r65.1.at_), (sl v67)]) (vs' := [(.int .i64 r65.1.op), (.int .i64 r65.1.n), (.int .i64 r65.1.at_), (sl v67)]) hs 7 rfl ti51 (O rfl) (O rfl) rfl rfl rfl rfl rfl ?_
        intro w104 hs
        replace hs := Sat.n10 (Γ := Φ) hs rfl
        refine WL_nil <| At_then ?_
        refine WC_ret ?_
        refine At_blk_ret <| At_then_ret <| ?_
        refine At_r1 rfl (ResIs.cA (vs := [(.int .i64 r65.1.op), (.int .i64 r65.1.n), (.int .i64 r65.1.at_), (sl v67)]) rfl Tryd.underlying51 rfl ti51 ((hs.box (i := 7) rfl).part 0 rfl) rfl) ?_
        cases hm
        exact ⟨v67, R68, rfl, (hs.re 10 [1, 2, 3, 4] rfl)⟩
       ·
        replace hm := bif_f hc102 hm
        refine WC_skip ?_
        refine At_then <| WC_seq <| WC_region ?_
        refine Wo (Run_loadA (vs := [(.int .i64 r65.1.op), (.int .i64 r65.1.n), (.int .i64 r65.1.at_), (sl v67)]) Tryd.underlying51 rfl ti51 (O rfl) (fun _ => (hs.box (i := 0) rfl).part 0 rfl) rfl) rfl <| ?_
        refine WS_store (us := [(.int .i64 r65.1.op), (.int .i64 r65.1.n), (.int .i64 r65.1.at_), (sl v67)]) (vs' := [(.int .i64 r65.1.op), (.int .i64 r65.1.n), (.int .i64 r65.1.at_), (sl v67)]) hs 7 rfl ti51 (O rfl) (O rfl) rfl rfl rfl rfl rfl ?_
        intro w105 hs
        replace hs := Sat.n10 (Γ := Φ) hs rfl
        refine WL_nil <| At_then ?_
        refine WC_ret ?_
        refine At_blk_ret <| At_then_ret <| ?_
        refine At_r1 rfl (ResIs.cA (vs := [(.int .i64 r65.1.op), (.int .i64 r65.1.n), (.int .i64 r65.1.at_), (sl v67)]) rfl Tryd.underlying51 rfl ti51 ((hs.box (i := 7) rfl).part 0 rfl) rfl) ?_
        cases hm
        exact ⟨v67, R68, rfl, (hs.re 10 [1, 2, 3, 4] rfl)⟩
     ·
      replace hm := bif_f hc63 hm
      refine WC_skip ?_
      refine At_blk_normal ?_
      refine At_then <| WC_seq <| WC_region ?_
      refine Wo (Run_move (O rfl)) rfl <| ?_
      obtain ⟨r106, hr107, hm⟩ := bind_some' hm
      refine WL_call (f := 80) (first := []) (cap := []) (xs := [(.tmp 133), (.const (.int .i64 2))]) (vs := [(.pointer (some ⟨b, 0, none⟩)), (.int .i64 2)]) (args := [(.pointer (some ⟨b, 0, none⟩)), (.int .i64 2)]) Tryd.call80 Opd.f (.cons (O rfl) (.cons Opd.c .nil)) rfl rfl (expr_read_fail_s3_ok (hs.re 8 [0, 1, 2, 3, 4, 5, 6, 7] rfl) hr107) ?_
      rintro _ w110 ⟨v108, R109, rfl, hs⟩
      replace hs := Sat.n9 (Γ := Φ) hs rfl
      refine WS_store (us := [(.int .i64 r106.1.op), (.int .i64 r106.1.n), (.int .i64 r106.1.at_), (sl v108)]) (vs' := [(.int .i64 r106.1.op), (.int .i64 r106.1.n), (.int .i64 r106.1.at_), (sl v108)]) hs 6 rfl ti51 (O rfl) (O rfl) rfl rfl rfl rfl rfl ?_
      intro w111 hs
      replace hs := Sat.n9 (Γ := Φ) hs rfl
      refine WL_nil <| At_then ?_
      refine WC_ret ?_
      refine At_r1 rfl (ResIs.cA (vs := [(.int .i64 r106.1.op), (.int .i64 r106.1.n), (.int .i64 r106.1.at_), (sl v108)]) rfl Tryd.underlying51 rfl ti51 ((hs.box (i := 6) rfl).part 0 rfl) rfl) ?_
      cases hm
      exact ⟨v108, R109, rfl, (hs.re 9 [0, 1, 2, 3] rfl)⟩
theorem expr_read_before_s6_ok {k_expr_read_lower_s11 k_expr_read_lower_s15} (ih_expr_read_lower_s11 : ∀ {Φ : Ctx} {w : World} {l : Q3} {at_ : Int} {names : (List Str)} {deep : Int} {bad : Int} {place : Int} {b : Nat} {v2 : SLV} {R : List Nat} {v4 : SLV} {R5 : List Nat} {r : Q4}, Sat (box b 115 [(sl v2), (.int .i64 at_), (sl v4), (.int .i64 deep), (.int .i64 bad), (.int .i64 place)] :: osl Q1 28 (sl v2) l R :: osl RS 9 (sl v4) names R5 :: gl 0 (keysL.map S) :: gl 1 (textsL.map S) :: Φ) w → k_expr_read_lower_s11 (l, at_, names, deep, bad, place) = some r → CallsR Tryd.prog 77 [(.pointer (some ⟨b, 0, none⟩)), (.func (.func 78) #[] #[])] w (fun v w' => ∃ v3 : SLV, ∃ R4 : List Nat, v = (.agg #[(.int .i64 r.1.op), (.int .i64 r.1.n), (.int .i64 r.1.at_), (sl v3)]) ∧ Sat (osl RExpr 51 (sl v3) r.1.l R4 :: box b 115 [(sl v2), (.int .i64 r.2.1), (sl v4), (.int .i64 r.2.2.1), (.int .i64 r.2.2.2.1), (.int .i64 r.2.2.2.2)] :: osl Q1 28 (sl v2) l R :: osl RS 9 (sl v4) names R5 :: Φ) w')) (ih_expr_read_lower_s15 : ∀ {Φ : Ctx} {w : World} {l : Q3} {at_ : Int} {names : (List Str)} {deep : Int} {bad : Int} {place : Int} {b : Nat} {v2 : SLV} {R : List Nat} {v4 : SLV} {R5 : List Nat} {r : Q4}, Sat (box b 115 [(sl v2), (.int .i64 at_), (sl v4), (.int .i64 deep), (.int .i64 bad), (.int .i64 place)] :: osl Q1 28 (sl v2) l R :: osl RS 9 (sl v4) names R5 :: gl 0 (keysL.map S) :: gl 1 (textsL.map S) :: Φ) w → k_expr_read_lower_s15 (l, at_, names, deep, bad, place) = some r → CallsR Tryd.prog 77 [(.pointer (some ⟨b, 0, none⟩)), (.func (.func 98) #[] #[])] w (fun v w' => ∃ v3 : SLV, ∃ R4 : List Nat, v = (.agg #[(.int .i64 r.1.op), (.int .i64 r.1.n), (.int .i64 r.1.at_), (sl v3)]) ∧ Sat (osl RExpr 51 (sl v3) r.1.l R4 :: box b 115 [(sl v2), (.int .i64 r.2.1), (sl v4), (.int .i64 r.2.2.1), (.int .i64 r.2.2.2.1), (.int .i64 r.2.2.2.2)] :: osl Q1 28 (sl v2) l R :: osl RS 9 (sl v4) names R5 :: Φ) w')) {Φ : Ctx} {w : World} {ops : (List Int)} {l : Q3} {at_ : Int} {names : (List Str)} {deep : Int} {bad : Int} {place : Int} {b : Nat} {v2 : SLV} {v4 : SLV} {R : List Nat} {v6 : SLV} {R7 : List Nat} {r : Q4} (hs : Sat (box b 115 [(sl v4), (.int .i64 at_), (sl v6), (.int .i64 deep), (.int .i64 bad), (.int .i64 place)] :: imm Q8 [sl v2] ops :: osl Q1 28 (sl v4) l R :: osl RS 9 (sl v6) names R7 :: gl 0 (keysL.map S) :: gl 1 (textsL.map S) :: Φ) w) (hm : expr_read_before_s6 k_expr_read_lower_s11 k_expr_read_lower_s15 ops l at_ names deep bad place = some r) :
  CallsR Tryd.prog 93 [(.pointer (some ⟨b, 0, none⟩)), (.func (.func 98) #[] #[]), (.func (.func 99) #[] #[]), (sl v2)] w (fun v w' => ∃ v3 : SLV, ∃ R4 : List Nat, v = (.agg #[(.int .i64 r.1.op), (.int .i64 r.1.n), (.int .i64 r.1.at_), (sl v3)]) ∧ Sat (osl RExpr 51 (sl v3) r.1.l R4 :: box b 115 [(sl v4), (.int .i64 r.2.1), (sl v6), (.int .i64 r.2.2.1), (.int .i64 r.2.2.2.1), (.int .i64 r.2.2.2.2)] :: osl Q1 28 (sl v4) l R :: osl RS 9 (sl v6) names R7 :: Φ) w') := by
 refine CallsX_enter Tryd.func93 rfl Tryd.ntmps93 rfl ?_
 unfold expr_read_before_s6 at hm
 refine WC_seq <| WC_region ?_
 refine WS_alloc (zs := [(.int .i64 0), (.int .i64 0), (.int .i64 0), (sl (none, 0, 0))]) hs ti51 rfl rfl ?_
 intro b9 w10 hs
 replace hs := Sat.n7 (Γ := Φ) hs rfl
 refine WL_nil <| At_then <| WC_seq <| WC_region ?_
 iterate 2 refine W ?_
 obtain ⟨r11, hr12, hm⟩ := bind_some' hm
 refine WL_call (f := 83) (first := []) (cap := []) (xs := [(.tmp 13), (.tmp 14)]) (vs := [(.pointer (some ⟨b, 0, none⟩)), (sl v2)]) (args := [(.pointer (some ⟨b, 0, none⟩)), (sl v2)]) Tryd.call83 Opd.f (.cons (O rfl) (.cons (O rfl) .nil)) rfl rfl (expr_read_is_s3_ok (hs.re 7 [1, 2, 3, 4, 5, 6, 0, 2, 5, 6] rfl) hr12) ?_
 rintro _ w13 ⟨rfl, hs⟩
 replace hs := Sat.n7 (Γ := Φ) hs rfl
 iterate 5 refine W ?_
 refine WL_nil <| At_then <| WC_seq <| WC_seq <| WC_region ?_
 iterate 2 refine W ?_
 refine WL_nil <| At_then ?_
 refine WC_cond (O rfl) (fun hc14 => ?_) (fun hc14 => ?_)
 ·
  replace hm := bif_t hc14 hm
  refine WC_seq <| WC_region ?_
  iterate 2 refine W ?_
  obtain ⟨r15, hr16, hm⟩ := bind_some' hm
  refine WL_call (f := 99) (first := []) (cap := []) (xs := [(.tmp 21)]) (vs := [(.pointer (some ⟨b, 0, none⟩))]) (args := [(.pointer (some ⟨b, 0, none⟩))]) Tryd.call99 (O rfl) (.cons (O rfl) .nil) rfl rfl (expr_read_one_s3_ok (@ih_expr_read_lower_s11) (hs.re 7 [0, 1, 2, 5, 6, 3, 4, 5, 6] rfl) hr16) ?_
  rintro _ w19 ⟨v17, R18, rfl, hs⟩
  replace hs := Sat.n8 (Γ := Φ) hs rfl
  refine WS_store (us := [(.int .i64 r15.1.op), (.int .i64 r15.1.n), (.int .i64 r15.1.at_), (sl v17)]) (vs' := [(.int .i64 r15.1.op), (.int .i64 r15.1.n), (.int .i64 r15.1.at_), (sl v17)]) hs 4 rfl ti51 (O rfl) (O rfl) rfl rfl rfl rfl rfl ?_
  intro w20 hs
  replace hs := Sat.n8 (Γ := Φ) hs rfl
  refine WL_nil <| At_then ?_
  refine WC_ret ?_
  refine At_then_ret <| ?_
  refine At_r1 rfl (ResIs.cA (vs := [(.int .i64 r15.1.op), (.int .i64 r15.1.n), (.int .i64 r15.1.at_), (sl v17)]) rfl Tryd.underlying51 rfl ti51 ((hs.box (i := 4) rfl).part 0 rfl) rfl) ?_
  cases hm
  exact ⟨v17, R18, rfl, (hs.re 8 [0, 1, 2, 3] rfl)⟩
 ·
  replace hm := bif_f hc14 hm
  refine WC_skip ?_
  refine At_then <| WC_seq <| WC_region ?_
  refine W ?_
  obtain ⟨r21, hr22, hm⟩ := bind_some' hm
  refine WL_call (f := 84) (first := []) (cap := []) (xs := [(.tmp 23)]) (vs := [(.pointer (some ⟨b, 0, none⟩))]) (args := [(.pointer (some ⟨b, 0, none⟩))]) Tryd.call84 Opd.f (.cons (O rfl) .nil) rfl rfl (expr_read_next_s3_ok (hs.re 7 [0, 1, 2, 3, 4, 5, 6] rfl) hr22) ?_
  rintro _ w23 ⟨rfl, hs⟩
  replace hs := Sat.n7 (Γ := Φ) hs rfl
  refine WS_alloc (zs := [(.int .i64 0), (S []), (.int .i64 0), (.int .i64 0)]) hs ti28 rfl rfl ?_
  intro b24 w25 hs
  replace hs := Sat.n8 (Γ := Φ) hs rfl
  refine WS_store (us := [(.int .i64 r21.1), (S r21.2.1), (.int .i64 r21.2.2.1), (.int .i64 r21.2.2.2)]) (vs' := [(.int .i64 r21.1), (S r21.2.1), (.int .i64 r21.2.2.1), (.int .i64 r21.2.2.2)]) hs 0 rfl ti28 (O rfl) (O rfl) rfl rfl rfl rfl rfl ?_
  intro w26 hs
  replace hs := Sat.n8 (Γ := Φ) hs rfl
  refine WL_nil <| At_then <| WC_seq <| WC_region ?_
  iterate 7 refine W ?_
  refine WS_store (us := [(.int .i64 (IntKind.i64.wrap (at_ + 1)))]) (vs' := [(sl v4), (.int .i64 (IntKind.i64.wrap (at_ + 1))), (sl v6), (.int .i64 deep), (.int .i64 bad), (.int .i64 place)]) hs 1 rfl ti3 (O rfl) (O rfl) rfl rfl rfl rfl rfl ?_
  intro w27 hs
  replace hs := Sat.n8 (Γ := Φ) hs rfl
  refine WL_nil <| At_then <| WC_seq ?_
  refine WC_region_mixed [0, 0, 2, 0, 0, 24, 32, 69, 255] (.q 0 0 (.q 1 1 (.q 2 3 (.q 3 7 (.q 4 15 (.l 5 31 (.l 6 63 (.q 7 127 (.l 8 255 .nil))))))))) (by kernel_rfl) (by kernel_rfl) ?_
  intro w28 hx29
  replace hs := hs.ext hx29
  refine WD_pure (fun _ => (Run_move (O rfl))) rfl rfl rfl rfl <| WD_pure (fun _ => (Run_fieldAddr fo28_3 (O rfl))) rfl rfl rfl rfl <| WD_op (fun w => CellsAt w ⟨b24, 3, none⟩ [(.int .i64 r21.2.2.2)]) ((hs.box (i := 0) rfl).part 3 rfl) (fun _ hJ => (Run_load1 (v := (.int .i64 r21.2.2.2)) Tryd.underlying3 rfl (O rfl) (fun _ => hJ))) rfl rfl rfl rfl <| WD_pure (fun _ => (Run_move (O rfl))) rfl rfl rfl rfl <| WD_pure (fun _ => (Run_move (O rfl))) rfl rfl rfl rfl <| ?_
  refine WD_loud (pend' := [(2, fun w => CellsAt w ⟨b24, 3, none⟩ [(.int .i64 r21.2.2.2)])]) rfl (by kernel_rfl) ?_
  obtain ⟨r30, hr31, hm⟩ := bind_some' hm
  refine WL_call (f := 77) (first := []) (cap := []) (xs := [(.tmp 35), (.tmp 36)]) (vs := [(.pointer (some ⟨b, 0, none⟩)), (.func (.func 98) #[] #[])]) (args := [(.pointer (some ⟨b, 0, none⟩)), (.func (.func 98) #[] #[])]) Tryd.call77 Opd.f (.cons (O rfl) (.cons (O rfl) .nil)) rfl rfl (ih_expr_read_lower_s15 (hs.re 8 [1, 2, 3, 6, 7, 0, 4, 5, 6, 7] rfl) hr31) ?_
  rintro _ w34 ⟨v32, R33, rfl, hs⟩
  replace hs := Sat.n9 (Γ := Φ) hs rfl
  refine WL_nil ?_
  refine At_QK (allJ_cons ((hs.box (i := 4) rfl).part 3 rfl) allJ_nil) ?_
  refine WD_loud (pend' := [(2, fun w => CellsAt w ⟨b24, 3, none⟩ [(.int .i64 r21.2.2.2)])]) rfl (by kernel_rfl) ?_
  replace hs := hs.freeze (i := 0) rfl
  refine WS_lit (A := RExpr) (xs := [r30.1]) (zs := [(.int .i64 0), (.int .i64 0), (.int .i64 0), (sl (none, 0, 0))]) (cells := [(.int .i64 r30.1.op), (.int .i64 r30.1.n), (.int .i64 r30.1.at_), (sl v32)]) (parts := [(0, (.tmp 37))]) hs Tryd.underlying49 ti51 rfl rfl rfl (.cons (O rfl) .nil) (by kernel_rfl) rfl (ARd.cons (A := RExpr) (c := [(.int .i64 r30.1.op), (.int .i64 r30.1.n), (.int .i64 r30.1.at_), (sl v32)]) (x := r30.1) (RExpr_closeE (⟨_, rfl, (hs.sl (i := 0) rfl)⟩)) ARd.nil) rfl ?_
  intro b35 w36 hs
  replace hs := Sat.n10 (Γ := Φ) hs rfl
  refine WL_nil ?_
  refine At_QK (allJ_cons ((hs.box (i := 5) rfl).part 3 rfl) allJ_nil) ?_
  refine WD_pure (fun _ => (Run_build (parts := [(0, (.tmp 32)), (2, (.tmp 34)), (3, (.tmp 38))]) (v := (.agg #[(.int .i64 r11.1), (.int .i64 0), (.int .i64 r21.2.2.2), (sl (some ⟨b35, 0, none⟩, 1, 1))])) (.cons (O rfl) (.cons (O rfl) (.cons (O rfl) .nil))) (fun _ => by kernel_rfl))) rfl rfl rfl rfl <| ?_
  refine WD_loud (pend' := []) rfl (by kernel_rfl) ?_
  refine WS_store (us := [(.int .i64 r11.1), (.int .i64 0), (.int .i64 r21.2.2.2), (sl (some ⟨b35, 0, none⟩, 1, 1))]) (vs' := [(.int .i64 r11.1), (.int .i64 0), (.int .i64 r21.2.2.2), (sl (some ⟨b35, 0, none⟩, 1, 1))]) hs 6 rfl ti51 (O rfl) (O rfl) rfl rfl rfl rfl rfl ?_
  intro w37 hs
  replace hs := Sat.n10 (Γ := Φ) hs rfl
  refine WL_nil ?_
  refine At_QK allJ_nil ?_
  refine WD_nil ?_
  refine At_then ?_
  refine WC_ret ?_
  refine At_r1 rfl (ResIs.cA (vs := [(.int .i64 r11.1), (.int .i64 0), (.int .i64 r21.2.2.2), (sl (some ⟨b35, 0, none⟩, 1, 1))]) rfl Tryd.underlying51 rfl ti51 ((hs.box (i := 6) rfl).part 0 rfl) rfl) ?_
  cases hm
  exact ⟨(some ⟨b35, 0, none⟩, 1, 1), [b35], rfl, (hs.re 10 [0, 2, 3, 4] rfl)⟩
end Go.Proofs.YtdhgpnejphlfpaaDoor
namespace Go.Proofs.YtdhgpnejphlfpaaDoor
open Go.Proofs
theorem expr_read_neg_s3_ok {k_expr_read_lower_s11 k_expr_read_lower_s15} (ih_expr_read_lower_s11 : ∀ {Φ : Ctx} {w : World} {l : Q3} {at_ : Int} {names : (List Str)} {deep : Int} {bad : Int} {place : Int} {b : Nat} {v2 : SLV} {R : List Nat} {v4 : SLV} {R5 : List Nat} {r : Q4}, Sat (box b 115 [(sl v2), (.int .i64 at_), (sl v4), (.int .i64 deep), (.int .i64 bad), (.int .i64 place)] :: osl Q1 28 (sl v2) l R :: osl RS 9 (sl v4) names R5 :: gl 0 (keysL.map S) :: gl 1 (textsL.map S) :: Φ) w → k_expr_read_lower_s11 (l, at_, names, deep, bad, place) = some r → CallsR Tryd.prog 77 [(.pointer (some ⟨b, 0, none⟩)), (.func (.func 78) #[] #[])] w (fun v w' => ∃ v3 : SLV, ∃ R4 : List Nat, v = (.agg #[(.int .i64 r.1.op), (.int .i64 r.1.n), (.int .i64 r.1.at_), (sl v3)]) ∧ Sat (osl RExpr 51 (sl v3) r.1.l R4 :: box b 115 [(sl v2), (.int .i64 r.2.1), (sl v4), (.int .i64 r.2.2.1), (.int .i64 r.2.2.2.1), (.int .i64 r.2.2.2.2)] :: osl Q1 28 (sl v2) l R :: osl RS 9 (sl v4) names R5 :: Φ) w')) (ih_expr_read_lower_s15 : ∀ {Φ : Ctx} {w : World} {l : Q3} {at_ : Int} {names : (List Str)} {deep : Int} {bad : Int} {place : Int} {b : Nat} {v2 : SLV} {R : List Nat} {v4 : SLV} {R5 : List Nat} {r : Q4}, Sat (box b 115 [(sl v2), (.int .i64 at_), (sl v4), (.int .i64 deep), (.int .i64 bad), (.int .i64 place)] :: osl Q1 28 (sl v2) l R :: osl RS 9 (sl v4) names R5 :: gl 0 (keysL.map S) :: gl 1 (textsL.map S) :: Φ) w → k_expr_read_lower_s15 (l, at_, names, deep, bad, place) = some r → CallsR Tryd.prog 77 [(.pointer (some ⟨b, 0, none⟩)), (.func (.func 98) #[] #[])] w (fun v w' => ∃ v3 : SLV, ∃ R4 : List Nat, v = (.agg #[(.int .i64 r.1.op), (.int .i64 r.1.n), (.int .i64 r.1.at_), (sl v3)]) ∧ Sat (osl RExpr 51 (sl v3) r.1.l R4 :: box b 115 [(sl v2), (.int .i64 r.2.1), (sl v4), (.int .i64 r.2.2.1), (.int .i64 r.2.2.2.1), (.int .i64 r.2.2.2.2)] :: osl Q1 28 (sl v2) l R :: osl RS 9 (sl v4) names R5 :: Φ) w')) {Φ : Ctx} {w : World} {l : Q3} {at_ : Int} {names : (List Str)} {deep : Int} {bad : Int} {place : Int} {b : Nat} {v2 : SLV} {R : List Nat} {v4 : SLV} {R5 : List Nat} {r : Q4} (hs : Sat (box b 115 [(sl v2), (.int .i64 at_), (sl v4), (.int .i64 deep), (.int .i64 bad), (.int .i64 place)] :: osl Q1 28 (sl v2) l R :: osl RS 9 (sl v4) names R5 :: gl 0 (keysL.map S) :: gl 1 (textsL.map S) :: Φ) w) (hm : expr_read_neg_s3 k_expr_read_lower_s11 k_expr_read_lower_s15 l at_ names deep bad place = some r) :
  CallsR Tryd.prog 98 [(.pointer (some ⟨b, 0, none⟩))] w (fun v w' => ∃ v3 : SLV, ∃ R4 : List Nat, v = (.agg #[(.int .i64 r.1.op), (.int .i64 r.1.n), (.int .i64 r.1.at_), (sl v3)]) ∧ Sat (osl RExpr 51 (sl v3) r.1.l R4 :: box b 115 [(sl v2), (.int .i64 r.2.1), (sl v4), (.int .i64 r.2.2.1), (.int .i64 r.2.2.2.1), (.int .i64 r.2.2.2.2)] :: osl Q1 28 (sl v2) l R :: osl RS 9 (sl v4) names R5 :: Φ) w') := by
 refine CallsX_enter Tryd.func98 rfl Tryd.ntmps98 rfl ?_
 unfold expr_read_neg_s3 at hm
 refine WC_seq <| WC_region ?_
 refine WS_alloc (zs := [(.int .i64 0), (.int .i64 0), (.int .i64 0), (sl (none, 0, 0))]) hs ti51 rfl rfl ?_
 intro b9 w10 hs
 replace hs := Sat.n6 (Γ := Φ) hs rfl
 refine WL_nil <| At_then <| WC_seq <| WC_region ?_
 refine W ?_
 refine WS_lit (A := (RI .i64)) (xs := [6]) (zs := [(.int .i64 0)]) (cells := [(.int .i64 6)]) (parts := [(0, (.const (.int .i64 6)))]) hs Tryd.underlying30 ti3 rfl rfl rfl (.cons Opd.c .nil) (by kernel_rfl) rfl (ARd.cons (A := (RI .i64)) (c := [(.int .i64 6)]) (x := 6) rfl ARd.nil) rfl ?_
 intro b11 w12 hs
 replace hs := Sat.n7 (Γ := Φ) hs rfl
 replace hs := hs.freeze (i := 0) rfl
 obtain ⟨r13, hr14, hm⟩ := bind_some' hm
 refine WL_call (f := 93) (first := []) (cap := []) (xs := [(.tmp 3), (.func 98), (.func 99), (.tmp 4)]) (vs := [(.pointer (some ⟨b, 0, none⟩)), (.func (.func 98) #[] #[]), (.func (.func 99) #[] #[]), (sl (some ⟨b11, 0, none⟩, 1, 1))]) (args := [(.pointer (some ⟨b, 0, none⟩)), (.func (.func 98) #[] #[]), (.func (.func 99) #[] #[]), (sl (some ⟨b11, 0, none⟩, 1, 1))]) Tryd.call93 Opd.f (.cons (O rfl) (.cons Opd.f (.cons Opd.f (.cons (O rfl) .nil)))) rfl rfl (expr_read_before_s6_ok (@ih_expr_read_lower_s11) (@ih_expr_read_lower_s15) (hs.re 7 [2, 0, 3, 4, 5, 6, 0, 1, 5, 6] rfl) hr14) ?_
 rintro _ w17 ⟨v15, R16, rfl, hs⟩
 replace hs := Sat.n8 (Γ := Φ) hs rfl
 refine WS_store (us := [(.int .i64 r13.1.op), (.int .i64 r13.1.n), (.int .i64 r13.1.at_), (sl v15)]) (vs' := [(.int .i64 r13.1.op), (.int .i64 r13.1.n), (.int .i64 r13.1.at_), (sl v15)]) hs 5 rfl ti51 (O rfl) (O rfl) rfl rfl rfl rfl rfl ?_
 intro w18 hs
 replace hs := Sat.n8 (Γ := Φ) hs rfl
 refine WL_nil <| At_then ?_
 refine WC_ret ?_
 refine At_r1 rfl (ResIs.cA (vs := [(.int .i64 r13.1.op), (.int .i64 r13.1.n), (.int .i64 r13.1.at_), (sl v15)]) rfl Tryd.underlying51 rfl ti51 ((hs.box (i := 5) rfl).part 0 rfl) rfl) ?_
 cases hm
 exact ⟨v15, R16, rfl, (hs.re 8 [0, 1, 2, 3] rfl)⟩
theorem expr_read_lower_s15_F_ok {k_expr_read_lower_s11 k_expr_read_lower_s15} (ih_expr_read_lower_s11 : ∀ {Φ : Ctx} {w : World} {l : Q3} {at_ : Int} {names : (List Str)} {deep : Int} {bad : Int} {place : Int} {b : Nat} {v2 : SLV} {R : List Nat} {v4 : SLV} {R5 : List Nat} {r : Q4}, Sat (box b 115 [(sl v2), (.int .i64 at_), (sl v4), (.int .i64 deep), (.int .i64 bad), (.int .i64 place)] :: osl Q1 28 (sl v2) l R :: osl RS 9 (sl v4) names R5 :: gl 0 (keysL.map S) :: gl 1 (textsL.map S) :: Φ) w → k_expr_read_lower_s11 (l, at_, names, deep, bad, place) = some r → CallsR Tryd.prog 77 [(.pointer (some ⟨b, 0, none⟩)), (.func (.func 78) #[] #[])] w (fun v w' => ∃ v3 : SLV, ∃ R4 : List Nat, v = (.agg #[(.int .i64 r.1.op), (.int .i64 r.1.n), (.int .i64 r.1.at_), (sl v3)]) ∧ Sat (osl RExpr 51 (sl v3) r.1.l R4 :: box b 115 [(sl v2), (.int .i64 r.2.1), (sl v4), (.int .i64 r.2.2.1), (.int .i64 r.2.2.2.1), (.int .i64 r.2.2.2.2)] :: osl Q1 28 (sl v2) l R :: osl RS 9 (sl v4) names R5 :: Φ) w')) (ih_expr_read_lower_s15 : ∀ {Φ : Ctx} {w : World} {l : Q3} {at_ : Int} {names : (List Str)} {deep : Int} {bad : Int} {place : Int} {b : Nat} {v2 : SLV} {R : List Nat} {v4 : SLV} {R5 : List Nat} {r : Q4}, Sat (box b 115 [(sl v2), (.int .i64 at_), (sl v4), (.int .i64 deep), (.int .i64 bad), (.int .i64 place)] :: osl Q1 28 (sl v2) l R :: osl RS 9 (sl v4) names R5 :: gl 0 (keysL.map S) :: gl 1 (textsL.map S) :: Φ) w → k_expr_read_lower_s15 (l, at_, names, deep, bad, place) = some r → CallsR Tryd.prog 77 [(.pointer (some ⟨b, 0, none⟩)), (.func (.func 98) #[] #[])] w (fun v w' => ∃ v3 : SLV, ∃ R4 : List Nat, v = (.agg #[(.int .i64 r.1.op), (.int .i64 r.1.n), (.int .i64 r.1.at_), (sl v3)]) ∧ Sat (osl RExpr 51 (sl v3) r.1.l R4 :: box b 115 [(sl v2), (.int .i64 r.2.1), (sl v4), (.int .i64 r.2.2.1), (.int .i64 r.2.2.2.1), (.int .i64 r.2.2.2.2)] :: osl Q1 28 (sl v2) l R :: osl RS 9 (sl v4) names R5 :: Φ) w')) {Φ : Ctx} {w : World} {l : Q3} {at_ : Int} {names : (List Str)} {deep : Int} {bad : Int} {place : Int} {b : Nat} {v2 : SLV} {R : List Nat} {v4 : SLV} {R5 : List Nat} {r : Q4} (hs : Sat (box b 115 [(sl v2), (.int .i64 at_), (sl v4), (.int .i64 deep), (.int .i64 bad), (.int .i64 place)] :: osl Q1 28 (sl v2) l R :: osl RS 9 (sl v4) names R5 :: gl 0 (keysL.map S) :: gl 1 (textsL.map S) :: Φ) w) (hm : expr_read_lower_s15_F k_expr_read_lower_s11 k_expr_read_lower_s15 l at_ names deep bad place = some r) :
  CallsR Tryd.prog 77 [(.pointer (some ⟨b, 0, none⟩)), (.func (.func 98) #[] #[])] w (fun v w' => ∃ v3 : SLV, ∃ R4 : List Nat, v = (.agg #[(.int .i64 r.1.op), (.int .i64 r.1.n), (.int .i64 r.1.at_), (sl v3)]) ∧ Sat (osl RExpr 51 (sl v3) r.1.l R4 :: box b 115 [(sl v2), (.int .i64 r.2.1), (sl v4), (.int .i64 r.2.2.1), (.int .i64 r.2.2.2.1), (.int .i64 r.2.2.2.2)] :: osl Q1 28 (sl v2) l R :: osl RS 9 (sl v4) names R5 :: Φ) w') := by
 refine CallsX_enter Tryd.func77 rfl Tryd.ntmps77 rfl ?_
 unfold expr_read_lower_s15_F at hm
 refine WC_seq <| WC_region ?_
 refine WS_alloc (zs := [(.int .i64 0), (.int .i64 0), (.int .i64 0), (sl (none, 0, 0))]) hs ti51 rfl rfl ?_
 intro b9 w10 hs
 replace hs := Sat.n6 (Γ := Φ) hs rfl
 refine WL_nil <| At_then <| WC_seq <| WC_seq <| WC_region ?_
 iterate 5 refine W ?_
 refine WL_nil <| At_then ?_
 refine WC_cond (O rfl) (fun hc11 => ?_) (fun hc11 => ?_)
 ·
  replace hm := bif_t hc11 hm
  refine WC_seq <| WC_region ?_
  refine W ?_
  obtain ⟨r12, hr13, hm⟩ := bind_some' hm
  refine WL_call (f := 80) (first := []) (cap := []) (xs := [(.tmp 11), (.const (.int .i64 9))]) (vs := [(.pointer (some ⟨b, 0, none⟩)), (.int .i64 9)]) (args := [(.pointer (some ⟨b, 0, none⟩)), (.int .i64 9)]) Tryd.call80 Opd.f (.cons (O rfl) (.cons Opd.c .nil)) rfl rfl (expr_read_fail_s3_ok (hs.re 6 [1, 2, 3, 0, 4, 5] rfl) hr13) ?_
  rintro _ w16 ⟨v14, R15, rfl, hs⟩
  replace hs := Sat.n7 (Γ := Φ) hs rfl
  refine WS_store (us := [(.int .i64 r12.1.op), (.int .i64 r12.1.n), (.int .i64 r12.1.at_), (sl v14)]) (vs' := [(.int .i64 r12.1.op), (.int .i64 r12.1.n), (.int .i64 r12.1.at_), (sl v14)]) hs 4 rfl ti51 (O rfl) (O rfl) rfl rfl rfl rfl rfl ?_
  intro w17 hs
  replace hs := Sat.n7 (Γ := Φ) hs rfl
  refine WL_nil <| At_then ?_
  refine WC_ret ?_
  refine At_then_ret <| ?_
  refine At_r1 rfl (ResIs.cA (vs := [(.int .i64 r12.1.op), (.int .i64 r12.1.n), (.int .i64 r12.1.at_), (sl v14)]) rfl Tryd.underlying51 rfl ti51 ((hs.box (i := 4) rfl).part 0 rfl) rfl) ?_
  cases hm
  exact ⟨v14, R15, rfl, (hs.re 7 [0, 1, 2, 3] rfl)⟩
 ·
  replace hm := bif_f hc11 hm
  refine WC_skip ?_
  refine At_then <| WC_seq <| WC_region ?_
  iterate 7 refine W ?_
  refine WS_store (us := [(.int .i64 (IntKind.i64.wrap (deep + 1)))]) (vs' := [(sl v2), (.int .i64 at_), (sl v4), (.int .i64 (IntKind.i64.wrap (deep + 1))), (.int .i64 bad), (.int .i64 place)]) hs 1 rfl ti3 (O rfl) (O rfl) rfl rfl rfl rfl rfl ?_
  intro w18 hs
  replace hs := Sat.n6 (Γ := Φ) hs rfl
  refine WL_nil <| At_then <| WC_seq <| WC_region ?_
  iterate 2 refine W ?_
  obtain ⟨r19, hr20, hm⟩ := bind_some' hm
  refine WL_call (f := 98) (first := []) (cap := []) (xs := [(.tmp 21)]) (vs := [(.pointer (some ⟨b, 0, none⟩))]) (args := [(.pointer (some ⟨b, 0, none⟩))]) Tryd.call98 (O rfl) (.cons (O rfl) .nil) rfl rfl (expr_read_neg_s3_ok (@ih_expr_read_lower_s11) (@ih_expr_read_lower_s15) (hs.re 6 [1, 2, 3, 4, 5, 0, 4, 5] rfl) hr20) ?_
  rintro _ w23 ⟨v21, R22, rfl, hs⟩
  replace hs := Sat.n7 (Γ := Φ) hs rfl
  refine WS_alloc (zs := [(.int .i64 0), (.int .i64 0), (.int .i64 0), (sl (none, 0, 0))]) hs ti51 rfl rfl ?_
  intro b24 w25 hs
  replace hs := Sat.n8 (Γ := Φ) hs rfl
  refine WS_store (us := [(.int .i64 r19.1.op), (.int .i64 r19.1.n), (.int .i64 r19.1.at_), (sl v21)]) (vs' := [(.int .i64 r19.1.op), (.int .i64 r19.1.n), (.int .i64 r19.1.at_), (sl v21)]) hs 0 rfl ti51 (O rfl) (O rfl) rfl rfl rfl rfl rfl ?_
  intro w26 hs
  replace hs := Sat.n8 (Γ := Φ) hs rfl
  refine WL_nil <| At_then <| WC_seq <| WC_region ?_
  iterate 7 refine W ?_
  refine WS_store (us := [(.int .i64 (IntKind.i64.wrap (r19.2.2.1 - 1)))]) (vs' := [(sl v2), (.int .i64 r19.2.1), (sl v4), (.int .i64 (IntKind.i64.wrap (r19.2.2.1 - 1))), (.int .i64 r19.2.2.2.1), (.int .i64 r19.2.2.2.2)]) hs 2 rfl ti3 (O rfl) (O rfl) rfl rfl rfl rfl rfl ?_
  intro w27 hs
  replace hs := Sat.n8 (Γ := Φ) hs rfl
  refine WL_nil <| At_then <| WC_seq <| WC_region ?_
  refine Wo (Run_loadA (vs := [(.int .i64 r19.1.op), (.int .i64 r19.1.n), (.int .i64 r19.1.at_), (sl v21)]) Tryd.underlying51 rfl ti51 (O rfl) (fun _ => (hs.box (i := 0) rfl).part 0 rfl) rfl) rfl <| ?_
  refine WS_store (us := [(.int .i64 r19.1.op), (.int .i64 r19.1.n), (.int .i64 r19.1.at_), (sl v21)]) (vs' := [(.int .i64 r19.1.op), (.int .i64 r19.1.n), (.int .i64 r19.1.at_), (sl v21)]) hs 5 rfl ti51 (O rfl) (O rfl) rfl rfl rfl rfl rfl ?_
  intro w28 hs
  replace hs := Sat.n8 (Γ := Φ) hs rfl
  refine WL_nil <| At_then ?_
  refine WC_ret ?_
  refine At_r1 rfl (ResIs.cA (vs := [(.int .i64 r19.1.op), (.int .i64 r19.1.n), (.int .i64 r19.1.at_), (sl v21)]) rfl Tryd.underlying51 rfl ti51 ((hs.box (i := 5) rfl).part 0 rfl) rfl) ?_
  cases hm
  exact ⟨v21, R22, rfl, (hs.re 8 [1, 2, 3, 4] rfl)⟩
theorem expr_read_lower_s15_ok {k_expr_read_lower_s11} (ih_expr_read_lower_s11 : ∀ {Φ : Ctx} {w : World} {l : Q3} {at_ : Int} {names : (List Str)} {deep : Int} {bad : Int} {place : Int} {b : Nat} {v2 : SLV} {R : List Nat} {v4 : SLV} {R5 : List Nat} {r : Q4}, Sat (box b 115 [(sl v2), (.int .i64 at_), (sl v4), (.int .i64 deep), (.int .i64 bad), (.int .i64 place)] :: osl Q1 28 (sl v2) l R :: osl RS 9 (sl v4) names R5 :: gl 0 (keysL.map S) :: gl 1 (textsL.map S) :: Φ) w → k_expr_read_lower_s11 (l, at_, names, deep, bad, place) = some r → CallsR Tryd.prog 77 [(.pointer (some ⟨b, 0, none⟩)), (.func (.func 78) #[] #[])] w (fun v w' => ∃ v3 : SLV, ∃ R4 : List Nat, v = (.agg #[(.int .i64 r.1.op), (.int .i64 r.1.n), (.int .i64 r.1.at_), (sl v3)]) ∧ Sat (osl RExpr 51 (sl v3) r.1.l R4 :: box b 115 [(sl v2), (.int .i64 r.2.1), (sl v4), (.int .i64 r.2.2.1), (.int .i64 r.2.2.2.1), (.int .i64 r.2.2.2.2)] :: osl Q1 28 (sl v2) l R :: osl RS 9 (sl v4) names R5 :: Φ) w')) {Φ : Ctx} {w : World} {l : Q3} {at_ : Int} {names : (List Str)} {deep : Int} {bad : Int} {place : Int} {b : Nat} {v2 : SLV} {R : List Nat} {v4 : SLV} {R5 : List Nat} {r : Q4} (hs : Sat (box b 115 [(sl v2), (.int .i64 at_), (sl v4), (.int .i64 deep), (.int .i64 bad), (.int .i64 place)] :: osl Q1 28 (sl v2) l R :: osl RS 9 (sl v4) names R5 :: gl 0 (keysL.map S) :: gl 1 (textsL.map S) :: Φ) w) (hm : expr_read_lower_s15 k_expr_read_lower_s11 l at_ names deep bad place = some r) :
  CallsR Tryd.prog 77 [(.pointer (some ⟨b, 0, none⟩)), (.func (.func 98) #[] #[])] w (fun v w' => ∃ v3 : SLV, ∃ R4 : List Nat, v = (.agg #[(.int .i64 r.1.op), (.int .i64 r.1.n), (.int .i64 r.1.at_), (sl v3)]) ∧ Sat (osl RExpr 51 (sl v3) r.1.l R4 :: box b 115 [(sl v2), (.int .i64 r.2.1), (sl v4), (.int .i64 r.2.2.1), (.int .i64 r.2.2.2.1), (.int .i64 r.2.2.2.2)] :: osl Q1 28 (sl v2) l R :: osl RS 9 (sl v4) names R5 :: Φ) w') := by
 have key : ∀ (N : Nat) {Φ : Ctx} {w : World} {l : Q3} {at_ : Int} {names : (List Str)} {deep : Int} {bad : Int} {place : Int} {b : Nat} {v2 : SLV} {R : List Nat} {v4 : SLV} {R5 : List Nat} {r : Q4}, Sat (box b 115 [(sl v2), (.int .i64 at_), (sl v4), (.int .i64 deep), (.int .i64 bad), (.int .i64 place)] :: osl Q1 28 (sl v2) l R :: osl RS 9 (sl v4) names R5 :: gl 0 (keysL.map S) :: gl 1 (textsL.map S) :: Φ) w → fixN (fun k (s : (Q3 × Int × (List Str) × Int × Int × Int)) => expr_read_lower_s15_F k_expr_read_lower_s11 k s.1 s.2.1 s.2.2.1 s.2.2.2.1 s.2.2.2.2.1 s.2.2.2.2.2) N (l, at_, names, deep, bad, place) = some r → CallsR Tryd.prog 77 [(.pointer (some ⟨b, 0, none⟩)), (.func (.func 98) #[] #[])] w (fun v w' => ∃ v3 : SLV, ∃ R4 : List Nat, v = (.agg #[(.int .i64 r.1.op), (.int .i64 r.1.n), (.int .i64 r.1.at_), (sl v3)]) ∧ Sat (osl RExpr 51 (sl v3) r.1.l R4 :: box b 115 [(sl v2), (.int .i64 r.2.1), (sl v4), (.int .i64 r.2.2.1), (.int .i64 r.2.2.2.1), (.int .i64 r.2.2.2.2)] :: osl Q1 28 (sl v2) l R :: osl RS 9 (sl v4) names R5 :: Φ) w') := by
  intro N
  induction N with
  | zero => intros; rename_i h; cases h
  | succ N ih => intros; rename_i hs hm; rw [fixN_succ] at hm; exact expr_read_lower_s15_F_ok (@ih_expr_read_lower_s11) (@ih) hs hm
 unfold expr_read_lower_s15 at hm
 exact key FUEL hs hm
theorem expr_read_deepNeg_s3_ok {k_expr_read_lower_s11} (ih_expr_read_lower_s11 : ∀ {Φ : Ctx} {w : World} {l : Q3} {at_ : Int} {names : (List Str)} {deep : Int} {bad : Int} {place : Int} {b : Nat} {v2 : SLV} {R : List Nat} {v4 : SLV} {R5 : List Nat} {r : Q4}, Sat (box b 115 [(sl v2), (.int .i64 at_), (sl v4), (.int .i64 deep), (.int .i64 bad), (.int .i64 place)] :: osl Q1 28 (sl v2) l R :: osl RS 9 (sl v4) names R5 :: gl 0 (keysL.map S) :: gl 1 (textsL.map S) :: Φ) w → k_expr_read_lower_s11 (l, at_, names, deep, bad, place) = some r → CallsR Tryd.prog 77 [(.pointer (some ⟨b, 0, none⟩)), (.func (.func 78) #[] #[])] w (fun v w' => ∃ v3 : SLV, ∃ R4 : List Nat, v = (.agg #[(.int .i64 r.1.op), (.int .i64 r.1.n), (.int .i64 r.1.at_), (sl v3)]) ∧ Sat (osl RExpr 51 (sl v3) r.1.l R4 :: box b 115 [(sl v2), (.int .i64 r.2.1), (sl v4), (.int .i64 r.2.2.1), (.int .i64 r.2.2.2.1), (.int .i64 r.2.2.2.2)] :: osl Q1 28 (sl v2) l R :: osl RS 9 (sl v4) names R5 :: Φ) w')) {Φ : Ctx} {w : World} {l : Q3} {at_ : Int} {names : (List Str)} {deep : Int} {bad : Int} {place : Int} {b : Nat} {v2 : SLV} {R : List Nat} {v4 : SLV} {R5 : List Nat} {r : Q4} (hs : Sat (box b 115 [(sl v2), (.int .i64 at_), (sl v4), (.int .i64 deep), (.int .i64 bad), (.int .i64 place)] :: osl Q1 28 (sl v2) l R :: osl RS 9 (sl v4) names R5 :: gl 0 (keysL.map S) :: gl 1 (textsL.map S) :: Φ) w) (hm : expr_read_deepNeg_s3 k_expr_read_lower_s11 l at_ names deep bad place = some r) :
  CallsR Tryd.prog 97 [(.pointer (some ⟨b, 0, none⟩))] w (fun v w' => ∃ v3 : SLV, ∃ R4 : List Nat, v = (.agg #[(.int .i64 r.1.op), (.int .i64 r.1.n), (.int .i64 r.1.at_), (sl v3)]) ∧ Sat (osl RExpr 51 (sl v3) r.1.l R4 :: box b 115 [(sl v2), (.int .i64 r.2.1), (sl v4), (.int .i64 r.2.2.1), (.int .i64 r.2.2.2.1), (.int .i64 r.2.2.2.2)] :: osl Q1 28 (sl v2) l R :: osl RS 9 (sl v4) names R5 :: Φ) w') := by
 refine CallsX_enter Tryd.func97 rfl Tryd.ntmps97 rfl ?_
 unfold expr_read_deepNeg_s3 at hm
 refine WC_seq <| WC_region ?_
 refine WS_alloc (zs := [(.int .i64 0), (.int .i64 0), (.int .i64 0), (sl (none, 0, 0))]) hs ti51 rfl rfl ?_
 intro b9 w10 hs
 replace hs := Sat.n6 (Γ := Φ) hs rfl
 refine WL_nil <| At_then <| WC_seq <| WC_region ?_
 refine W ?_
 obtain ⟨r11, hr12, hm⟩ := bind_some' hm
 refine WL_call (f := 77) (first := []) (cap := []) (xs := [(.tmp 3), (.func 98)]) (vs := [(.pointer (some ⟨b, 0, none⟩)), (.func (.func 98) #[] #[])]) (args := [(.pointer (some ⟨b, 0, none⟩)), (.func (.func 98) #[] #[])]) Tryd.call77 Opd.f (.cons (O rfl) (.cons Opd.f .nil)) rfl rfl (expr_read_lower_s15_ok (@ih_expr_read_lower_s11) (hs.re 6 [1, 2, 3, 4, 5, 0, 4, 5] rfl) hr12) ?_
 rintro _ w15 ⟨v13, R14, rfl, hs⟩
 replace hs := Sat.n7 (Γ := Φ) hs rfl
 refine WS_store (us := [(.int .i64 r11.1.op), (.int .i64 r11.1.n), (.int .i64 r11.1.at_), (sl v13)]) (vs' := [(.int .i64 r11.1.op), (.int .i64 r11.1.n), (.int .i64 r11.1.at_), (sl v13)]) hs 4 rfl ti51 (O rfl) (O rfl) rfl rfl rfl rfl rfl ?_
 intro w16 hs
 replace hs := Sat.n7 (Γ := Φ) hs rfl
 refine WL_nil <| At_then ?_
 refine WC_ret ?_
 refine At_r1 rfl (ResIs.cA (vs := [(.int .i64 r11.1.op), (.int .i64 r11.1.n), (.int .i64 r11.1.at_), (sl v13)]) rfl Tryd.underlying51 rfl ti51 ((hs.box (i := 4) rfl).part 0 rfl) rfl) ?_
 cases hm
 exact ⟨v13, R14, rfl, (hs.re 7 [0, 1, 2, 3] rfl)⟩
theorem expr_read_left_s12_ok {k_expr_read_lower_s11} (ih_expr_read_lower_s11 : ∀ {Φ : Ctx} {w : World} {l : Q3} {at_ : Int} {names : (List Str)} {deep : Int} {bad : Int} {place : Int} {b : Nat} {v2 : SLV} {R : List Nat} {v4 : SLV} {R5 : List Nat} {r : Q4}, Sat (box b 115 [(sl v2), (.int .i64 at_), (sl v4), (.int .i64 deep), (.int .i64 bad), (.int .i64 place)] :: osl Q1 28 (sl v2) l R :: osl RS 9 (sl v4) names R5 :: gl 0 (keysL.map S) :: gl 1 (textsL.map S) :: Φ) w → k_expr_read_lower_s11 (l, at_, names, deep, bad, place) = some r → CallsR Tryd.prog 77 [(.pointer (some ⟨b, 0, none⟩)), (.func (.func 78) #[] #[])] w (fun v w' => ∃ v3 : SLV, ∃ R4 : List Nat, v = (.agg #[(.int .i64 r.1.op), (.int .i64 r.1.n), (.int .i64 r.1.at_), (sl v3)]) ∧ Sat (osl RExpr 51 (sl v3) r.1.l R4 :: box b 115 [(sl v2), (.int .i64 r.2.1), (sl v4), (.int .i64 r.2.2.1), (.int .i64 r.2.2.2.1), (.int .i64 r.2.2.2.2)] :: osl Q1 28 (sl v2) l R :: osl RS 9 (sl v4) names R5 :: Φ) w')) {Φ : Ctx} {w : World} {ops : (List Int)} {l : Q3} {at_ : Int} {names : (List Str)} {deep : Int} {bad : Int} {place : Int} {b : Nat} {v2 : SLV} {v4 : SLV} {R : List Nat} {v6 : SLV} {R7 : List Nat} {r : Q4} (hs : Sat (box b 115 [(sl v4), (.int .i64 at_), (sl v6), (.int .i64 deep), (.int .i64 bad), (.int .i64 place)] :: imm Q8 [sl v2] ops :: osl Q1 28 (sl v4) l R :: osl RS 9 (sl v6) names R7 :: gl 0 (keysL.map S) :: gl 1 (textsL.map S) :: Φ) w) (hm : expr_read_left_s12 k_expr_read_lower_s11 ops l at_ names deep bad place = some r) :
  CallsR Tryd.prog 87 [(.pointer (some ⟨b, 0, none⟩)), (.func (.func 97) #[] #[]), (sl v2)] w (fun v w' => ∃ v3 : SLV, ∃ R4 : List Nat, v = (.agg #[(.int .i64 r.1.op), (.int .i64 r.1.n), (.int .i64 r.1.at_), (sl v3)]) ∧ Sat (osl RExpr 51 (sl v3) r.1.l R4 :: box b 115 [(sl v4), (.int .i64 r.2.1), (sl v6), (.int .i64 r.2.2.1), (.int .i64 r.2.2.2.1), (.int .i64 r.2.2.2.2)] :: osl Q1 28 (sl v4) l R :: osl RS 9 (sl v6) names R7 :: Φ) w') := by
 refine CallsX_enter Tryd.func87 rfl Tryd.ntmps87 rfl ?_
 unfold expr_read_left_s12 at hm
 refine WC_seq <| WC_region ?_
 refine WS_alloc (zs := [(.int .i64 0), (.int .i64 0), (.int .i64 0), (sl (none, 0, 0))]) hs ti51 rfl rfl ?_
 intro b9 w10 hs
 replace hs := Sat.n7 (Γ := Φ) hs rfl
 refine WL_nil <| At_then <| WC_seq <| WC_region ?_
 iterate 2 refine W ?_
 obtain ⟨r11, hr12, hm⟩ := bind_some' hm
 refine WL_call (f := 97) (first := []) (cap := []) (xs := [(.tmp 13)]) (vs := [(.pointer (some ⟨b, 0, none⟩))]) (args := [(.pointer (some ⟨b, 0, none⟩))]) Tryd.call97 (O rfl) (.cons (O rfl) .nil) rfl rfl (expr_read_deepNeg_s3_ok (@ih_expr_read_lower_s11) (hs.re 7 [1, 3, 4, 5, 6, 0, 2, 5, 6] rfl) hr12) ?_
 rintro _ w15 ⟨v13, R14, rfl, hs⟩
 replace hs := Sat.n8 (Γ := Φ) hs rfl
 refine WS_alloc (zs := [(.int .i64 0), (.int .i64 0), (.int .i64 0), (sl (none, 0, 0))]) hs ti51 rfl rfl ?_
 intro b16 w17 hs
 replace hs := Sat.n9 (Γ := Φ) hs rfl
 refine WS_store (us := [(.int .i64 r11.1.op), (.int .i64 r11.1.n), (.int .i64 r11.1.at_), (sl v13)]) (vs' := [(.int .i64 r11.1.op), (.int .i64 r11.1.n), (.int .i64 r11.1.at_), (sl v13)]) hs 0 rfl ti51 (O rfl) (O rfl) rfl rfl rfl rfl rfl ?_
 intro w18 hs
 replace hs := Sat.n9 (Γ := Φ) hs rfl
 refine WL_nil <| At_then <| WC_seq ?_
 refine WC_block ?_
 refine WC_loop (σ := Int × Int × Int × Int × Int × Int × Int × (List Ex)) (γ := SLV × List Nat) (F := (expr_read_left_s12_L1 k_expr_read_lower_s11 ops l names)) (N := FUEL) (s0 := (r11.2.1, r11.2.2.1, r11.2.2.2.1, r11.2.2.2.2, r11.1.op, r11.1.n, r11.1.at_, r11.1.l)) (r := r) (fun ⟨c20, c21, c22, c23, c24, c25, c26, c27⟩ ⟨v28, R29⟩ w19 => Sat (box b 115 [(sl v4), (.int .i64 c20), (sl v6), (.int .i64 c21), (.int .i64 c22), (.int .i64 c23)] :: osl Q1 28 (sl v4) l R :: osl RS 9 (sl v6) names R7 :: imm Q8 [sl v2] ops :: box b9 51 [(.int .i64 0), (.int .i64 0), (.int .i64 0), (sl (none, 0, 0))] :: box b16 51 [(.int .i64 c24), (.int .i64 c25), (.int .i64 c26), (sl v28)] :: osl RExpr 51 (sl v28) c27 R29 :: gl 0 (keysL.map S) :: gl 1 (textsL.map S) :: Φ) w19) (fun ⟨c20, c21, c22, c23, c24, c25, c26, c27⟩ ⟨v28, R29⟩ => [(0, true, (.pointer (some ⟨b, 0, none⟩))), (1, true, (.func (.func 97) #[] #[])), (2, true, (sl v2)), (6, true, (.pointer (some ⟨b9, 0, none⟩))), (7, true, (.pointer (some ⟨b16, 0, none⟩)))]) hm (v13, R14) (hs.re 9 [2, 3, 4, 6, 5, 0, 1, 7, 8] rfl) rfl ?_
 rintro again30 ⟨c20, c21, c22, c23, c24, c25, c26, c27⟩ ⟨v28, R29⟩ w19 hm hs
 unfold expr_read_left_s12_L1 at hm
 dsimp only at hm
 refine WC_seq <| WC_seq <| WC_region ?_
 iterate 5 refine W ?_
 refine WL_nil <| At_then ?_
 refine WC_cond (O rfl) (fun hc31 => ?_) (fun hc31 => ?_)
 ·
  replace hm := bif_t hc31 hm
  refine WC_skip ?_
  refine At_then ?_
  refine WC_block ?_
  refine WC_seq <| WC_region ?_
  iterate 2 refine W ?_
  obtain ⟨r32, hr33, hm⟩ := bind_some' hm
  refine WL_call (f := 83) (first := []) (cap := []) (xs := [(.tmp 21), (.tmp 22)]) (vs := [(.pointer (some ⟨b, 0, none⟩)), (sl v2)]) (args := [(.pointer (some ⟨b, 0, none⟩)), (sl v2)]) Tryd.call83 Opd.f (.cons (O rfl) (.cons (O rfl) .nil)) rfl rfl (expr_read_is_s3_ok (hs.re 9 [0, 3, 1, 2, 7, 8, 3, 4, 5, 6, 7, 8] rfl) hr33) ?_
  rintro _ w34 ⟨rfl, hs⟩
  replace hs := Sat.n9 (Γ := Φ) hs rfl
  iterate 5 refine W ?_
  refine WL_nil <| At_then <| WC_seq <| WC_seq <| WC_region ?_
  iterate 2 refine W ?_
  refine WL_nil <| At_then ?_
  refine WC_cond (O rfl) (fun hc35 => ?_) (fun hc35 => ?_)
  ·
   replace hm := bif_t hc35 hm
   refine WC_exit ?_
   refine At_then_exit <| At_blk_other rfl <| At_then_exit <| At_blk_here <| ?_
   refine At_then <| WC_seq <| WC_region ?_
   refine Wo (Run_loadA (vs := [(.int .i64 c24), (.int .i64 c25), (.int .i64 c26), (sl v28)]) Tryd.underlying51 rfl ti51 (O rfl) (fun _ => (hs.box (i := 5) rfl).part 0 rfl) rfl) rfl <| ?_
   refine WS_store (us := [(.int .i64 c24), (.int .i64 c25), (.int .i64 c26), (sl v28)]) (vs' := [(.int .i64 c24), (.int .i64 c25), (.int .i64 c26), (sl v28)]) hs 4 rfl ti51 (O rfl) (O rfl) rfl rfl rfl rfl rfl ?_
   intro w36 hs
   replace hs := Sat.n9 (Γ := Φ) hs rfl
   refine WL_nil <| At_then ?_
   refine WC_ret ?_
   refine At_r1 rfl (ResIs.cA (vs := [(.int .i64 c24), (.int .i64 c25), (.int .i64 c26), (sl v28)]) rfl Tryd.underlying51 rfl ti51 ((hs.box (i := 4) rfl).part 0 rfl) rfl) ?_
   cases hm
   exact ⟨v28, R29, rfl, (hs.re 9 [6, 0, 1, 2] rfl)⟩
  ·
   replace hm := bif_f hc35 hm
   refine WC_skip ?_
   refine At_then <| WC_seq <| WC_region ?_
   refine W ?_
   obtain ⟨r37, hr38, hm⟩ := bind_some' hm
   refine WL_call (f := 84) (first := []) (cap := []) (xs := [(.tmp 28)]) (vs := [(.pointer (some ⟨b, 0, none⟩))]) (args := [(.pointer (some ⟨b, 0, none⟩))]) Tryd.call84 Opd.f (.cons (O rfl) .nil) rfl rfl (expr_read_next_s3_ok (hs.re 9 [0, 1, 2, 3, 4, 5, 6, 7, 8] rfl) hr38) ?_
   rintro _ w39 ⟨rfl, hs⟩
   replace hs := Sat.n9 (Γ := Φ) hs rfl
   refine WS_alloc (zs := [(.int .i64 0), (S []), (.int .i64 0), (.int .i64 0)]) hs ti28 rfl rfl ?_
   intro b40 w41 hs
   replace hs := Sat.n10 (Γ := Φ) hs rfl
   refine WS_store (us := [(.int .i64 r37.1), (S r37.2.1), (.int .i64 r37.2.2.1), (.int .i64 r37.2.2.2)]) (vs' := [(.int .i64 r37.1), (S r37.2.1), (.int .i64 r37.2.2.1), (.int .i64 r37.2.2.2)]) hs 0 rfl ti28 (O rfl) (O rfl) rfl rfl rfl rfl rfl ?_
   intro w42 hs
   replace hs := Sat.n10 (Γ := Φ) hs rfl
   refine WL_nil <| At_then <| WC_seq <| WC_region ?_
   iterate 7 refine W ?_
   refine WS_store (us := [(.int .i64 (IntKind.i64.wrap (c20 + 1)))]) (vs' := [(sl v4), (.int .i64 (IntKind.i64.wrap (c20 + 1))), (sl v6), (.int .i64 c21), (.int .i64 c22), (.int .i64 c23)]) hs 1 rfl ti3 (O rfl) (O rfl) rfl rfl rfl rfl rfl ?_
   intro w43 hs
   replace hs := Sat.n10 (Γ := Φ) hs rfl
   refine WL_nil <| At_then <| WC_seq <| WC_region ?_
   iterate 2 refine W ?_
   obtain ⟨r44, hr45, hm⟩ := bind_some' hm
   refine WL_call (f := 97) (first := []) (cap := []) (xs := [(.tmp 38)]) (vs := [(.pointer (some ⟨b, 0, none⟩))]) (args := [(.pointer (some ⟨b, 0, none⟩))]) Tryd.call97 (O rfl) (.cons (O rfl) .nil) rfl rfl (expr_read_deepNeg_s3_ok (@ih_expr_read_lower_s11) (hs.re 10 [1, 2, 3, 8, 9, 0, 4, 5, 6, 7, 8, 9] rfl) hr45) ?_
   rintro _ w48 ⟨v46, R47, rfl, hs⟩
   replace hs := Sat.n11 (Γ := Φ) hs rfl
   refine WS_alloc (zs := [(.int .i64 0), (.int .i64 0), (.int .i64 0), (sl (none, 0, 0))]) hs ti51 rfl rfl ?_
   intro b49 w50 hs
   replace hs := Sat.n12 (Γ := Φ) hs rfl
   refine WS_store (us := [(.int .i64 r44.1.op), (.int .i64 r44.1.n), (.int .i64 r44.1.at_), (sl v46)]) (vs' := [(.int .i64 r44.1.op), (.int .i64 r44.1.n), (.int .i64 r44.1.at_), (sl v46)]) hs 0 rfl ti51 (O rfl) (O rfl) rfl rfl rfl rfl rfl ?_
   intro w51 hs
   replace hs := Sat.n12 (Γ := Φ) hs rfl
   refine WL_nil <| At_then <| WC_region ?_
   iterate 3 refine W ?_
   refine Wo (Run_loadA (vs := [(.int .i64 c24), (.int .i64 c25), (.int .i64 c26), (sl v28)]) Tryd.underlying51 rfl ti51 (O rfl) (fun _ => (hs.box (i := 8) rfl).part 0 rfl) rfl) rfl <| Wo (Run_loadA (vs := [(.int .i64 r44.1.op), (.int .i64 r44.1.n), (.int .i64 r44.1.at_), (sl v46)]) Tryd.underlying51 rfl ti51 (O rfl) (fun _ => (hs.box (i := 0) rfl).part 0 rfl) rfl) rfl <| ?_
   replace hs := hs.freeze (i := 9) rfl
   replace hs := hs.freeze (i := 1) rfl
   refine WS_lit (A := RExpr) (xs := [(Ex.mk c24 c25 c26 c27), r44.1]) (zs := [(.int .i64 0), (.int .i64 0), (.int .i64 0), (sl (none, 0, 0))]) (cells := [(.int .i64 c24), (.int .i64 c25), (.int .i64 c26), (sl v28), (.int .i64 r44.1.op), (.int .i64 r44.1.n), (.int .i64 r44.1.at_), (sl v46)]) (parts := [(0, (.tmp 43)), (1, (.tmp 44))]) hs Tryd.underlying49 ti51 rfl rfl rfl (.cons (O rfl) (.cons (O rfl) .nil)) (by kernel_rfl) rfl (ARd.cons (A := RExpr) (c := [(.int .i64 c24), (.int .i64 c25), (.int .i64 c26), (sl v28)]) (x := (Ex.mk c24 c25 c26 c27)) (RExpr_close (⟨_, rfl, (hs.sl (i := 9) rfl)⟩)) (ARd.cons (A := RExpr) (c := [(.int .i64 r44.1.op), (.int .i64 r44.1.n), (.int .i64 r44.1.at_), (sl v46)]) (x := r44.1) (RExpr_closeE (⟨_, rfl, (hs.sl (i := 1) rfl)⟩)) ARd.nil)) rfl ?_
   intro b52 w53 hs
   replace hs := Sat.n13 (Γ := Φ) hs rfl
   refine Wo (Run_build (parts := [(0, (.tmp 40)), (2, (.tmp 42)), (3, (.tmp 45))]) (v := (.agg #[(.int .i64 r32.1), (.int .i64 0), (.int .i64 r37.2.2.2), (sl (some ⟨b52, 0, none⟩, 2, 2))])) (.cons (O rfl) (.cons (O rfl) (.cons (O rfl) .nil))) (fun _ => by kernel_rfl)) rfl <| ?_
   refine WS_store (us := [(.int .i64 r32.1), (.int .i64 0), (.int .i64 r37.2.2.2), (sl (some ⟨b52, 0, none⟩, 2, 2))]) (vs' := [(.int .i64 r32.1), (.int .i64 0), (.int .i64 r37.2.2.2), (sl (some ⟨b52, 0, none⟩, 2, 2))]) hs 9 rfl ti51 (O rfl) (O rfl) rfl rfl rfl rfl rfl ?_
   intro w54 hs
   replace hs := Sat.n13 (Γ := Φ) hs rfl
   refine WL_nil ?_
   refine At_blk_normal ?_
   exact At_again (r44.2.1, r44.2.2.1, r44.2.2.2.1, r44.2.2.2.2, r32.1, 0, r37.2.2.2, ([(Ex.mk c24 c25 c26 c27), r44.1] : List Ex)) ((some ⟨b52, 0, none⟩, 2, 2), [b52]) hm (hs.re 13 [3, 4, 5, 7, 8, 9, 0, 11, 12] rfl) rfl
 ·
  replace hm := bif_f hc31 hm
  refine WC_exit ?_
  refine At_then_exit <| At_then_exit <| At_blk_here <| ?_
  refine At_then <| WC_seq <| WC_region ?_
  refine Wo (Run_loadA (vs := [(.int .i64 c24), (.int .i64 c25), (.int .i64 c26), (sl v28)]) Tryd.underlying51 rfl ti51 (O rfl) (fun _ => (hs.box (i := 5) rfl).part 0 rfl) rfl) rfl <| ?_
  refine WS_store (us := [(.int .i64 c24), (.int .i64 c25), (.int .i64 c26), (sl v28)]) (vs' := [(.int .i64 c24), (.int .i64 c25), (.int .i64 c26), (sl v28)]) hs 4 rfl ti51 (O rfl) (O rfl) rfl rfl rfl rfl rfl ?_
  intro w55 hs
  replace hs := Sat.n9 (Γ := Φ) hs rfl
  refine WL_nil <| At_then ?_
  refine WC_ret ?_
  refine At_r1 rfl (ResIs.cA (vs := [(.int .i64 c24), (.int .i64 c25), (.int .i64 c26), (sl v28)]) rfl Tryd.underlying51 rfl ti51 ((hs.box (i := 4) rfl).part 0 rfl) rfl) ?_
  cases hm
  exact ⟨v28, R29, rfl, (hs.re 9 [6, 0, 1, 2] rfl)⟩
end Go.Proofs.YtdhgpnejphlfpaaDoor
namespace Go.Proofs.YtdhgpnejphlfpaaDoor
open Go.Proofs
theorem expr_read_prod_s3_ok {k_expr_read_lower_s11} (ih_expr_read_lower_s11 : ∀ {Φ : Ctx} {w : World} {l : Q3} {at_ : Int} {names : (List Str)} {deep : Int} {bad : Int} {place : Int} {b : Nat} {v2 : SLV} {R : List Nat} {v4 : SLV} {R5 : List Nat} {r : Q4}, Sat (box b 115 [(sl v2), (.int .i64 at_), (sl v4), (.int .i64 deep), (.int .i64 bad), (.int .i64 place)] :: osl Q1 28 (sl v2) l R :: osl RS 9 (sl v4) names R5 :: gl 0 (keysL.map S) :: gl 1 (textsL.map S) :: Φ) w → k_expr_read_lower_s11 (l, at_, names, deep, bad, place) = some r → CallsR Tryd.prog 77 [(.pointer (some ⟨b, 0, none⟩)), (.func (.func 78) #[] #[])] w (fun v w' => ∃ v3 : SLV, ∃ R4 : List Nat, v = (.agg #[(.int .i64 r.1.op), (.int .i64 r.1.n), (.int .i64 r.1.at_), (sl v3)]) ∧ Sat (osl RExpr 51 (sl v3) r.1.l R4 :: box b 115 [(sl v2), (.int .i64 r.2.1), (sl v4), (.int .i64 r.2.2.1), (.int .i64 r.2.2.2.1), (.int .i64 r.2.2.2.2)] :: osl Q1 28 (sl v2) l R :: osl RS 9 (sl v4) names R5 :: Φ) w')) {Φ : Ctx} {w : World} {l : Q3} {at_ : Int} {names : (List Str)} {deep : Int} {bad : Int} {place : Int} {b : Nat} {v2 : SLV} {R : List Nat} {v4 : SLV} {R5 : List Nat} {r : Q4} (hs : Sat (box b 115 [(sl v2), (.int .i64 at_), (sl v4), (.int .i64 deep), (.int .i64 bad), (.int .i64 place)] :: osl Q1 28 (sl v2) l R :: osl RS 9 (sl v4) names R5 :: gl 0 (keysL.map S) :: gl 1 (textsL.map S) :: Φ) w) (hm : expr_read_prod_s3 k_expr_read_lower_s11 l at_ names deep bad place = some r) :
  CallsR Tryd.prog 96 [(.pointer (some ⟨b, 0, none⟩))] w (fun v w' => ∃ v3 : SLV, ∃ R4 : List Nat, v = (.agg #[(.int .i64 r.1.op), (.int .i64 r.1.n), (.int .i64 r.1.at_), (sl v3)]) ∧ Sat (osl RExpr 51 (sl v3) r.1.l R4 :: box b 115 [(sl v2), (.int .i64 r.2.1), (sl v4), (.int .i64 r.2.2.1), (.int .i64 r.2.2.2.1), (.int .i64 r.2.2.2.2)] :: osl Q1 28 (sl v2) l R :: osl RS 9 (sl v4) names R5 :: Φ) w') := by
 refine CallsX_enter Tryd.func96 rfl Tryd.ntmps96 rfl ?_
 unfold expr_read_prod_s3 at hm
 refine WC_seq <| WC_region ?_
 refine WS_alloc (zs := [(.int .i64 0), (.int .i64 0), (.int .i64 0), (sl (none, 0, 0))]) hs ti51 rfl rfl ?_
 intro b9 w10 hs
 replace hs := Sat.n6 (Γ := Φ) hs rfl
 refine WL_nil <| At_then <| WC_seq <| WC_region ?_
 refine W ?_
 refine WS_lit (A := (RI .i64)) (xs := [5]) (zs := [(.int .i64 0)]) (cells := [(.int .i64 5)]) (parts := [(0, (.const (.int .i64 5)))]) hs Tryd.underlying30 ti3 rfl rfl rfl (.cons Opd.c .nil) (by kernel_rfl) rfl (ARd.cons (A := (RI .i64)) (c := [(.int .i64 5)]) (x := 5) rfl ARd.nil) rfl ?_
 intro b11 w12 hs
 replace hs := Sat.n7 (Γ := Φ) hs rfl
 replace hs := hs.freeze (i := 0) rfl
 obtain ⟨r13, hr14, hm⟩ := bind_some' hm
 refine WL_call (f := 87) (first := []) (cap := []) (xs := [(.tmp 3), (.func 97), (.tmp 4)]) (vs := [(.pointer (some ⟨b, 0, none⟩)), (.func (.func 97) #[] #[]), (sl (some ⟨b11, 0, none⟩, 1, 1))]) (args := [(.pointer (some ⟨b, 0, none⟩)), (.func (.func 97) #[] #[]), (sl (some ⟨b11, 0, none⟩, 1, 1))]) Tryd.call87 Opd.f (.cons (O rfl) (.cons Opd.f (.cons (O rfl) .nil))) rfl rfl (expr_read_left_s12_ok (@ih_expr_read_lower_s11) (hs.re 7 [2, 0, 3, 4, 5, 6, 0, 1, 5, 6] rfl) hr14) ?_
 rintro _ w17 ⟨v15, R16, rfl, hs⟩
 replace hs := Sat.n8 (Γ := Φ) hs rfl
 refine WS_store (us := [(.int .i64 r13.1.op), (.int .i64 r13.1.n), (.int .i64 r13.1.at_), (sl v15)]) (vs' := [(.int .i64 r13.1.op), (.int .i64 r13.1.n), (.int .i64 r13.1.at_), (sl v15)]) hs 5 rfl ti51 (O rfl) (O rfl) rfl rfl rfl rfl rfl ?_
 intro w18 hs
 replace hs := Sat.n8 (Γ := Φ) hs rfl
 refine WL_nil <| At_then ?_
 refine WC_ret ?_
 refine At_r1 rfl (ResIs.cA (vs := [(.int .i64 r13.1.op), (.int .i64 r13.1.n), (.int .i64 r13.1.at_), (sl v15)]) rfl Tryd.underlying51 rfl ti51 ((hs.box (i := 5) rfl).part 0 rfl) rfl) ?_
 cases hm
 exact ⟨v15, R16, rfl, (hs.re 8 [0, 1, 2, 3] rfl)⟩
theorem expr_read_left_s11_ok {k_expr_read_lower_s11} (ih_expr_read_lower_s11 : ∀ {Φ : Ctx} {w : World} {l : Q3} {at_ : Int} {names : (List Str)} {deep : Int} {bad : Int} {place : Int} {b : Nat} {v2 : SLV} {R : List Nat} {v4 : SLV} {R5 : List Nat} {r : Q4}, Sat (box b 115 [(sl v2), (.int .i64 at_), (sl v4), (.int .i64 deep), (.int .i64 bad), (.int .i64 place)] :: osl Q1 28 (sl v2) l R :: osl RS 9 (sl v4) names R5 :: gl 0 (keysL.map S) :: gl 1 (textsL.map S) :: Φ) w → k_expr_read_lower_s11 (l, at_, names, deep, bad, place) = some r → CallsR Tryd.prog 77 [(.pointer (some ⟨b, 0, none⟩)), (.func (.func 78) #[] #[])] w (fun v w' => ∃ v3 : SLV, ∃ R4 : List Nat, v = (.agg #[(.int .i64 r.1.op), (.int .i64 r.1.n), (.int .i64 r.1.at_), (sl v3)]) ∧ Sat (osl RExpr 51 (sl v3) r.1.l R4 :: box b 115 [(sl v2), (.int .i64 r.2.1), (sl v4), (.int .i64 r.2.2.1), (.int .i64 r.2.2.2.1), (.int .i64 r.2.2.2.2)] :: osl Q1 28 (sl v2) l R :: osl RS 9 (sl v4) names R5 :: Φ) w')) {Φ : Ctx} {w : World} {ops : (List Int)} {l : Q3} {at_ : Int} {names : (List Str)} {deep : Int} {bad : Int} {place : Int} {b : Nat} {v2 : SLV} {v4 : SLV} {R : List Nat} {v6 : SLV} {R7 : List Nat} {r : Q4} (hs : Sat (box b 115 [(sl v4), (.int .i64 at_), (sl v6), (.int .i64 deep), (.int .i64 bad), (.int .i64 place)] :: imm Q8 [sl v2] ops :: osl Q1 28 (sl v4) l R :: osl RS 9 (sl v6) names R7 :: gl 0 (keysL.map S) :: gl 1 (textsL.map S) :: Φ) w) (hm : expr_read_left_s11 k_expr_read_lower_s11 ops l at_ names deep bad place = some r) :
  CallsR Tryd.prog 87 [(.pointer (some ⟨b, 0, none⟩)), (.func (.func 96) #[] #[]), (sl v2)] w (fun v w' => ∃ v3 : SLV, ∃ R4 : List Nat, v = (.agg #[(.int .i64 r.1.op), (.int .i64 r.1.n), (.int .i64 r.1.at_), (sl v3)]) ∧ Sat (osl RExpr 51 (sl v3) r.1.l R4 :: box b 115 [(sl v4), (.int .i64 r.2.1), (sl v6), (.int .i64 r.2.2.1), (.int .i64 r.2.2.2.1), (.int .i64 r.2.2.2.2)] :: osl Q1 28 (sl v4) l R :: osl RS 9 (sl v6) names R7 :: Φ) w') := by
 refine CallsX_enter Tryd.func87 rfl Tryd.ntmps87 rfl ?_
 unfold expr_read_left_s11 at hm
 refine WC_seq <| WC_region ?_
 refine WS_alloc (zs := [(.int .i64 0), (.int .i64 0), (.int .i64 0), (sl (none, 0, 0))]) hs ti51 rfl rfl ?_
 intro b9 w10 hs
 replace hs := Sat.n7 (Γ := Φ) hs rfl
 refine WL_nil <| At_then <| WC_seq <| WC_region ?_
 iterate 2 refine W ?_
 obtain ⟨r11, hr12, hm⟩ := bind_some' hm
 refine WL_call (f := 96) (first := []) (cap := []) (xs := [(.tmp 13)]) (vs := [(.pointer (some ⟨b, 0, none⟩))]) (args := [(.pointer (some ⟨b, 0, none⟩))]) Tryd.call96 (O rfl) (.cons (O rfl) .nil) rfl rfl (expr_read_prod_s3_ok (@ih_expr_read_lower_s11) (hs.re 7 [1, 3, 4, 5, 6, 0, 2, 5, 6] rfl) hr12) ?_
 rintro _ w15 ⟨v13, R14, rfl, hs⟩
 replace hs := Sat.n8 (Γ := Φ) hs rfl
 refine WS_alloc (zs := [(.int .i64 0), (.int .i64 0), (.int .i64 0), (sl (none, 0, 0))]) hs ti51 rfl rfl ?_
 intro b16 w17 hs
 replace hs := Sat.n9 (Γ := Φ) hs rfl
 refine WS_store (us := [(.int .i64 r11.1.op), (.int .i64 r11.1.n), (.int .i64 r11.1.at_), (sl v13)]) (vs' := [(.int .i64 r11.1.op), (.int .i64 r11.1.n), (.int .i64 r11.1.at_), (sl v13)]) hs 0 rfl ti51 (O rfl) (O rfl) rfl rfl rfl rfl rfl ?_
 intro w18 hs
 replace hs := Sat.n9 (Γ := Φ) hs rfl
 refine WL_nil <| At_then <| WC_seq ?_
 refine WC_block ?_
 refine WC_loop (σ := Int × Int × Int × Int × Int × Int × Int × (List Ex)) (γ := SLV × List Nat) (F := (expr_read_left_s11_L1 k_expr_read_lower_s11 ops l names)) (N := FUEL) (s0 := (r11.2.1, r11.2.2.1, r11.2.2.2.1, r11.2.2.2.2, r11.1.op, r11.1.n, r11.1.at_, r11.1.l)) (r := r) (fun ⟨c20, c21, c22, c23, c24, c25, c26, c27⟩ ⟨v28, R29⟩ w19 => Sat (box b 115 [(sl v4), (.int .i64 c20), (sl v6), (.int .i64 c21), (.int .i64 c22), (.int .i64 c23)] :: osl Q1 28 (sl v4) l R :: osl RS 9 (sl v6) names R7 :: imm Q8 [sl v2] ops :: box b9 51 [(.int .i64 0), (.int .i64 0), (.int .i64 0), (sl (none, 0, 0))] :: box b16 51 [(.int .i64 c24), (.int .i64 c25), (.int .i64 c26), (sl v28)] :: osl RExpr 51 (sl v28) c27 R29 :: gl 0 (keysL.map S) :: gl 1 (textsL.map S) :: Φ) w19) (fun ⟨c20, c21, c22, c23, c24, c25, c26, c27⟩ ⟨v28, R29⟩ => [(0, true, (.pointer (some ⟨b, 0, none⟩))), (1, true, (.func (.func 96) #[] #[])), (2, true, (sl v2)), (6, true, (.pointer (some ⟨b9, 0, none⟩))), (7, true, (.pointer (some ⟨b16, 0, none⟩)))]) hm (v13, R14) (hs.re 9 [2, 3, 4, 6, 5, 0, 1, 7, 8] rfl) rfl ?_
 rintro again30 ⟨c20, c21, c22, c23, c24, c25, c26, c27⟩ ⟨v28, R29⟩ w19 hm hs
 unfold expr_read_left_s11_L1 at hm
 dsimp only at hm
 refine WC_seq <| WC_seq <| WC_region ?_
 iterate 5 refine W ?_
 refine WL_nil <| At_then ?_
 refine WC_cond (O rfl) (fun hc31 => ?_) (fun hc31 => ?_)
 ·
  replace hm := bif_t hc31 hm
  refine WC_skip ?_
  refine At_then ?_
  refine WC_block ?_
  refine WC_seq <| WC_region ?_
  iterate 2 refine W ?_
  obtain ⟨r32, hr33, hm⟩ := bind_some' hm
  refine WL_call (f := 83) (first := []) (cap := []) (xs := [(.tmp 21), (.tmp 22)]) (vs := [(.pointer (some ⟨b, 0, none⟩)), (sl v2)]) (args := [(.pointer (some ⟨b, 0, none⟩)), (sl v2)]) Tryd.call83 Opd.f (.cons (O rfl) (.cons (O rfl) .nil)) rfl rfl (expr_read_is_s3_ok (hs.re 9 [0, 3, 1, 2, 7, 8, 3, 4, 5, 6, 7, 8] rfl) hr33) ?_
  rintro _ w34 ⟨rfl, hs⟩
  replace hs := Sat.n9 (Γ := Φ) hs rfl
  iterate 5 refine W ?_
  refine WL_nil <| At_then <| WC_seq <| WC_seq <| WC_region ?_
  iterate 2 refine W ?_
  refine WL_nil <| At_then ?_
  refine WC_cond (O rfl) (fun hc35 => ?_) (fun hc35 => ?_)
  ·
   replace hm := bif_t hc35 hm
   refine WC_exit ?_
   refine At_then_exit <| At_blk_other rfl <| At_then_exit <| At_blk_here <| ?_
   refine At_then <| WC_seq <| WC_region ?_
   refine Wo (Run_loadA (vs := [(.int .i64 c24), (.int .i64 c25), (.int .i64 c26), (sl v28)]) Tryd.underlying51 rfl ti51 (O rfl) (fun _ => (hs.box (i := 5) rfl).part 0 rfl) rfl) rfl <| ?_
   refine WS_store (us := [(.int .i64 c24), (.int .i64 c25), (.int .i64 c26), (sl v28)]) (vs' := [(.int .i64 c24), (.int .i64 c25), (.int .i64 c26), (sl v28)]) hs 4 rfl ti51 (O rfl) (O rfl) rfl rfl rfl rfl rfl ?_
   intro w36 hs
   replace hs := Sat.n9 (Γ := Φ) hs rfl
   refine WL_nil <| At_then ?_
   refine WC_ret ?_
   refine At_r1 rfl (ResIs.cA (vs := [(.int .i64 c24), (.int .i64 c25), (.int .i64 c26), (sl v28)]) rfl Tryd.underlying51 rfl ti51 ((hs.box (i := 4) rfl).part 0 rfl) rfl) ?_
   cases hm
   exact ⟨v28, R29, rfl, (hs.re 9 [6, 0, 1, 2] rfl)⟩
  ·
   replace hm := bif_f hc35 hm
   refine WC_skip ?_
   refine At_then <| WC_seq <| WC_region ?_
   refine W ?_
   obtain ⟨r37, hr38, hm⟩ := bind_some' hm
   refine WL_call (f := 84) (first := []) (cap := []) (xs := [(.tmp 28)]) (vs := [(.pointer (some ⟨b, 0, none⟩))]) (args := [(.pointer (some ⟨b, 0, none⟩))]) Tryd.call84 Opd.f (.cons (O rfl) .nil) rfl rfl (expr_read_next_s3_ok (hs.re 9 [0, 1, 2, 3, 4, 5, 6, 7, 8] rfl) hr38) ?_
   rintro _ w39 ⟨rfl, hs⟩
   replace hs := Sat.n9 (Γ := Φ) hs rfl
   refine WS_alloc (zs := [(.int .i64 0), (S []), (.int .i64 0), (.int .i64 0)]) hs ti28 rfl rfl ?_
   intro b40 w41 hs
   replace hs := Sat.n10 (Γ := Φ) hs rfl
   refine WS_store (us := [(.int .i64 r37.1), (S r37.2.1), (.int .i64 r37.2.2.1), (.int .i64 r37.2.2.2)]) (vs' := [(.int .i64 r37.1), (S r37.2.1), (.int .i64 r37.2.2.1), (.int .i64 r37.2.2.2)]) hs 0 rfl ti28 (O rfl) (O rfl) rfl rfl rfl rfl rfl ?_
   intro w42 hs
   replace hs := Sat.n10 (Γ := Φ) hs rfl
   refine WL_nil <| At_then <| WC_seq <| WC_region ?_
   iterate 7 refine W ?_
   refine WS_store (us := [(.int .i64 (IntKind.i64.wrap (c20 + 1)))]) (vs' := [(sl v4), (.int .i64 (IntKind.i64.wrap (c20 + 1))), (sl v6), (.int .i64 c21), (.int .i64 c22), (.int .i64 c23)]) hs 1 rfl ti3 (O rfl) (O rfl) rfl rfl rfl rfl rfl ?_
   intro w43 hs
   replace hs := Sat.n10 (Γ := Φ) hs rfl
   refine WL_nil <| At_then <| WC_seq <| WC_region ?_
   iterate 2 refine W ?_
   obtain ⟨r44, hr45, hm⟩ := bind_some' hm
   refine WL_call (f := 96) (first := []) (cap := []) (xs := [(.tmp 38)]) (vs := [(.pointer (some ⟨b, 0, none⟩))]) (args := [(.pointer (some ⟨b, 0, none⟩))]) Tryd.call96 (O rfl) (.cons (O rfl) .nil) rfl rfl (expr_read_prod_s3_ok (@ih_expr_read_lower_s11) (hs.re 10 [1, 2, 3, 8, 9, 0, 4, 5, 6, 7, 8, 9] rfl) hr45) ?_
   rintro _ w48 ⟨v46, R47, rfl, hs⟩
   replace hs := Sat.n11 (Γ := Φ) hs rfl
   refine WS_alloc (zs := [(.int .i64 0), (.int .i64 0), (.int .i64 0), (sl (none, 0, 0))]) hs ti51 rfl rfl ?_
   intro b49 w50 hs
   replace hs := Sat.n12 (Γ := Φ) hs rfl
   refine WS_store (us := [(.int .i64 r44.1.op), (.int .i64 r44.1.n), (.int .i64 r44.1.at_), (sl v46)]) (vs' := [(.int .i64 r44.1.op), (.int .i64 r44.1.n), (.int .i64 r44.1.at_), (sl v46)]) hs 0 rfl ti51 (O rfl) (O rfl) rfl rfl rfl rfl rfl ?_
   intro w51 hs
   replace hs := Sat.n12 (Γ := Φ) hs rfl
   refine WL_nil <| At_then <| WC_region ?_
   iterate 3 refine W ?_
   refine Wo (Run_loadA (vs := [(.int .i64 c24), (.int .i64 c25), (.int .i64 c26), (sl v28)]) Tryd.underlying51 rfl ti51 (O rfl) (fun _ => (hs.box (i := 8) rfl).part 0 rfl) rfl) rfl <| Wo (Run_loadA (vs := [(.int .i64 r44.1.op), (.int .i64 r44.1.n), (.int .i64 r44.1.at_), (sl v46)]) Tryd.underlying51 rfl ti51 (O rfl) (fun _ => (hs.box (i := 0) rfl).part 0 rfl) rfl) rfl <| ?_
   replace hs := hs.freeze (i := 9) rfl
   replace hs := hs.freeze (i := 1) rfl
   refine WS_lit (A := RExpr) (xs := [(Ex.mk c24 c25 c26 c27), r44.1]) (zs := [(.int .i64 0), (.int .i64 0), (.int .i64 0), (sl (none, 0, 0))]) (cells := [(.int .i64 c24), (.int .i64 c25), (.int .i64 c26), (sl v28), (.int .i64 r44.1.op), (.int .i64 r44.1.n), (.int .i64 r44.1.at_), (sl v46)]) (parts := [(0, (.tmp 43)), (1, (.tmp 44))]) hs Tryd.underlying49 ti51 rfl rfl rfl (.cons (O rfl) (.cons (O rfl) .nil)) (by kernel_rfl) rfl (ARd.cons (A := RExpr) (c := [(.int .i64 c24), (.int .i64 c25), (.int .i64 c26), (sl v28)]) (x := (Ex.mk c24 c25 c26 c27)) (RExpr_close (⟨_, rfl, (hs.sl (i := 9) rfl)⟩)) (ARd.cons (A := RExpr) (c := [(.int .i64 r44.1.op), (.int .i64 r44.1.n), (.int .i64 r44.1.at_), (sl v46)]) (x := r44.1) (RExpr_closeE (⟨_, rfl, (hs.sl (i := 1) rfl)⟩)) ARd.nil)) rfl ?_
   intro b52 w53 hs
   replace hs := Sat.n13 (Γ := Φ) hs rfl
   refine Wo (Run_build (parts := [(0, (.tmp 40)), (2, (.tmp 42)), (3, (.tmp 45))]) (v := (.agg #[(.int .i64 r32.1), (.int .i64 0), (.int .i64 r37.2.2.2), (sl (some ⟨b52, 0, none⟩, 2, 2))])) (.cons (O rfl) (.cons (O rfl) (.cons (O rfl) .nil))) (fun _ => by kernel_rfl)) rfl <| ?_
   refine WS_store (us := [(.int .i64 r32.1), (.int .i64 0), (.int .i64 r37.2.2.2), (sl (some ⟨b52, 0, none⟩, 2, 2))]) (vs' := [(.int .i64 r32.1), (.int .i64 0), (.int .i64 r37.2.2.2), (sl (some ⟨b52, 0, none⟩, 2, 2))]) hs 9 rfl ti51 (O rfl) (O rfl) rfl rfl rfl rfl rfl ?_
   intro w54 hs
   replace hs := Sat.n13 (Γ := Φ) hs rfl
   refine WL_nil ?_
   refine At_blk_normal ?_
   exact At_again (r44.2.1, r44.2.2.1, r44.2.2.2.1, r44.2.2.2.2, r32.1, 0, r37.2.2.2, ([(Ex.mk c24 c25 c26 c27), r44.1] : List Ex)) ((some ⟨b52, 0, none⟩, 2, 2), [b52]) hm (hs.re 13 [3, 4, 5, 7, 8, 9, 0, 11, 12] rfl) rfl
 ·
  replace hm := bif_f hc31 hm
  refine WC_exit ?_
  refine At_then_exit <| At_then_exit <| At_blk_here <| ?_
  refine At_then <| WC_seq <| WC_region ?_
  refine Wo (Run_loadA (vs := [(.int .i64 c24), (.int .i64 c25), (.int .i64 c26), (sl v28)]) Tryd.underlying51 rfl ti51 (O rfl) (fun _ => (hs.box (i := 5) rfl).part 0 rfl) rfl) rfl <| ?_
  refine WS_store (us := [(.int .i64 c24), (.int .i64 c25), (.int .i64 c26), (sl v28)]) (vs' := [(.int .i64 c24), (.int .i64 c25), (.int .i64 c26), (sl v28)]) hs 4 rfl ti51 (O rfl) (O rfl) rfl rfl rfl rfl rfl ?_
  intro w55 hs
  replace hs := Sat.n9 (Γ := Φ) hs rfl
  refine WL_nil <| At_then ?_
  refine WC_ret ?_
  refine At_r1 rfl (ResIs.cA (vs := [(.int .i64 c24), (.int .i64 c25), (.int .i64 c26), (sl v28)]) rfl Tryd.underlying51 rfl ti51 ((hs.box (i := 4) rfl).part 0 rfl) rfl) ?_
  cases hm
  exact ⟨v28, R29, rfl, (hs.re 9 [6, 0, 1, 2] rfl)⟩
theorem expr_read_sum_s3_ok {k_expr_read_lower_s11} (ih_expr_read_lower_s11 : ∀ {Φ : Ctx} {w : World} {l : Q3} {at_ : Int} {names : (List Str)} {deep : Int} {bad : Int} {place : Int} {b : Nat} {v2 : SLV} {R : List Nat} {v4 : SLV} {R5 : List Nat} {r : Q4}, Sat (box b 115 [(sl v2), (.int .i64 at_), (sl v4), (.int .i64 deep), (.int .i64 bad), (.int .i64 place)] :: osl Q1 28 (sl v2) l R :: osl RS 9 (sl v4) names R5 :: gl 0 (keysL.map S) :: gl 1 (textsL.map S) :: Φ) w → k_expr_read_lower_s11 (l, at_, names, deep, bad, place) = some r → CallsR Tryd.prog 77 [(.pointer (some ⟨b, 0, none⟩)), (.func (.func 78) #[] #[])] w (fun v w' => ∃ v3 : SLV, ∃ R4 : List Nat, v = (.agg #[(.int .i64 r.1.op), (.int .i64 r.1.n), (.int .i64 r.1.at_), (sl v3)]) ∧ Sat (osl RExpr 51 (sl v3) r.1.l R4 :: box b 115 [(sl v2), (.int .i64 r.2.1), (sl v4), (.int .i64 r.2.2.1), (.int .i64 r.2.2.2.1), (.int .i64 r.2.2.2.2)] :: osl Q1 28 (sl v2) l R :: osl RS 9 (sl v4) names R5 :: Φ) w')) {Φ : Ctx} {w : World} {l : Q3} {at_ : Int} {names : (List Str)} {deep : Int} {bad : Int} {place : Int} {b : Nat} {v2 : SLV} {R : List Nat} {v4 : SLV} {R5 : List Nat} {r : Q4} (hs : Sat (box b 115 [(sl v2), (.int .i64 at_), (sl v4), (.int .i64 deep), (.int .i64 bad), (.int .i64 place)] :: osl Q1 28 (sl v2) l R :: osl RS 9 (sl v4) names R5 :: gl 0 (keysL.map S) :: gl 1 (textsL.map S) :: Φ) w) (hm : expr_read_sum_s3 k_expr_read_lower_s11 l at_ names deep bad place = some r) :
  CallsR Tryd.prog 95 [(.pointer (some ⟨b, 0, none⟩))] w (fun v w' => ∃ v3 : SLV, ∃ R4 : List Nat, v = (.agg #[(.int .i64 r.1.op), (.int .i64 r.1.n), (.int .i64 r.1.at_), (sl v3)]) ∧ Sat (osl RExpr 51 (sl v3) r.1.l R4 :: box b 115 [(sl v2), (.int .i64 r.2.1), (sl v4), (.int .i64 r.2.2.1), (.int .i64 r.2.2.2.1), (.int .i64 r.2.2.2.2)] :: osl Q1 28 (sl v2) l R :: osl RS 9 (sl v4) names R5 :: Φ) w') := by
 refine CallsX_enter Tryd.func95 rfl Tryd.ntmps95 rfl ?_
 unfold expr_read_sum_s3 at hm
 refine WC_seq <| WC_region ?_
 refine WS_alloc (zs := [(.int .i64 0), (.int .i64 0), (.int .i64 0), (sl (none, 0, 0))]) hs ti51 rfl rfl ?_
 intro b9 w10 hs
 replace hs := Sat.n6 (Γ := Φ) hs rfl
 refine WL_nil <| At_then <| WC_seq <| WC_region ?_
 refine W ?_
 refine WS_lit (A := (RI .i64)) (xs := [3, 4]) (zs := [(.int .i64 0)]) (cells := [(.int .i64 3), (.int .i64 4)]) (parts := [(0, (.const (.int .i64 3))), (1, (.const (.int .i64 4)))]) hs Tryd.underlying30 ti3 rfl rfl rfl (.cons Opd.c (.cons Opd.c .nil)) (by kernel_rfl) rfl (ARd.cons (A := (RI .i64)) (c := [(.int .i64 3)]) (x := 3) rfl (ARd.cons (A := (RI .i64)) (c := [(.int .i64 4)]) (x := 4) rfl ARd.nil)) rfl ?_
 intro b11 w12 hs
 replace hs := Sat.n7 (Γ := Φ) hs rfl
 replace hs := hs.freeze (i := 0) rfl
 obtain ⟨r13, hr14, hm⟩ := bind_some' hm
 refine WL_call (f := 87) (first := []) (cap := []) (xs := [(.tmp 3), (.func 96), (.tmp 4)]) (vs := [(.pointer (some ⟨b, 0, none⟩)), (.func (.func 96) #[] #[]), (sl (some ⟨b11, 0, none⟩, 2, 2))]) (args := [(.pointer (some ⟨b, 0, none⟩)), (.func (.func 96) #[] #[]), (sl (some ⟨b11, 0, none⟩, 2, 2))]) Tryd.call87 Opd.f (.cons (O rfl) (.cons Opd.f (.cons (O rfl) .nil))) rfl rfl (expr_read_left_s11_ok (@ih_expr_read_lower_s11) (hs.re 7 [2, 0, 3, 4, 5, 6, 0, 1, 5, 6] rfl) hr14) ?_
 rintro _ w17 ⟨v15, R16, rfl, hs⟩
 replace hs := Sat.n8 (Γ := Φ) hs rfl
 refine WS_store (us := [(.int .i64 r13.1.op), (.int .i64 r13.1.n), (.int .i64 r13.1.at_), (sl v15)]) (vs' := [(.int .i64 r13.1.op), (.int .i64 r13.1.n), (.int .i64 r13.1.at_), (sl v15)]) hs 5 rfl ti51 (O rfl) (O rfl) rfl rfl rfl rfl rfl ?_
 intro w18 hs
 replace hs := Sat.n8 (Γ := Φ) hs rfl
 refine WL_nil <| At_then ?_
 refine WC_ret ?_
 refine At_r1 rfl (ResIs.cA (vs := [(.int .i64 r13.1.op), (.int .i64 r13.1.n), (.int .i64 r13.1.at_), (sl v15)]) rfl Tryd.underlying51 rfl ti51 ((hs.box (i := 5) rfl).part 0 rfl) rfl) ?_
 cases hm
 exact ⟨v15, R16, rfl, (hs.re 8 [0, 1, 2, 3] rfl)⟩
theorem expr_read_cmp_s3_ok {k_expr_read_lower_s11} (ih_expr_read_lower_s11 : ∀ {Φ : Ctx} {w : World} {l : Q3} {at_ : Int} {names : (List Str)} {deep : Int} {bad : Int} {place : Int} {b : Nat} {v2 : SLV} {R : List Nat} {v4 : SLV} {R5 : List Nat} {r : Q4}, Sat (box b 115 [(sl v2), (.int .i64 at_), (sl v4), (.int .i64 deep), (.int .i64 bad), (.int .i64 place)] :: osl Q1 28 (sl v2) l R :: osl RS 9 (sl v4) names R5 :: gl 0 (keysL.map S) :: gl 1 (textsL.map S) :: Φ) w → k_expr_read_lower_s11 (l, at_, names, deep, bad, place) = some r → CallsR Tryd.prog 77 [(.pointer (some ⟨b, 0, none⟩)), (.func (.func 78) #[] #[])] w (fun v w' => ∃ v3 : SLV, ∃ R4 : List Nat, v = (.agg #[(.int .i64 r.1.op), (.int .i64 r.1.n), (.int .i64 r.1.at_), (sl v3)]) ∧ Sat (osl RExpr 51 (sl v3) r.1.l R4 :: box b 115 [(sl v2), (.int .i64 r.2.1), (sl v4), (.int .i64 r.2.2.1), (.int .i64 r.2.2.2.1), (.int .i64 r.2.2.2.2)] :: osl Q1 28 (sl v2) l R :: osl RS 9 (sl v4) names R5 :: Φ) w')) {Φ : Ctx} {w : World} {l : Q3} {at_ : Int} {names : (List Str)} {deep : Int} {bad : Int} {place : Int} {b : Nat} {v2 : SLV} {R : List Nat} {v4 : SLV} {R5 : List Nat} {r : Q4} (hs : Sat (box b 115 [(sl v2), (.int .i64 at_), (sl v4), (.int .i64 deep), (.int .i64 bad), (.int .i64 place)] :: osl Q1 28 (sl v2) l R :: osl RS 9 (sl v4) names R5 :: gl 0 (keysL.map S) :: gl 1 (textsL.map S) :: Φ) w) (hm : expr_read_cmp_s3 k_expr_read_lower_s11 l at_ names deep bad place = some r) :
  CallsR Tryd.prog 94 [(.pointer (some ⟨b, 0, none⟩))] w (fun v w' => ∃ v3 : SLV, ∃ R4 : List Nat, v = (.agg #[(.int .i64 r.1.op), (.int .i64 r.1.n), (.int .i64 r.1.at_), (sl v3)]) ∧ Sat (osl RExpr 51 (sl v3) r.1.l R4 :: box b 115 [(sl v2), (.int .i64 r.2.1), (sl v4), (.int .i64 r.2.2.1), (.int .i64 r.2.2.2.1), (.int .i64 r.2.2.2.2)] :: osl Q1 28 (sl v2) l R :: osl RS 9 (sl v4) names R5 :: Φ) w') := by
 refine CallsX_enter Tryd.func94 rfl Tryd.ntmps94 rfl ?_
 unfold expr_read_cmp_s3 at hm
 refine WC_seq <| WC_region ?_
 refine WS_alloc (zs := [(.int .i64 0), (.int .i64 0), (.int .i64 0), (sl (none, 0, 0))]) hs ti51 rfl rfl ?_
 intro b9 w10 hs
 replace hs := Sat.n6 (Γ := Φ) hs rfl
 refine WL_nil <| At_then <| WC_seq <| WC_region ?_
 refine W ?_
 obtain ⟨r11, hr12, hm⟩ := bind_some' hm
 refine WL_call (f := 95) (first := []) (cap := []) (xs := [(.tmp 8)]) (vs := [(.pointer (some ⟨b, 0, none⟩))]) (args := [(.pointer (some ⟨b, 0, none⟩))]) Tryd.call95 Opd.f (.cons (O rfl) .nil) rfl rfl (expr_read_sum_s3_ok (@ih_expr_read_lower_s11) (hs.re 6 [1, 2, 3, 4, 5, 0, 4, 5] rfl) hr12) ?_
 rintro _ w15 ⟨v13, R14, rfl, hs⟩
 replace hs := Sat.n7 (Γ := Φ) hs rfl
 refine WS_alloc (zs := [(.int .i64 0), (.int .i64 0), (.int .i64 0), (sl (none, 0, 0))]) hs ti51 rfl rfl ?_
 intro b16 w17 hs
 replace hs := Sat.n8 (Γ := Φ) hs rfl
 refine WS_store (us := [(.int .i64 r11.1.op), (.int .i64 r11.1.n), (.int .i64 r11.1.at_), (sl v13)]) (vs' := [(.int .i64 r11.1.op), (.int .i64 r11.1.n), (.int .i64 r11.1.at_), (sl v13)]) hs 0 rfl ti51 (O rfl) (O rfl) rfl rfl rfl rfl rfl ?_
 intro w18 hs
 replace hs := Sat.n8 (Γ := Φ) hs rfl
 refine WL_nil <| At_then <| WC_seq <| WC_region ?_
 refine W ?_
 refine WS_lit (A := (RI .i64)) (xs := [7, 8, 9, 10, 11, 12]) (zs := [(.int .i64 0)]) (cells := [(.int .i64 7), (.int .i64 8), (.int .i64 9), (.int .i64 10), (.int .i64 11), (.int .i64 12)]) (parts := [(0, (.const (.int .i64 7))), (1, (.const (.int .i64 8))), (2, (.const (.int .i64 9))), (3, (.const (.int .i64 10))), (4, (.const (.int .i64 11))), (5, (.const (.int .i64 12)))]) hs Tryd.underlying30 ti3 rfl rfl rfl (.cons Opd.c (.cons Opd.c (.cons Opd.c (.cons Opd.c (.cons Opd.c (.cons Opd.c .nil)))))) (by kernel_rfl) rfl (ARd.cons (A := (RI .i64)) (c := [(.int .i64 7)]) (x := 7) rfl (ARd.cons (A := (RI .i64)) (c := [(.int .i64 8)]) (x := 8) rfl (ARd.cons (A := (RI .i64)) (c := [(.int .i64 9)]) (x := 9) rfl (ARd.cons (A := (RI .i64)) (c := [(.int .i64 10)]) (x := 10) rfl (ARd.cons (A := (RI .i64)) (c := [(.int .i64 11)]) (x := 11) rfl (ARd.cons (A := (RI .i64)) (c := [(.int .i64 12)]) (x := 12) rfl ARd.nil)))))) rfl ?_
 intro b19 w20 hs
 replace hs := Sat.n9 (Γ := Φ) hs rfl
 replace hs := hs.freeze (i := 0) rfl
 obtain ⟨r21, hr22, hm⟩ := bind_some' hm
 refine WL_call (f := 83) (first := []) (cap := []) (xs := [(.tmp 11), (.tmp 12)]) (vs := [(.pointer (some ⟨b, 0, none⟩)), (sl (some ⟨b19, 0, none⟩, 6, 6))]) (args := [(.pointer (some ⟨b, 0, none⟩)), (sl (some ⟨b19, 0, none⟩, 6, 6))]) Tryd.call83 Opd.f (.cons (O rfl) (.cons (O rfl) .nil)) rfl rfl (expr_read_is_s3_ok (hs.re 9 [3, 0, 4, 5, 7, 8, 0, 1, 2, 6, 7, 8] rfl) hr22) ?_
 rintro _ w23 ⟨rfl, hs⟩
 replace hs := Sat.n9 (Γ := Φ) hs rfl
 iterate 5 refine W ?_
 refine WL_nil <| At_then <| WC_seq <| WC_seq <| WC_region ?_
 iterate 4 refine W ?_
 obtain ⟨b24, e25, hm⟩ := letv_som hm
 iterate 2 refine W ?_
 refine WG ?_
 obtain ⟨b26, e27, hm⟩ := letv_som hm
 refine WG ?_
 obtain ⟨b28, e29, hm⟩ := letv_som hm
 refine W ?_
 refine WL_nil <| At_then ?_
 refine WC_cond (O rfl) (fun hc30 => ?_) (fun hc30 => ?_)
 ·
  replace hm := bif_t hc30 hm
  refine WC_seq <| WC_region ?_
  refine Wo (Run_loadA (vs := [(.int .i64 r11.1.op), (.int .i64 r11.1.n), (.int .i64 r11.1.at_), (sl v13)]) Tryd.underlying51 rfl ti51 (O rfl) (fun _ => (hs.box (i := 4) rfl).part 0 rfl) rfl) rfl <| ?_
  refine WS_store (us := [(.int .i64 r11.1.op), (.int .i64 r11.1.n), (.int .i64 r11.1.at_), (sl v13)]) (vs' := [(.int .i64 r11.1.op), (.int .i64 r11.1.n), (.int .i64 r11.1.at_), (sl v13)]) hs 6 rfl ti51 (O rfl) (O rfl) rfl rfl rfl rfl rfl ?_
  intro w31 hs
  replace hs := Sat.n9 (Γ := Φ) hs rfl
  refine WL_nil <| At_then ?_
  refine WC_ret ?_
  refine At_then_ret <| ?_
  refine At_r1 rfl (ResIs.cA (vs := [(.int .i64 r11.1.op), (.int .i64 r11.1.n), (.int .i64 r11.1.at_), (sl v13)]) rfl Tryd.underlying51 rfl ti51 ((hs.box (i := 6) rfl).part 0 rfl) rfl) ?_
  cases hm
  exact ⟨v13, R14, rfl, (hs.re 9 [5, 0, 1, 2] rfl)⟩
 ·
  replace hm := bif_f hc30 hm
  refine WC_skip ?_
  refine At_then <| WC_seq <| WC_region ?_
  refine W ?_
  obtain ⟨r32, hr33, hm⟩ := bind_some' hm
  refine WL_call (f := 84) (first := []) (cap := []) (xs := [(.tmp 26)]) (vs := [(.pointer (some ⟨b, 0, none⟩))]) (args := [(.pointer (some ⟨b, 0, none⟩))]) Tryd.call84 Opd.f (.cons (O rfl) .nil) rfl rfl (expr_read_next_s3_ok (hs.re 9 [0, 1, 2, 3, 4, 5, 6, 7, 8] rfl) hr33) ?_
  rintro _ w34 ⟨rfl, hs⟩
  replace hs := Sat.n9 (Γ := Φ) hs rfl
  refine WS_alloc (zs := [(.int .i64 0), (S []), (.int .i64 0), (.int .i64 0)]) hs ti28 rfl rfl ?_
  intro b35 w36 hs
  replace hs := Sat.n10 (Γ := Φ) hs rfl
  refine WS_store (us := [(.int .i64 r32.1), (S r32.2.1), (.int .i64 r32.2.2.1), (.int .i64 r32.2.2.2)]) (vs' := [(.int .i64 r32.1), (S r32.2.1), (.int .i64 r32.2.2.1), (.int .i64 r32.2.2.2)]) hs 0 rfl ti28 (O rfl) (O rfl) rfl rfl rfl rfl rfl ?_
  intro w37 hs
  replace hs := Sat.n10 (Γ := Φ) hs rfl
  refine WL_nil <| At_then <| WC_seq <| WC_region ?_
  iterate 7 refine W ?_
  refine WS_store (us := [(.int .i64 (IntKind.i64.wrap (r11.2.1 + 1)))]) (vs' := [(sl v2), (.int .i64 (IntKind.i64.wrap (r11.2.1 + 1))), (sl v4), (.int .i64 r11.2.2.1), (.int .i64 r11.2.2.2.1), (.int .i64 r11.2.2.2.2)]) hs 1 rfl ti3 (O rfl) (O rfl) rfl rfl rfl rfl rfl ?_
  intro w38 hs
  replace hs := Sat.n10 (Γ := Φ) hs rfl
  refine WL_nil <| At_then <| WC_seq <| WC_region ?_
  refine W ?_
  obtain ⟨r39, hr40, hm⟩ := bind_some' hm
  refine WL_call (f := 95) (first := []) (cap := []) (xs := [(.tmp 35)]) (vs := [(.pointer (some ⟨b, 0, none⟩))]) (args := [(.pointer (some ⟨b, 0, none⟩))]) Tryd.call95 Opd.f (.cons (O rfl) .nil) rfl rfl (expr_read_sum_s3_ok (@ih_expr_read_lower_s11) (hs.re 10 [1, 2, 3, 8, 9, 0, 4, 5, 6, 7, 8, 9] rfl) hr40) ?_
  rintro _ w43 ⟨v41, R42, rfl, hs⟩
  replace hs := Sat.n11 (Γ := Φ) hs rfl
  refine WS_alloc (zs := [(.int .i64 0), (.int .i64 0), (.int .i64 0), (sl (none, 0, 0))]) hs ti51 rfl rfl ?_
  intro b44 w45 hs
  replace hs := Sat.n12 (Γ := Φ) hs rfl
  refine WS_store (us := [(.int .i64 r39.1.op), (.int .i64 r39.1.n), (.int .i64 r39.1.at_), (sl v41)]) (vs' := [(.int .i64 r39.1.op), (.int .i64 r39.1.n), (.int .i64 r39.1.at_), (sl v41)]) hs 0 rfl ti51 (O rfl) (O rfl) rfl rfl rfl rfl rfl ?_
  intro w46 hs
  replace hs := Sat.n12 (Γ := Φ) hs rfl
  refine WL_nil <| At_then <| WC_seq <| WC_region ?_
  iterate 3 refine W ?_
  refine Wo (Run_loadA (vs := [(.int .i64 r11.1.op), (.int .i64 r11.1.n), (.int .i64 r11.1.at_), (sl v13)]) Tryd.underlying51 rfl ti51 (O rfl) (fun _ => (hs.box (i := 7) rfl).part 0 rfl) rfl) rfl <| Wo (Run_loadA (vs := [(.int .i64 r39.1.op), (.int .i64 r39.1.n), (.int .i64 r39.1.at_), (sl v41)]) Tryd.underlying51 rfl ti51 (O rfl) (fun _ => (hs.box (i := 0) rfl).part 0 rfl) rfl) rfl <| ?_
  replace hs := hs.freeze (i := 8) rfl
  replace hs := hs.freeze (i := 1) rfl
  refine WS_lit (A := RExpr) (xs := [r11.1, r39.1]) (zs := [(.int .i64 0), (.int .i64 0), (.int .i64 0), (sl (none, 0, 0))]) (cells := [(.int .i64 r11.1.op), (.int .i64 r11.1.n), (.int .i64 r11.1.at_), (sl v13), (.int .i64 r39.1.op), (.int .i64 r39.1.n), (.int .i64 r39.1.at_), (sl v41)]) (parts := [(0, (.tmp 40)), (1, (.tmp 41))]) hs Tryd.underlying49 ti51 rfl rfl rfl (.cons (O rfl) (.cons (O rfl) .nil)) (by kernel_rfl) rfl (ARd.cons (A := RExpr) (c := [(.int .i64 r11.1.op), (.int .i64 r11.1.n), (.int .i64 r11.1.at_), (sl v13)]) (x := r11.1) (RExpr_closeE (⟨_, rfl, (hs.sl (i := 8) rfl)⟩)) (ARd.cons (A := RExpr) (c := [(.int .i64 r39.1.op), (.int .i64 r39.1.n), (.int .i64 r39.1.at_), (sl v41)]) (x := r39.1) (RExpr_closeE (⟨_, rfl, (hs.sl (i := 1) rfl)⟩)) ARd.nil)) rfl ?_
  intro b47 w48 hs
  replace hs := Sat.n13 (Γ := Φ) hs rfl
  refine Wo (Run_build (parts := [(0, (.tmp 37)), (2, (.tmp 39)), (3, (.tmp 42))]) (v := (.agg #[(.int .i64 r21.1), (.int .i64 0), (.int .i64 r32.2.2.2), (sl (some ⟨b47, 0, none⟩, 2, 2))])) (.cons (O rfl) (.cons (O rfl) (.cons (O rfl) .nil))) (fun _ => by kernel_rfl)) rfl <| ?_
  refine WS_store (us := [(.int .i64 r21.1), (.int .i64 0), (.int .i64 r32.2.2.2), (sl (some ⟨b47, 0, none⟩, 2, 2))]) (vs' := [(.int .i64 r21.1), (.int .i64 0), (.int .i64 r32.2.2.2), (sl (some ⟨b47, 0, none⟩, 2, 2))]) hs 10 rfl ti51 (O rfl) (O rfl) rfl rfl rfl rfl rfl ?_
  intro w49 hs
  replace hs := Sat.n13 (Γ := Φ) hs rfl
  refine WL_nil <| At_then ?_
  refine WC_ret ?_
  refine At_r1 rfl (ResIs.cA (vs := [(.int .i64 r21.1), (.int .i64 0), (.int .i64 r32.2.2.2), (sl (some ⟨b47, 0, none⟩, 2, 2))]) rfl Tryd.underlying51 rfl ti51 ((hs.box (i := 10) rfl).part 0 rfl) rfl) ?_
  cases hm
  exact ⟨(some ⟨b47, 0, none⟩, 2, 2), [b47], rfl, (hs.re 13 [0, 3, 4, 5] rfl)⟩
end Go.Proofs.YtdhgpnejphlfpaaDoor
namespace Go.Proofs.YtdhgpnejphlfpaaDoor
open Go.Proofs
theorem expr_read_before_s5_ok {k_expr_read_lower_s11 k_expr_read_lower_s14} (ih_expr_read_lower_s11 : ∀ {Φ : Ctx} {w : World} {l : Q3} {at_ : Int} {names : (List Str)} {deep : Int} {bad : Int} {place : Int} {b : Nat} {v2 : SLV} {R : List Nat} {v4 : SLV} {R5 : List Nat} {r : Q4}, Sat (box b 115 [(sl v2), (.int .i64 at_), (sl v4), (.int .i64 deep), (.int .i64 bad), (.int .i64 place)] :: osl Q1 28 (sl v2) l R :: osl RS 9 (sl v4) names R5 :: gl 0 (keysL.map S) :: gl 1 (textsL.map S) :: Φ) w → k_expr_read_lower_s11 (l, at_, names, deep, bad, place) = some r → CallsR Tryd.prog 77 [(.pointer (some ⟨b, 0, none⟩)), (.func (.func 78) #[] #[])] w (fun v w' => ∃ v3 : SLV, ∃ R4 : List Nat, v = (.agg #[(.int .i64 r.1.op), (.int .i64 r.1.n), (.int .i64 r.1.at_), (sl v3)]) ∧ Sat (osl RExpr 51 (sl v3) r.1.l R4 :: box b 115 [(sl v2), (.int .i64 r.2.1), (sl v4), (.int .i64 r.2.2.1), (.int .i64 r.2.2.2.1), (.int .i64 r.2.2.2.2)] :: osl Q1 28 (sl v2) l R :: osl RS 9 (sl v4) names R5 :: Φ) w')) (ih_expr_read_lower_s14 : ∀ {Φ : Ctx} {w : World} {l : Q3} {at_ : Int} {names : (List Str)} {deep : Int} {bad : Int} {place : Int} {b : Nat} {v2 : SLV} {R : List Nat} {v4 : SLV} {R5 : List Nat} {r : Q4}, Sat (box b 115 [(sl v2), (.int .i64 at_), (sl v4), (.int .i64 deep), (.int .i64 bad), (.int .i64 place)] :: osl Q1 28 (sl v2) l R :: osl RS 9 (sl v4) names R5 :: gl 0 (keysL.map S) :: gl 1 (textsL.map S) :: Φ) w → k_expr_read_lower_s14 (l, at_, names, deep, bad, place) = some r → CallsR Tryd.prog 77 [(.pointer (some ⟨b, 0, none⟩)), (.func (.func 92) #[] #[])] w (fun v w' => ∃ v3 : SLV, ∃ R4 : List Nat, v = (.agg #[(.int .i64 r.1.op), (.int .i64 r.1.n), (.int .i64 r.1.at_), (sl v3)]) ∧ Sat (osl RExpr 51 (sl v3) r.1.l R4 :: box b 115 [(sl v2), (.int .i64 r.2.1), (sl v4), (.int .i64 r.2.2.1), (.int .i64 r.2.2.2.1), (.int .i64 r.2.2.2.2)] :: osl Q1 28 (sl v2) l R :: osl RS 9 (sl v4) names R5 :: Φ) w')) {Φ : Ctx} {w : World} {ops : (List Int)} {l : Q3} {at_ : Int} {names : (List Str)} {deep : Int} {bad : Int} {place : Int} {b : Nat} {v2 : SLV} {v4 : SLV} {R : List Nat} {v6 : SLV} {R7 : List Nat} {r : Q4} (hs : Sat (box b 115 [(sl v4), (.int .i64 at_), (sl v6), (.int .i64 deep), (.int .i64 bad), (.int .i64 place)] :: imm Q8 [sl v2] ops :: osl Q1 28 (sl v4) l R :: osl RS 9 (sl v6) names R7 :: gl 0 (keysL.map S) :: gl 1 (textsL.map S) :: Φ) w) (hm : expr_read_before_s5 k_expr_read_lower_s11 k_expr_read_lower_s14 ops l at_ names deep bad place = some r) :
  CallsR Tryd.prog 93 [(.pointer (some ⟨b, 0, none⟩)), (.func (.func 92) #[] #[]), (.func (.func 94) #[] #[]), (sl v2)] w (fun v w' => ∃ v3 : SLV, ∃ R4 : List Nat, v = (.agg #[(.int .i64 r.1.op), (.int .i64 r.1.n), (.int .i64 r.1.at_), (sl v3)]) ∧ Sat (osl RExpr 51 (sl v3) r.1.l R4 :: box b 115 [(sl v4), (.int .i64 r.2.1), (sl v6), (.int .i64 r.2.2.1), (.int .i64 r.2.2.2.1), (.int .i64 r.2.2.2.2)] :: osl Q1 28 (sl v4) l R :: osl RS 9 (sl v6) names R7 :: Φ) w') := by
 refine CallsX_enter Tryd.func93 rfl Tryd.ntmps93 rfl ?_
 unfold expr_read_before_s5 at hm
 refine WC_seq <| WC_region ?_
 refine WS_alloc (zs := [(.int .i64 0), (.int .i64 0), (.int .i64 0), (sl (none, 0, 0))]) hs ti51 rfl rfl ?_
 intro b9 w10 hs
 replace hs := Sat.n7 (Γ := Φ) hs rfl
 refine WL_nil <| At_then <| WC_seq <| WC_region ?_
 iterate 2 refine W ?_
 obtain ⟨r11, hr12, hm⟩ := bind_some' hm
 refine WL_call (f := 83) (first := []) (cap := []) (xs := [(.tmp 13), (.tmp 14)]) (vs := [(.pointer (some ⟨b, 0, none⟩)), (sl v2)]) (args := [(.pointer (some ⟨b, 0, none⟩)), (sl v2)]) Tryd.call83 Opd.f (.cons (O rfl) (.cons (O rfl) .nil)) rfl rfl (expr_read_is_s3_ok (hs.re 7 [1, 2, 3, 4, 5, 6, 0, 2, 5, 6] rfl) hr12) ?_
 rintro _ w13 ⟨rfl, hs⟩
 replace hs := Sat.n7 (Γ := Φ) hs rfl
 iterate 5 refine W ?_
 refine WL_nil <| At_then <| WC_seq <| WC_seq <| WC_region ?_
 iterate 2 refine W ?_
 refine WL_nil <| At_then ?_
 refine WC_cond (O rfl) (fun hc14 => ?_) (fun hc14 => ?_)
 ·
  replace hm := bif_t hc14 hm
  refine WC_seq <| WC_region ?_
  iterate 2 refine W ?_
  obtain ⟨r15, hr16, hm⟩ := bind_some' hm
  refine WL_call (f := 94) (first := []) (cap := []) (xs := [(.tmp 21)]) (vs := [(.pointer (some ⟨b, 0, none⟩))]) (args := [(.pointer (some ⟨b, 0, none⟩))]) Tryd.call94 (O rfl) (.cons (O rfl) .nil) rfl rfl (expr_read_cmp_s3_ok (@ih_expr_read_lower_s11) (hs.re 7 [0, 1, 2, 5, 6, 3, 4, 5, 6] rfl) hr16) ?_
  rintro _ w19 ⟨v17, R18, rfl, hs⟩
  replace hs := Sat.n8 (Γ := Φ) hs rfl
  refine WS_store (us := [(.int .i64 r15.1.op), (.int .i64 r15.1.n), (.int .i64 r15.1.at_), (sl v17)]) (vs' := [(.int .i64 r15.1.op), (.int .i64 r15.1.n), (.int .i64 r15.1.at_), (sl v17)]) hs 4 rfl ti51 (O rfl) (O rfl) rfl rfl rfl rfl rfl ?_
  intro w20 hs
  replace hs := Sat.n8 (Γ := Φ) hs rfl
  refine WL_nil <| At_then ?_
  refine WC_ret ?_
  refine At_then_ret <| ?_
  refine At_r1 rfl (ResIs.cA (vs := [(.int .i64 r15.1.op), (.int .i64 r15.1.n), (.int .i64 r15.1.at_), (sl v17)]) rfl Tryd.underlying51 rfl ti51 ((hs.box (i := 4) rfl).part 0 rfl) rfl) ?_
  cases hm
  exact ⟨v17, R18, rfl, (hs.re 8 [0, 1, 2, 3] rfl)⟩
 ·
  replace hm := bif_f hc14 hm
  refine WC_skip ?_
  refine At_then <| WC_seq <| WC_region ?_
  refine W ?_
  obtain ⟨r21, hr22, hm⟩ := bind_some' hm
  refine WL_call (f := 84) (first := []) (cap := []) (xs := [(.tmp 23)]) (vs := [(.pointer (some ⟨b, 0, none⟩))]) (args := [(.pointer (some ⟨b, 0, none⟩))]) Tryd.call84 Opd.f (.cons (O rfl) .nil) rfl rfl (expr_read_next_s3_ok (hs.re 7 [0, 1, 2, 3, 4, 5, 6] rfl) hr22) ?_
  rintro _ w23 ⟨rfl, hs⟩
  replace hs := Sat.n7 (Γ := Φ) hs rfl
  refine WS_alloc (zs := [(.int .i64 0), (S []), (.int .i64 0), (.int .i64 0)]) hs ti28 rfl rfl ?_
  intro b24 w25 hs
  replace hs := Sat.n8 (Γ := Φ) hs rfl
  refine WS_store (us := [(.int .i64 r21.1), (S r21.2.1), (.int .i64 r21.2.2.1), (.int .i64 r21.2.2.2)]) (vs' := [(.int .i64 r21.1), (S r21.2.1), (.int .i64 r21.2.2.1), (.int .i64 r21.2.2.2)]) hs 0 rfl ti28 (O rfl) (O rfl) rfl rfl rfl rfl rfl ?_
  intro w26 hs
  replace hs := Sat.n8 (Γ := Φ) hs rfl
  refine WL_nil <| At_then <| WC_seq <| WC_region ?_
  iterate 7 refine W ?_
  refine WS_store (us := [(.int .i64 (IntKind.i64.wrap (at_ + 1)))]) (vs' := [(sl v4), (.int .i64 (IntKind.i64.wrap (at_ + 1))), (sl v6), (.int .i64 deep), (.int .i64 bad), (.int .i64 place)]) hs 1 rfl ti3 (O rfl) (O rfl) rfl rfl rfl rfl rfl ?_
  intro w27 hs
  replace hs := Sat.n8 (Γ := Φ) hs rfl
  refine WL_nil <| At_then <| WC_seq ?_
  refine WC_region_mixed [0, 0, 2, 0, 0, 24, 32, 69, 255] (.q 0 0 (.q 1 1 (.q 2 3 (.q 3 7 (.q 4 15 (.l 5 31 (.l 6 63 (.q 7 127 (.l 8 255 .nil))))))))) (by kernel_rfl) (by kernel_rfl) ?_
  intro w28 hx29
  replace hs := hs.ext hx29
  refine WD_pure (fun _ => (Run_move (O rfl))) rfl rfl rfl rfl <| WD_pure (fun _ => (Run_fieldAddr fo28_3 (O rfl))) rfl rfl rfl rfl <| WD_op (fun w => CellsAt w ⟨b24, 3, none⟩ [(.int .i64 r21.2.2.2)]) ((hs.box (i := 0) rfl).part 3 rfl) (fun _ hJ => (Run_load1 (v := (.int .i64 r21.2.2.2)) Tryd.underlying3 rfl (O rfl) (fun _ => hJ))) rfl rfl rfl rfl <| WD_pure (fun _ => (Run_move (O rfl))) rfl rfl rfl rfl <| WD_pure (fun _ => (Run_move (O rfl))) rfl rfl rfl rfl <| ?_
  refine WD_loud (pend' := [(2, fun w => CellsAt w ⟨b24, 3, none⟩ [(.int .i64 r21.2.2.2)])]) rfl (by kernel_rfl) ?_
  obtain ⟨r30, hr31, hm⟩ := bind_some' hm
  refine WL_call (f := 77) (first := []) (cap := []) (xs := [(.tmp 35), (.tmp 36)]) (vs := [(.pointer (some ⟨b, 0, none⟩)), (.func (.func 92) #[] #[])]) (args := [(.pointer (some ⟨b, 0, none⟩)), (.func (.func 92) #[] #[])]) Tryd.call77 Opd.f (.cons (O rfl) (.cons (O rfl) .nil)) rfl rfl (ih_expr_read_lower_s14 (hs.re 8 [1, 2, 3, 6, 7, 0, 4, 5, 6, 7] rfl) hr31) ?_
  rintro _ w34 ⟨v32, R33, rfl, hs⟩
  replace hs := Sat.n9 (Γ := Φ) hs rfl
  refine WL_nil ?_
  refine At_QK (allJ_cons ((hs.box (i := 4) rfl).part 3 rfl) allJ_nil) ?_
  refine WD_loud (pend' := [(2, fun w => CellsAt w ⟨b24, 3, none⟩ [(.int .i64 r21.2.2.2)])]) rfl (by kernel_rfl) ?_
  replace hs := hs.freeze (i := 0) rfl
  refine WS_lit (A := RExpr) (xs := [r30.1]) (zs := [(.int .i64 0), (.int .i64 0), (.int .i64 0), (sl (none, 0, 0))]) (cells := [(.int .i64 r30.1.op), (.int .i64 r30.1.n), (.int .i64 r30.1.at_), (sl v32)]) (parts := [(0, (.tmp 37))]) hs Tryd.underlying49 ti51 rfl rfl rfl (.cons (O rfl) .nil) (by kernel_rfl) rfl (ARd.cons (A := RExpr) (c := [(.int .i64 r30.1.op), (.int .i64 r30.1.n), (.int .i64 r30.1.at_), (sl v32)]) (x := r30.1) (RExpr_closeE (⟨_, rfl, (hs.sl (i := 0) rfl)⟩)) ARd.nil) rfl ?_
  intro b35 w36 hs
  replace hs := Sat.n10 (Γ := Φ) hs rfl
  refine WL_nil ?_
  refine At_QK (allJ_cons ((hs.box (i := 5) rfl).part 3 rfl) allJ_nil) ?_
  refine WD_pure (fun _ => (Run_build (parts := [(0, (.tmp 32)), (2, (.tmp 34)), (3, (.tmp 38))]) (v := (.agg #[(.int .i64 r11.1), (.int .i64 0), (.int .i64 r21.2.2.2), (sl (some ⟨b35, 0, none⟩, 1, 1))])) (.cons (O rfl) (.cons (O rfl) (.cons (O rfl) .nil))) (fun _ => by kernel_rfl))) rfl rfl rfl rfl <| ?_
  refine WD_loud (pend' := []) rfl (by kernel_rfl) ?_
  refine WS_store (us := [(.int .i64 r11.1), (.int .i64 0), (.int .i64 r21.2.2.2), (sl (some ⟨b35, 0, none⟩, 1, 1))]) (vs' := [(.int .i64 r11.1), (.int .i64 0), (.int .i64 r21.2.2.2), (sl (some ⟨b35, 0, none⟩, 1, 1))]) hs 6 rfl ti51 (O rfl) (O rfl) rfl rfl rfl rfl rfl ?_
  intro w37 hs
  replace hs := Sat.n10 (Γ := Φ) hs rfl
  refine WL_nil ?_
  refine At_QK allJ_nil ?_
  refine WD_nil ?_
  refine At_then ?_
  refine WC_ret ?_
  refine At_r1 rfl (ResIs.cA (vs := [(.int .i64 r11.1), (.int .i64 0), (.int .i64 r21.2.2.2), (sl (some ⟨b35, 0, none⟩, 1, 1))]) rfl Tryd.underlying51 rfl ti51 ((hs.box (i := 6) rfl).part 0 rfl) rfl) ?_
  cases hm
  exact ⟨(some ⟨b35, 0, none⟩, 1, 1), [b35], rfl, (hs.re 10 [0, 2, 3, 4] rfl)⟩
theorem expr_read_pre_s3_ok {k_expr_read_lower_s11 k_expr_read_lower_s14} (ih_expr_read_lower_s11 : ∀ {Φ : Ctx} {w : World} {l : Q3} {at_ : Int} {names : (List Str)} {deep : Int} {bad : Int} {place : Int} {b : Nat} {v2 : SLV} {R : List Nat} {v4 : SLV} {R5 : List Nat} {r : Q4}, Sat (box b 115 [(sl v2), (.int .i64 at_), (sl v4), (.int .i64 deep), (.int .i64 bad), (.int .i64 place)] :: osl Q1 28 (sl v2) l R :: osl RS 9 (sl v4) names R5 :: gl 0 (keysL.map S) :: gl 1 (textsL.map S) :: Φ) w → k_expr_read_lower_s11 (l, at_, names, deep, bad, place) = some r → CallsR Tryd.prog 77 [(.pointer (some ⟨b, 0, none⟩)), (.func (.func 78) #[] #[])] w (fun v w' => ∃ v3 : SLV, ∃ R4 : List Nat, v = (.agg #[(.int .i64 r.1.op), (.int .i64 r.1.n), (.int .i64 r.1.at_), (sl v3)]) ∧ Sat (osl RExpr 51 (sl v3) r.1.l R4 :: box b 115 [(sl v2), (.int .i64 r.2.1), (sl v4), (.int .i64 r.2.2.1), (.int .i64 r.2.2.2.1), (.int .i64 r.2.2.2.2)] :: osl Q1 28 (sl v2) l R :: osl RS 9 (sl v4) names R5 :: Φ) w')) (ih_expr_read_lower_s14 : ∀ {Φ : Ctx} {w : World} {l : Q3} {at_ : Int} {names : (List Str)} {deep : Int} {bad : Int} {place : Int} {b : Nat} {v2 : SLV} {R : List Nat} {v4 : SLV} {R5 : List Nat} {r : Q4}, Sat (box b 115 [(sl v2), (.int .i64 at_), (sl v4), (.int .i64 deep), (.int .i64 bad), (.int .i64 place)] :: osl Q1 28 (sl v2) l R :: osl RS 9 (sl v4) names R5 :: gl 0 (keysL.map S) :: gl 1 (textsL.map S) :: Φ) w → k_expr_read_lower_s14 (l, at_, names, deep, bad, place) = some r → CallsR Tryd.prog 77 [(.pointer (some ⟨b, 0, none⟩)), (.func (.func 92) #[] #[])] w (fun v w' => ∃ v3 : SLV, ∃ R4 : List Nat, v = (.agg #[(.int .i64 r.1.op), (.int .i64 r.1.n), (.int .i64 r.1.at_), (sl v3)]) ∧ Sat (osl RExpr 51 (sl v3) r.1.l R4 :: box b 115 [(sl v2), (.int .i64 r.2.1), (sl v4), (.int .i64 r.2.2.1), (.int .i64 r.2.2.2.1), (.int .i64 r.2.2.2.2)] :: osl Q1 28 (sl v2) l R :: osl RS 9 (sl v4) names R5 :: Φ) w')) {Φ : Ctx} {w : World} {l : Q3} {at_ : Int} {names : (List Str)} {deep : Int} {bad : Int} {place : Int} {b : Nat} {v2 : SLV} {R : List Nat} {v4 : SLV} {R5 : List Nat} {r : Q4} (hs : Sat (box b 115 [(sl v2), (.int .i64 at_), (sl v4), (.int .i64 deep), (.int .i64 bad), (.int .i64 place)] :: osl Q1 28 (sl v2) l R :: osl RS 9 (sl v4) names R5 :: gl 0 (keysL.map S) :: gl 1 (textsL.map S) :: Φ) w) (hm : expr_read_pre_s3 k_expr_read_lower_s11 k_expr_read_lower_s14 l at_ names deep bad place = some r) :
  CallsR Tryd.prog 92 [(.pointer (some ⟨b, 0, none⟩))] w (fun v w' => ∃ v3 : SLV, ∃ R4 : List Nat, v = (.agg #[(.int .i64 r.1.op), (.int .i64 r.1.n), (.int .i64 r.1.at_), (sl v3)]) ∧ Sat (osl RExpr 51 (sl v3) r.1.l R4 :: box b 115 [(sl v2), (.int .i64 r.2.1), (sl v4), (.int .i64 r.2.2.1), (.int .i64 r.2.2.2.1), (.int .i64 r.2.2.2.2)] :: osl Q1 28 (sl v2) l R :: osl RS 9 (sl v4) names R5 :: Φ) w') := by
 refine CallsX_enter Tryd.func92 rfl Tryd.ntmps92 rfl ?_
 unfold expr_read_pre_s3 at hm
 refine WC_seq <| WC_region ?_
 refine WS_alloc (zs := [(.int .i64 0), (.int .i64 0), (.int .i64 0), (sl (none, 0, 0))]) hs ti51 rfl rfl ?_
 intro b9 w10 hs
 replace hs := Sat.n6 (Γ := Φ) hs rfl
 refine WL_nil <| At_then <| WC_seq <| WC_region ?_
 refine W ?_
 refine WS_lit (A := (RI .i64)) (xs := [15, 20, 21, 22]) (zs := [(.int .i64 0)]) (cells := [(.int .i64 15), (.int .i64 20), (.int .i64 21), (.int .i64 22)]) (parts := [(0, (.const (.int .i64 15))), (1, (.const (.int .i64 20))), (2, (.const (.int .i64 21))), (3, (.const (.int .i64 22)))]) hs Tryd.underlying30 ti3 rfl rfl rfl (.cons Opd.c (.cons Opd.c (.cons Opd.c (.cons Opd.c .nil)))) (by kernel_rfl) rfl (ARd.cons (A := (RI .i64)) (c := [(.int .i64 15)]) (x := 15) rfl (ARd.cons (A := (RI .i64)) (c := [(.int .i64 20)]) (x := 20) rfl (ARd.cons (A := (RI .i64)) (c := [(.int .i64 21)]) (x := 21) rfl (ARd.cons (A := (RI .i64)) (c := [(.int .i64 22)]) (x := 22) rfl ARd.nil)))) rfl ?_
 intro b11 w12 hs
 replace hs := Sat.n7 (Γ := Φ) hs rfl
 replace hs := hs.freeze (i := 0) rfl
 obtain ⟨r13, hr14, hm⟩ := bind_some' hm
 refine WL_call (f := 93) (first := []) (cap := []) (xs := [(.tmp 3), (.func 92), (.func 94), (.tmp 4)]) (vs := [(.pointer (some ⟨b, 0, none⟩)), (.func (.func 92) #[] #[]), (.func (.func 94) #[] #[]), (sl (some ⟨b11, 0, none⟩, 4, 4))]) (args := [(.pointer (some ⟨b, 0, none⟩)), (.func (.func 92) #[] #[]), (.func (.func 94) #[] #[]), (sl (some ⟨b11, 0, none⟩, 4, 4))]) Tryd.call93 Opd.f (.cons (O rfl) (.cons Opd.f (.cons Opd.f (.cons (O rfl) .nil)))) rfl rfl (expr_read_before_s5_ok (@ih_expr_read_lower_s11) (@ih_expr_read_lower_s14) (hs.re 7 [2, 0, 3, 4, 5, 6, 0, 1, 5, 6] rfl) hr14) ?_
 rintro _ w17 ⟨v15, R16, rfl, hs⟩
 replace hs := Sat.n8 (Γ := Φ) hs rfl
 refine WS_store (us := [(.int .i64 r13.1.op), (.int .i64 r13.1.n), (.int .i64 r13.1.at_), (sl v15)]) (vs' := [(.int .i64 r13.1.op), (.int .i64 r13.1.n), (.int .i64 r13.1.at_), (sl v15)]) hs 5 rfl ti51 (O rfl) (O rfl) rfl rfl rfl rfl rfl ?_
 intro w18 hs
 replace hs := Sat.n8 (Γ := Φ) hs rfl
 refine WL_nil <| At_then ?_
 refine WC_ret ?_
 refine At_r1 rfl (ResIs.cA (vs := [(.int .i64 r13.1.op), (.int .i64 r13.1.n), (.int .i64 r13.1.at_), (sl v15)]) rfl Tryd.underlying51 rfl ti51 ((hs.box (i := 5) rfl).part 0 rfl) rfl) ?_
 cases hm
 exact ⟨v15, R16, rfl, (hs.re 8 [0, 1, 2, 3] rfl)⟩
theorem expr_read_lower_s14_F_ok {k_expr_read_lower_s11 k_expr_read_lower_s14} (ih_expr_read_lower_s11 : ∀ {Φ : Ctx} {w : World} {l : Q3} {at_ : Int} {names : (List Str)} {deep : Int} {bad : Int} {place : Int} {b : Nat} {v2 : SLV} {R : List Nat} {v4 : SLV} {R5 : List Nat} {r : Q4}, Sat (box b 115 [(sl v2), (.int .i64 at_), (sl v4), (.int .i64 deep), (.int .i64 bad), (.int .i64 place)] :: osl Q1 28 (sl v2) l R :: osl RS 9 (sl v4) names R5 :: gl 0 (keysL.map S) :: gl 1 (textsL.map S) :: Φ) w → k_expr_read_lower_s11 (l, at_, names, deep, bad, place) = some r → CallsR Tryd.prog 77 [(.pointer (some ⟨b, 0, none⟩)), (.func (.func 78) #[] #[])] w (fun v w' => ∃ v3 : SLV, ∃ R4 : List Nat, v = (.agg #[(.int .i64 r.1.op), (.int .i64 r.1.n), (.int .i64 r.1.at_), (sl v3)]) ∧ Sat (osl RExpr 51 (sl v3) r.1.l R4 :: box b 115 [(sl v2), (.int .i64 r.2.1), (sl v4), (.int .i64 r.2.2.1), (.int .i64 r.2.2.2.1), (.int .i64 r.2.2.2.2)] :: osl Q1 28 (sl v2) l R :: osl RS 9 (sl v4) names R5 :: Φ) w')) (ih_expr_read_lower_s14 : ∀ {Φ : Ctx} {w : World} {l : Q3} {at_ : Int} {names : (List Str)} {deep : Int} {bad : Int} {place : Int} {b : Nat} {v2 : SLV} {R : List Nat} {v4 : SLV} {R5 : List Nat} {r : Q4}, Sat (box b 115 [(sl v2), (.int .i64 at_), (sl v4), (.int .i64 deep), (.int .i64 bad), (.int .i64 place)] :: osl Q1 28 (sl v2) l R :: osl RS 9 (sl v4) names R5 :: gl 0 (keysL.map S) :: gl 1 (textsL.map S) :: Φ) w → k_expr_read_lower_s14 (l, at_, names, deep, bad, place) = some r → CallsR Tryd.prog 77 [(.pointer (some ⟨b, 0, none⟩)), (.func (.func 92) #[] #[])] w (fun v w' => ∃ v3 : SLV, ∃ R4 : List Nat, v = (.agg #[(.int .i64 r.1.op), (.int .i64 r.1.n), (.int .i64 r.1.at_), (sl v3)]) ∧ Sat (osl RExpr 51 (sl v3) r.1.l R4 :: box b 115 [(sl v2), (.int .i64 r.2.1), (sl v4), (.int .i64 r.2.2.1), (.int .i64 r.2.2.2.1), (.int .i64 r.2.2.2.2)] :: osl Q1 28 (sl v2) l R :: osl RS 9 (sl v4) names R5 :: Φ) w')) {Φ : Ctx} {w : World} {l : Q3} {at_ : Int} {names : (List Str)} {deep : Int} {bad : Int} {place : Int} {b : Nat} {v2 : SLV} {R : List Nat} {v4 : SLV} {R5 : List Nat} {r : Q4} (hs : Sat (box b 115 [(sl v2), (.int .i64 at_), (sl v4), (.int .i64 deep), (.int .i64 bad), (.int .i64 place)] :: osl Q1 28 (sl v2) l R :: osl RS 9 (sl v4) names R5 :: gl 0 (keysL.map S) :: gl 1 (textsL.map S) :: Φ) w) (hm : expr_read_lower_s14_F k_expr_read_lower_s11 k_expr_read_lower_s14 l at_ names deep bad place = some r) :
  CallsR Tryd.prog 77 [(.pointer (some ⟨b, 0, none⟩)), (.func (.func 92) #[] #[])] w (fun v w' => ∃ v3 : SLV, ∃ R4 : List Nat, v = (.agg #[(.int .i64 r.1.op), (.int .i64 r.1.n), (.int .i64 r.1.at_), (sl v3)]) ∧ Sat (osl RExpr 51 (sl v3) r.1.l R4 :: box b 115 [(sl v2), (.int .i64 r.2.1), (sl v4), (.int .i64 r.2.2.1), (.int .i64 r.2.2.2.1), (.int .i64 r.2.2.2.2)] :: osl Q1 28 (sl v2) l R :: osl RS 9 (sl v4) names R5 :: Φ) w') := by
 refine CallsX_enter Tryd.func77 rfl Tryd.ntmps77 rfl ?_
 unfold expr_read_lower_s14_F at hm
 refine WC_seq <| WC_region ?_
 refine WS_alloc (zs := [(.int .i64 0), (.int .i64 0), (.int .i64 0), (sl (none, 0, 0))]) hs ti51 rfl rfl ?_
 intro b9 w10 hs
 replace hs := Sat.n6 (Γ := Φ) hs rfl
 refine WL_nil <| At_then <| WC_seq <| WC_seq <| WC_region ?_
 iterate 5 refine W ?_
 refine WL_nil <| At_then ?_
 refine WC_cond (O rfl) (fun hc11 => ?_) (fun hc11 => ?_)
 ·
  replace hm := bif_t hc11 hm
  refine WC_seq <| WC_region ?_
  refine W ?_
  obtain ⟨r12, hr13, hm⟩ := bind_some' hm
  refine WL_call (f := 80) (first := []) (cap := []) (xs := [(.tmp 11), (.const (.int .i64 9))]) (vs := [(.pointer (some ⟨b, 0, none⟩)), (.int .i64 9)]) (args := [(.pointer (some ⟨b, 0, none⟩)), (.int .i64 9)]) Tryd.call80 Opd.f (.cons (O rfl) (.cons Opd.c .nil)) rfl rfl (expr_read_fail_s3_ok (hs.re 6 [1, 2, 3, 0, 4, 5] rfl) hr13) ?_
  rintro _ w16 ⟨v14, R15, rfl, hs⟩
  replace hs := Sat.n7 (Γ := Φ) hs rfl
  refine WS_store (us := [(.int .i64 r12.1.op), (.int .i64 r12.1.n), (.int .i64 r12.1.at_), (sl v14)]) (vs' := [(.int .i64 r12.1.op), (.int .i64 r12.1.n), (.int .i64 r12.1.at_), (sl v14)]) hs 4 rfl ti51 (O rfl) (O rfl) rfl rfl rfl rfl rfl ?_
  intro w17 hs
  replace hs := Sat.n7 (Γ := Φ) hs rfl
  refine WL_nil <| At_then ?_
  refine WC_ret ?_
  refine At_then_ret <| ?_
  refine At_r1 rfl (ResIs.cA (vs := [(.int .i64 r12.1.op), (.int .i64 r12.1.n), (.int .i64 r12.1.at_), (sl v14)]) rfl Tryd.underlying51 rfl ti51 ((hs.box (i := 4) rfl).part 0 rfl) rfl) ?_
  cases hm
  exact ⟨v14, R15, rfl, (hs.re 7 [0, 1, 2, 3] rfl)⟩
 ·
  replace hm := bif_f hc11 hm
  refine WC_skip ?_
  refine At_then <| WC_seq <| WC_region ?_
  iterate 7 refine W ?_
  refine WS_store (us := [(.int .i64 (IntKind.i64.wrap (deep + 1)))]) (vs' := [(sl v2), (.int .i64 at_), (sl v4), (.int .i64 (IntKind.i64.wrap (deep + 1))), (.int .i64 bad), (.int .i64 place)]) hs 1 rfl ti3 (O rfl) (O rfl) rfl rfl rfl rfl rfl ?_
  intro w18 hs
  replace hs := Sat.n6 (Γ := Φ) hs rfl
  refine WL_nil <| At_then <| WC_seq <| WC_region ?_
  iterate 2 refine W ?_
  obtain ⟨r19, hr20, hm⟩ := bind_some' hm
  refine WL_call (f := 92) (first := []) (cap := []) (xs := [(.tmp 21)]) (vs := [(.pointer (some ⟨b, 0, none⟩))]) (args := [(.pointer (some ⟨b, 0, none⟩))]) Tryd.call92 (O rfl) (.cons (O rfl) .nil) rfl rfl (expr_read_pre_s3_ok (@ih_expr_read_lower_s11) (@ih_expr_read_lower_s14) (hs.re 6 [1, 2, 3, 4, 5, 0, 4, 5] rfl) hr20) ?_
  rintro _ w23 ⟨v21, R22, rfl, hs⟩
  replace hs := Sat.n7 (Γ := Φ) hs rfl
  refine WS_alloc (zs := [(.int .i64 0), (.int .i64 0), (.int .i64 0), (sl (none, 0, 0))]) hs ti51 rfl rfl ?_
  intro b24 w25 hs
  replace hs := Sat.n8 (Γ := Φ) hs rfl
  refine WS_store (us := [(.int .i64 r19.1.op), (.int .i64 r19.1.n), (.int .i64 r19.1.at_), (sl v21)]) (vs' := [(.int .i64 r19.1.op), (.int .i64 r19.1.n), (.int .i64 r19.1.at_), (sl v21)]) hs 0 rfl ti51 (O rfl) (O rfl) rfl rfl rfl rfl rfl ?_
  intro w26 hs
  replace hs := Sat.n8 (Γ := Φ) hs rfl
  refine WL_nil <| At_then <| WC_seq <| WC_region ?_
  iterate 7 refine W ?_
  refine WS_store (us := [(.int .i64 (IntKind.i64.wrap (r19.2.2.1 - 1)))]) (vs' := [(sl v2), (.int .i64 r19.2.1), (sl v4), (.int .i64 (IntKind.i64.wrap (r19.2.2.1 - 1))), (.int .i64 r19.2.2.2.1), (.int .i64 r19.2.2.2.2)]) hs 2 rfl ti3 (O rfl) (O rfl) rfl rfl rfl rfl rfl ?_
  intro w27 hs
  replace hs := Sat.n8 (Γ := Φ) hs rfl
  refine WL_nil <| At_then <| WC_seq <| WC_region ?_
  refine Wo (Run_loadA (vs := [(.int .i64 r19.1.op), (.int .i64 r19.1.n), (.int .i64 r19.1.at_), (sl v21)]) Tryd.underlying51 rfl ti51 (O rfl) (fun _ => (hs.box (i := 0) rfl).part 0 rfl) rfl) rfl <| ?_
  refine WS_store (us := [(.int .i64 r19.1.op), (.int .i64 r19.1.n), (.int .i64 r19.1.at_), (sl v21)]) (vs' := [(.int .i64 r19.1.op), (.int .i64 r19.1.n), (.int .i64 r19.1.at_), (sl v21)]) hs 5 rfl ti51 (O rfl) (O rfl) rfl rfl rfl rfl rfl ?_
  intro w28 hs
  replace hs := Sat.n8 (Γ := Φ) hs rfl
  refine WL_nil <| At_then ?_
  refine WC_ret ?_
  refine At_r1 rfl (ResIs.cA (vs := [(.int .i64 r19.1.op), (.int .i64 r19.1.n), (.int .i64 r19.1.at_), (sl v21)]) rfl Tryd.underlying51 rfl ti51 ((hs.box (i := 5) rfl).part 0 rfl) rfl) ?_
  cases hm
  exact ⟨v21, R22, rfl, (hs.re 8 [1, 2, 3, 4] rfl)⟩
theorem expr_read_lower_s14_ok {k_expr_read_lower_s11} (ih_expr_read_lower_s11 : ∀ {Φ : Ctx} {w : World} {l : Q3} {at_ : Int} {names : (List Str)} {deep : Int} {bad : Int} {place : Int} {b : Nat} {v2 : SLV} {R : List Nat} {v4 : SLV} {R5 : List Nat} {r : Q4}, Sat (box b 115 [(sl v2), (.int .i64 at_), (sl v4), (.int .i64 deep), (.int .i64 bad), (.int .i64 place)] :: osl Q1 28 (sl v2) l R :: osl RS 9 (sl v4) names R5 :: gl 0 (keysL.map S) :: gl 1 (textsL.map S) :: Φ) w → k_expr_read_lower_s11 (l, at_, names, deep, bad, place) = some r → CallsR Tryd.prog 77 [(.pointer (some ⟨b, 0, none⟩)), (.func (.func 78) #[] #[])] w (fun v w' => ∃ v3 : SLV, ∃ R4 : List Nat, v = (.agg #[(.int .i64 r.1.op), (.int .i64 r.1.n), (.int .i64 r.1.at_), (sl v3)]) ∧ Sat (osl RExpr 51 (sl v3) r.1.l R4 :: box b 115 [(sl v2), (.int .i64 r.2.1), (sl v4), (.int .i64 r.2.2.1), (.int .i64 r.2.2.2.1), (.int .i64 r.2.2.2.2)] :: osl Q1 28 (sl v2) l R :: osl RS 9 (sl v4) names R5 :: Φ) w')) {Φ : Ctx} {w : World} {l : Q3} {at_ : Int} {names : (List Str)} {deep : Int} {bad : Int} {place : Int} {b : Nat} {v2 : SLV} {R : List Nat} {v4 : SLV} {R5 : List Nat} {r : Q4} (hs : Sat (box b 115 [(sl v2), (.int .i64 at_), (sl v4), (.int .i64 deep), (.int .i64 bad), (.int .i64 place)] :: osl Q1 28 (sl v2) l R :: osl RS 9 (sl v4) names R5 :: gl 0 (keysL.map S) :: gl 1 (textsL.map S) :: Φ) w) (hm : expr_read_lower_s14 k_expr_read_lower_s11 l at_ names deep bad place = some r) :
  CallsR Tryd.prog 77 [(.pointer (some ⟨b, 0, none⟩)), (.func (.func 92) #[] #[])] w (fun v w' => ∃ v3 : SLV, ∃ R4 : List Nat, v = (.agg #[(.int .i64 r.1.op), (.int .i64 r.1.n), (.int .i64 r.1.at_), (sl v3)]) ∧ Sat (osl RExpr 51 (sl v3) r.1.l R4 :: box b 115 [(sl v2), (.int .i64 r.2.1), (sl v4), (.int .i64 r.2.2.1), (.int .i64 r.2.2.2.1), (.int .i64 r.2.2.2.2)] :: osl Q1 28 (sl v2) l R :: osl RS 9 (sl v4) names R5 :: Φ) w') := by
 have key : ∀ (N : Nat) {Φ : Ctx} {w : World} {l : Q3} {at_ : Int} {names : (List Str)} {deep : Int} {bad : Int} {place : Int} {b : Nat} {v2 : SLV} {R : List Nat} {v4 : SLV} {R5 : List Nat} {r : Q4}, Sat (box b 115 [(sl v2), (.int .i64 at_), (sl v4), (.int .i64 deep), (.int .i64 bad), (.int .i64 place)] :: osl Q1 28 (sl v2) l R :: osl RS 9 (sl v4) names R5 :: gl 0 (keysL.map S) :: gl 1 (textsL.map S) :: Φ) w → fixN (fun k (s : (Q3 × Int × (List Str) × Int × Int × Int)) => expr_read_lower_s14_F k_expr_read_lower_s11 k s.1 s.2.1 s.2.2.1 s.2.2.2.1 s.2.2.2.2.1 s.2.2.2.2.2) N (l, at_, names, deep, bad, place) = some r → CallsR Tryd.prog 77 [(.pointer (some ⟨b, 0, none⟩)), (.func (.func 92) #[] #[])] w (fun v w' => ∃ v3 : SLV, ∃ R4 : List Nat, v = (.agg #[(.int .i64 r.1.op), (.int .i64 r.1.n), (.int .i64 r.1.at_), (sl v3)]) ∧ Sat (osl RExpr 51 (sl v3) r.1.l R4 :: box b 115 [(sl v2), (.int .i64 r.2.1), (sl v4), (.int .i64 r.2.2.1), (.int .i64 r.2.2.2.1), (.int .i64 r.2.2.2.2)] :: osl Q1 28 (sl v2) l R :: osl RS 9 (sl v4) names R5 :: Φ) w') := by
  intro N
  induction N with
  | zero => intros; rename_i h; cases h
  | succ N ih => intros; rename_i hs hm; rw [fixN_succ] at hm; exact expr_read_lower_s14_F_ok (@ih_expr_read_lower_s11) (@ih) hs hm
 unfold expr_read_lower_s14 at hm
 exact key FUEL hs hm
theorem expr_read_deepPre_s3_ok {k_expr_read_lower_s11} (ih_expr_read_lower_s11 : ∀ {Φ : Ctx} {w : World} {l : Q3} {at_ : Int} {names : (List Str)} {deep : Int} {bad : Int} {place : Int} {b : Nat} {v2 : SLV} {R : List Nat} {v4 : SLV} {R5 : List Nat} {r : Q4}, Sat (box b 115 [(sl v2), (.int .i64 at_), (sl v4), (.int .i64 deep), (.int .i64 bad), (.int .i64 place)] :: osl Q1 28 (sl v2) l R :: osl RS 9 (sl v4) names R5 :: gl 0 (keysL.map S) :: gl 1 (textsL.map S) :: Φ) w → k_expr_read_lower_s11 (l, at_, names, deep, bad, place) = some r → CallsR Tryd.prog 77 [(.pointer (some ⟨b, 0, none⟩)), (.func (.func 78) #[] #[])] w (fun v w' => ∃ v3 : SLV, ∃ R4 : List Nat, v = (.agg #[(.int .i64 r.1.op), (.int .i64 r.1.n), (.int .i64 r.1.at_), (sl v3)]) ∧ Sat (osl RExpr 51 (sl v3) r.1.l R4 :: box b 115 [(sl v2), (.int .i64 r.2.1), (sl v4), (.int .i64 r.2.2.1), (.int .i64 r.2.2.2.1), (.int .i64 r.2.2.2.2)] :: osl Q1 28 (sl v2) l R :: osl RS 9 (sl v4) names R5 :: Φ) w')) {Φ : Ctx} {w : World} {l : Q3} {at_ : Int} {names : (List Str)} {deep : Int} {bad : Int} {place : Int} {b : Nat} {v2 : SLV} {R : List Nat} {v4 : SLV} {R5 : List Nat} {r : Q4} (hs : Sat (box b 115 [(sl v2), (.int .i64 at_), (sl v4), (.int .i64 deep), (.int .i64 bad), (.int .i64 place)] :: osl Q1 28 (sl v2) l R :: osl RS 9 (sl v4) names R5 :: gl 0 (keysL.map S) :: gl 1 (textsL.map S) :: Φ) w) (hm : expr_read_deepPre_s3 k_expr_read_lower_s11 l at_ names deep bad place = some r) :
  CallsR Tryd.prog 91 [(.pointer (some ⟨b, 0, none⟩))] w (fun v w' => ∃ v3 : SLV, ∃ R4 : List Nat, v = (.agg #[(.int .i64 r.1.op), (.int .i64 r.1.n), (.int .i64 r.1.at_), (sl v3)]) ∧ Sat (osl RExpr 51 (sl v3) r.1.l R4 :: box b 115 [(sl v2), (.int .i64 r.2.1), (sl v4), (.int .i64 r.2.2.1), (.int .i64 r.2.2.2.1), (.int .i64 r.2.2.2.2)] :: osl Q1 28 (sl v2) l R :: osl RS 9 (sl v4) names R5 :: Φ) w') := by
 refine CallsX_enter Tryd.func91 rfl Tryd.ntmps91 rfl ?_
 unfold expr_read_deepPre_s3 at hm
 refine WC_seq <| WC_region ?_
 refine WS_alloc (zs := [(.int .i64 0), (.int .i64 0), (.int .i64 0), (sl (none, 0, 0))]) hs ti51 rfl rfl ?_
 intro b9 w10 hs
 replace hs := Sat.n6 (Γ := Φ) hs rfl
 refine WL_nil <| At_then <| WC_seq <| WC_region ?_
 refine W ?_
 obtain ⟨r11, hr12, hm⟩ := bind_some' hm
 refine WL_call (f := 77) (first := []) (cap := []) (xs := [(.tmp 3), (.func 92)]) (vs := [(.pointer (some ⟨b, 0, none⟩)), (.func (.func 92) #[] #[])]) (args := [(.pointer (some ⟨b, 0, none⟩)), (.func (.func 92) #[] #[])]) Tryd.call77 Opd.f (.cons (O rfl) (.cons Opd.f .nil)) rfl rfl (expr_read_lower_s14_ok (@ih_expr_read_lower_s11) (hs.re 6 [1, 2, 3, 4, 5, 0, 4, 5] rfl) hr12) ?_
 rintro _ w15 ⟨v13, R14, rfl, hs⟩
 replace hs := Sat.n7 (Γ := Φ) hs rfl
 refine WS_store (us := [(.int .i64 r11.1.op), (.int .i64 r11.1.n), (.int .i64 r11.1.at_), (sl v13)]) (vs' := [(.int .i64 r11.1.op), (.int .i64 r11.1.n), (.int .i64 r11.1.at_), (sl v13)]) hs 4 rfl ti51 (O rfl) (O rfl) rfl rfl rfl rfl rfl ?_
 intro w16 hs
 replace hs := Sat.n7 (Γ := Φ) hs rfl
 refine WL_nil <| At_then ?_
 refine WC_ret ?_
 refine At_r1 rfl (ResIs.cA (vs := [(.int .i64 r11.1.op), (.int .i64 r11.1.n), (.int .i64 r11.1.at_), (sl v13)]) rfl Tryd.underlying51 rfl ti51 ((hs.box (i := 4) rfl).part 0 rfl) rfl) ?_
 cases hm
 exact ⟨v13, R14, rfl, (hs.re 7 [0, 1, 2, 3] rfl)⟩
end Go.Proofs.YtdhgpnejphlfpaaDoor
