/- Printed by a program: slices.Insert at this seat's types. -/
import Derived.Test.YtjappdgehmjomaaK12
import Derived.Test.YtjappdgehmjomaaProg
namespace Go.Proofs.Ytjappdgehmjomaa
open Go.Proofs
theorem tiI : TI Try.prog 69 2 16 (.agg #[(.int .u8 0), (.int .i64 0)]) := by unfold TI; kernel_rfl

set_option maxRecDepth 100000 in
theorem insA {w w' : World} {p q : Option Addr} {n c m mc : Nat} {v' : Value} (hn : n ≤ c) (hm : 0 < m) (hr : (Builtin.append_ #[58, 58] 58 #[.slice p n c, .slice q m mc]).run Try.prog w = .ok v' w') :
    CallsR Try.prog 37 [.slice p n c, .int .i64 (n : Int), .slice q m mc] w (fun r w1 => r = v' ∧ w1 = w') := by
  have z1 : ((m : Int) == 0) = false := by simp; omega
  have z2 : ((n : Int) == (n : Int)) = true := by simp
  obtain ⟨vc, hcut⟩ : ∃ vc, CutV (.slice p n c) (n : Int) ((n : Nat) : Int) 2 vc := ⟨_, _, _, _, rfl, by omega, Int.le_refl _, Int.le_refl _, hn, rfl⟩
  refine CallsX_enter Try.func37 rfl Try.ntmps37 rfl ?_
  refine WC_seq ?_
  refine WC_region ?_
  refine WL_op (Run_assign Opd.c) rfl rfl rfl rfl <| ?_
  refine WL_nil ?_
  refine At_then ?_
  refine WC_seq ?_
  refine WC_region ?_
  refine WL_op (Run_move (Opd.t rfl)) rfl rfl rfl rfl <| WL_op (Run_move (Opd.t rfl)) rfl rfl rfl rfl <| WL_op (Run_cutSl (lo := some (.tmp 11)) (hi := none) Try.underlying58 tiI (Opd.t rfl) (fun _ => ⟨_, _, rfl⟩) ⟨_, (Opd.t rfl)⟩ rfl (fun _ => hcut)) rfl rfl rfl rfl <| ?_
  refine WL_nil ?_
  refine At_then ?_
  refine WC_seq ?_
  refine WC_region ?_
  refine WL_op (Run_move (Opd.t rfl)) rfl rfl rfl rfl <| WL_op (Run_lenSlG Try.underlying58 (Opd.t rfl) (fun _ => ⟨_, _, rfl⟩)) rfl rfl rfl rfl <| WL_op (Run_assign (Opd.t rfl)) rfl rfl rfl rfl <| ?_
  refine WL_nil ?_
  refine At_then ?_
  refine WC_seq ?_
  refine WC_seq ?_
  refine WC_region ?_
  refine WL_op (Run_move (Opd.t rfl)) rfl rfl rfl rfl <| WL_op (Run.eqB (Run_eqI (Opd.t rfl) Opd.c) z1) rfl rfl rfl rfl <| ?_
  refine WL_nil ?_
  refine At_then ?_
  refine WC_cond (Opd.t rfl) (fun h => by cases h) (fun _ => ?_)
  refine WC_skip ?_
  refine At_then ?_
  refine WC_seq ?_
  refine WC_region ?_
  refine WL_op (Run_move (Opd.t rfl)) rfl rfl rfl rfl <| WL_op (Run_lenSlG Try.underlying58 (Opd.t rfl) (fun _ => ⟨_, _, rfl⟩)) rfl rfl rfl rfl <| WL_op (Run_assign (Opd.t rfl)) rfl rfl rfl rfl <| ?_
  refine WL_nil ?_
  refine At_then ?_
  refine WC_seq ?_
  refine WC_seq ?_
  refine WC_region ?_
  refine WL_op (Run_move (Opd.t rfl)) rfl rfl rfl rfl <| WL_op (Run_move (Opd.t rfl)) rfl rfl rfl rfl <| WL_op (Run.eqB (Run_eqI (Opd.t rfl) (Opd.t rfl)) z2) rfl rfl rfl rfl <| ?_
  refine WL_nil ?_
  refine At_then ?_
  refine WC_cond (Opd.t rfl) (fun _ => ?_) (fun h => by cases h)
  refine WC_seq ?_
  refine WC_region ?_
  refine WL_op (Run_move (Opd.t rfl)) rfl rfl rfl rfl <| WL_op (Run_move (Opd.t rfl)) rfl rfl rfl rfl <| ?_
  refine WL_opW (RunW_append (Opd.t rfl) (Opd.t rfl) hr) rfl rfl rfl rfl ?_
  refine WL_op (Run_assign (Opd.t rfl)) rfl rfl rfl rfl <| ?_
  refine WL_nil ?_
  refine At_then ?_
  refine WC_ret ?_
  refine At_then_ret <| ?_
  refine At_r1 rfl (ResIs.t rfl) ?_
  exact ⟨rfl, rfl⟩

set_option maxRecDepth 100000 in
theorem insS {w : World} {b vb n c i m mc : Nat} {cur curv : Array Value} {ev : TypeId} (hin : i < n) (hm : 0 < m) (hroom : n + m ≤ c) (hc : c ≤ 9223372036854775807) (hne : vb ≠ b)
    (hb : w.heap[b]? = some (.cells cur 69 (0, 0))) (hsz : cur.size = c * 2) (hv : w.heap[vb]? = some (.cells curv ev (0, 0))) (hvs : m * 2 ≤ curv.size) (h1 : ∀ v ∈ cur.toList.take (n * 2), v.oneCell' = true) (h1v : ∀ v ∈ curv.toList.take (m * 2), v.oneCell' = true) :
    CallsR Try.prog 37 [.slice (some ⟨b, 0, none⟩) n c, .int .i64 (i : Int), .slice (some ⟨vb, 0, none⟩) m mc] w (fun r w1 => r = .slice (some ⟨b, 0, none⟩) (n + m) c ∧ Chg [b] w w1 ∧ ∃ cur' : Array Value, w1.heap[b]? = some (.cells cur' 69 (0, 0)) ∧ cur'.size = c * 2 ∧ cur'.toList.take ((n + m) * 2) = (cur.toList.take (n * 2)).take (i * 2) ++ curv.toList.take (m * 2) ++ (cur.toList.take (n * 2)).drop (i * 2)) := by
  have z1 : ((m : Int) == 0) = false := by simp; omega
  have z2 : ((i : Int) == (n : Int)) = false := by simp; omega
  have a1 : IntKind.i64.wrap ((n : Int) + (m : Int)) = ((n + m : Nat) : Int) := by rw [w64 (by omega)]; omega
  have a2 : IntKind.i64.wrap ((i : Int) + (m : Int)) = ((i + m : Nat) : Int) := by rw [w64 (by omega)]; omega
  have a3 : IntKind.i64.wrap (((n + m : Nat) : Int) - (i : Int)) = ((n + m - i : Nat) : Int) := by rw [w64 (by omega)]; omega
  have hl : cur.toList.length = c * 2 := by rw [Array.length_toList, hsz]
  have hvl : (curv.toList.take (m * 2)).length = m * 2 := by rw [List.length_take, Array.length_toList]; omega
  have z3 : decide ((c : Int) < ((n + m : Nat) : Int)) = false := by simp; omega
  have hC : Chg [b] w w := (Ext.refl w).chg _
  have hov : ∀ lb cb, (callFunc 43 [.slice (some ⟨vb, 0, none⟩) m mc, .slice (some ⟨b, 0 + (i + m) * 2, none⟩) lb cb].toArray).run Try.prog w = .ok (.value (.bool false)) w := fun lb cb => by
    rw [run_callFunc_extern Try.func43 (by kernel_rfl) (by kernel_rfl) (by kernel_rfl) (e := Extern.SlicesOverlaps.overlaps #[58, 58] #[4]) (by kernel_rfl)]
    have := Lib.run_overlaps_apart (P := Try.prog) w 58 4 69 Try.underlying58 2 (fun w => by obtain ⟨i', hi', hs', _, _⟩ := tiI.out; simp [sizeOf, typeInfo, hi', hs']) ⟨vb, 0, none⟩ ⟨b, 0 + (i + m) * 2, none⟩ m mc lb cb hne ev 69 curv.size cur.size (by unfold World.shape?; rw [hv]) (by unfold World.shape?; rw [hb]) (by omega) (by unfold World.frozen?; rw [hv]; rfl) (by unfold World.frozen?; rw [hv]; simp)
    show ((Extern.SlicesOverlaps.overlaps #[58, 58] #[4] #[.slice (some ⟨vb, 0, none⟩) m mc, .slice (some ⟨b, 0 + (i + m) * 2, none⟩) lb cb]).run Try.prog w).andThen _ = _
    rw [this]; rfl
  obtain ⟨hR1s, hR2s, hR2t⟩ := row_shift (l := cur.toList) (vs := curv.toList.take (m * 2)) (a := i * 2) (b := m * 2) (n := n * 2) (c := c * 2) (by omega) hvl (by omega) hl
  have hcl : ((cur.toList.drop (i * 2)).take (n * 2 - i * 2)).length = n * 2 - i * 2 := by rw [List.length_take, List.length_drop]; omega
  obtain ⟨R1, hR1⟩ : ∃ R1 : Array Value, R1 = (cur.toList.take (i * 2 + m * 2) ++ (cur.toList.drop (i * 2)).take (n * 2 - i * 2) ++ cur.toList.drop (i * 2 + m * 2 + ((cur.toList.drop (i * 2)).take (n * 2 - i * 2)).length)).toArray := ⟨_, rfl⟩
  have hR1l : R1.toList = cur.toList.take (i * 2 + m * 2) ++ (cur.toList.drop (i * 2)).take (n * 2 - i * 2) ++ cur.toList.drop (i * 2 + m * 2 + ((cur.toList.drop (i * 2)).take (n * 2 - i * 2)).length) := by rw [hR1]
  rw [← hR1l] at hR1s hR2s hR2t
  obtain ⟨R2, hR2⟩ : ∃ R2 : Array Value, R2 = (R1.toList.take (i * 2) ++ curv.toList.take (m * 2) ++ R1.toList.drop (i * 2 + (curv.toList.take (m * 2)).length)).toArray := ⟨_, rfl⟩
  have hR2l : R2.toList = R1.toList.take (i * 2) ++ curv.toList.take (m * 2) ++ R1.toList.drop (i * 2 + (curv.toList.take (m * 2)).length) := by rw [hR2]
  rw [← hR2l] at hR2s hR2t
  rw [Array.length_toList] at hR1s hR2s
  rw [show n * 2 + m * 2 = (n + m) * 2 by omega] at hR2t
  have run1 : ∀ W : World, W.heap[b]? = some (.cells cur 69 (0, 0)) → ∀ ty dc sc, (Builtin.copy_ #[58, 58] ty #[.slice (some ⟨b, 0 + (i + m) * 2, none⟩) (n + m - (i + m)) dc, .slice (some ⟨b, 0 + i * 2, none⟩) (n + m - i) sc]).run Try.prog W = .ok (goInt (Nat.min (n + m - i) (n + m - (i + m)))) (W.setRow b R1) := fun W hb ty dc sc => by
    have hmin : Nat.min (n + m - i) (n + m - (i + m)) = n - i := by simp only [Nat.min_def]; split <;> omega
    rw [hR1, show i * 2 + m * 2 = 0 + (i + m) * 2 by omega]
    exact run_copyRow Try.underlying58 tiI (by rw [hcl, hmin]; omega) (cell_of_heap hb _ _ (by rw [hcl, Nat.zero_add])) hb (by rw [hcl]; omega) (fun v hv => h1 v (by
      rw [← List.drop_take] at hv
      exact List.mem_of_mem_drop hv))
  have run2 : ∀ W : World, W.heap[b]? = some (.cells R1 69 (0, 0)) → W.heap[vb]? = some (.cells curv ev (0, 0)) → ∀ ty dc, (Builtin.copy_ #[58, 58] ty #[.slice (some ⟨b, 0 + i * 2, none⟩) (n + m - i) dc, .slice (some ⟨vb, 0, none⟩) m mc]).run Try.prog W = .ok (goInt (Nat.min m (n + m - i))) (W.setRow b R2) := fun W hb hv ty dc => by
    have hmin : Nat.min m (n + m - i) = m := by simp only [Nat.min_def]; split <;> omega
    rw [hR2, Nat.zero_add]
    exact run_copyRow Try.underlying58 tiI (by rw [hvl, hmin]) (cell_of_heap hv _ _ (by rw [hvl, List.drop_zero])) hb (by rw [hvl]; omega) h1v
  clear hR1 hR2 hR1l hR2l
  refine CallsX_enter Try.func37 rfl Try.ntmps37 rfl ?_
  refine WC_seq ?_
  refine WC_region ?_
  refine WL_op (Run_assign Opd.c) rfl rfl rfl rfl <| ?_
  refine WL_nil ?_
  refine At_then ?_
  refine WC_seq ?_
  refine WC_region ?_
  refine WL_op (Run_move (Opd.t rfl)) rfl rfl rfl rfl <| WL_op (Run_move (Opd.t rfl)) rfl rfl rfl rfl <| WL_op (Run_reLo Try.underlying58 tiI (Opd.t rfl) (Opd.t rfl) (by omega) (by omega) (by omega)) rfl rfl rfl rfl <| ?_
  refine WL_nil ?_
  refine At_then ?_
  refine WC_seq ?_
  refine WC_region ?_
  refine WL_op (Run_move (Opd.t rfl)) rfl rfl rfl rfl <| WL_op (Run_lenSlG Try.underlying58 (Opd.t rfl) (fun _ => ⟨_, _, rfl⟩)) rfl rfl rfl rfl <| WL_op (Run_assign (Opd.t rfl)) rfl rfl rfl rfl <| ?_
  refine WL_nil ?_
  refine At_then ?_
  refine WC_seq ?_
  refine WC_seq ?_
  refine WC_region ?_
  refine WL_op (Run_move (Opd.t rfl)) rfl rfl rfl rfl <| WL_op (Run.eqB (Run_eqI (Opd.t rfl) Opd.c) z1) rfl rfl rfl rfl <| ?_
  refine WL_nil ?_
  refine At_then ?_
  refine WC_cond (Opd.t rfl) (fun h => by cases h) (fun _ => ?_)
  refine WC_skip ?_
  refine At_then ?_
  refine WC_seq ?_
  refine WC_region ?_
  refine WL_op (Run_move (Opd.t rfl)) rfl rfl rfl rfl <| WL_op (Run_lenSlG Try.underlying58 (Opd.t rfl) (fun _ => ⟨_, _, rfl⟩)) rfl rfl rfl rfl <| WL_op (Run_assign (Opd.t rfl)) rfl rfl rfl rfl <| ?_
  refine WL_nil ?_
  refine At_then ?_
  refine WC_seq ?_
  refine WC_seq ?_
  refine WC_region ?_
  refine WL_op (Run_move (Opd.t rfl)) rfl rfl rfl rfl <| WL_op (Run_move (Opd.t rfl)) rfl rfl rfl rfl <| WL_op (Run.eqB (Run_eqI (Opd.t rfl) (Opd.t rfl)) z2) rfl rfl rfl rfl <| ?_
  refine WL_nil ?_
  refine At_then ?_
  refine WC_cond (Opd.t rfl) (fun h => by cases h) (fun _ => ?_)
  refine WC_skip ?_
  refine At_then ?_
  refine WC_seq ?_
  refine WC_seq ?_
  refine WC_region ?_
  refine WL_op (Run_move (Opd.t rfl)) rfl rfl rfl rfl <| WL_op (Run_move (Opd.t rfl)) rfl rfl rfl rfl <| WL_op (Run.eqI (Run_add (Opd.t rfl) (Opd.t rfl)) a1) rfl rfl rfl rfl <| WL_op (Run_move (Opd.t rfl)) rfl rfl rfl rfl <| WL_op (Run_capSl Try.underlying58 (Opd.t rfl)) rfl rfl rfl rfl <| WL_op (Run.eqB (Run_gtI (Opd.t rfl) (Opd.t rfl)) z3) rfl rfl rfl rfl <| ?_
  refine WL_nil ?_
  refine At_then ?_
  refine WC_cond (Opd.t rfl) (fun h => by cases h) (fun _ => ?_)
  refine WC_skip ?_
  refine At_then ?_
  refine WC_seq ?_
  refine WC_region ?_
  refine WL_op (Run_move (Opd.t rfl)) rfl rfl rfl rfl <| WL_op (Run_move (Opd.t rfl)) rfl rfl rfl rfl <| WL_op (Run_move (Opd.t rfl)) rfl rfl rfl rfl <| WL_op (Run.eqI (Run_add (Opd.t rfl) (Opd.t rfl)) a1) rfl rfl rfl rfl <| WL_op (Run_reHi Try.underlying58 tiI (Opd.t rfl) (Opd.t rfl) (by omega)) rfl rfl rfl rfl <| WL_op (Run_assign (Opd.t rfl)) rfl rfl rfl rfl <| ?_
  refine WL_nil ?_
  refine At_then ?_
  refine WC_seq ?_
  refine WC_seq ?_
  refine WC_region ?_
  refine WL_op (Run_move (Opd.t rfl)) rfl rfl rfl rfl <| WL_op (Run_move (Opd.t rfl)) rfl rfl rfl rfl <| WL_op (Run_move (Opd.t rfl)) rfl rfl rfl rfl <| WL_op (Run_move (Opd.t rfl)) rfl rfl rfl rfl <| WL_op (Run.eqI (Run_add (Opd.t rfl) (Opd.t rfl)) a2) rfl rfl rfl rfl <| WL_op (Run_reLo Try.underlying58 tiI (Opd.t rfl) (Opd.t rfl) (by omega) (by omega) (by omega)) rfl rfl rfl rfl <| WL_op (Run_extern (xs := [(.tmp 61), (.tmp 66)]) (.cons (Opd.t rfl) (.cons (Opd.t rfl) .nil)) (hov _ _)) rfl rfl rfl rfl <| WL_op (Run_notB (Opd.t rfl)) rfl rfl rfl rfl <| ?_
  refine WL_nil ?_
  refine At_then ?_
  refine WC_cond (Opd.t rfl) (fun _ => ?_) (fun h => by cases h)
  refine WC_seq ?_
  refine WC_region_mixed [0, 0, 0, 6, 9, 0, 0, 96, 144] (.q 0 0 (.q 1 1 (.q 2 3 (.q 3 7 (.q 4 15 (.q 5 31 (.q 6 63 (.q 7 127 (.l 8 255 .nil))))))))) (by kernel_rfl) (by kernel_rfl) ?_
  intro w1 hx2
  replace hb := (hx2.block _ (Array.getElem?_eq_some_iff.1 hb).1).trans hb
  replace hv := (hx2.block _ (Array.getElem?_eq_some_iff.1 hv).1).trans hv
  replace hC := hC.trans (hx2.chg _)
  refine WD_pure (fun _ => (Run_move (Opd.t rfl))) rfl rfl rfl rfl <| WD_pure (fun _ => (Run_move (Opd.t rfl))) rfl rfl rfl rfl <| WD_pure (fun _ => (Run_move (Opd.t rfl))) rfl rfl rfl rfl <| WD_pure (fun _ => (Run.eqI (Run_add (Opd.t rfl) (Opd.t rfl)) a2)) rfl rfl rfl rfl <| WD_pure (fun _ => (Run_reLo Try.underlying58 tiI (Opd.t rfl) (Opd.t rfl) (by omega) (by omega) (by omega))) rfl rfl rfl rfl <| WD_pure (fun _ => (Run_move (Opd.t rfl))) rfl rfl rfl rfl <| WD_pure (fun _ => (Run_move (Opd.t rfl))) rfl rfl rfl rfl <| WD_pure (fun _ => (Run_reLo Try.underlying58 tiI (Opd.t rfl) (Opd.t rfl) (by omega) (by omega) (by omega))) rfl rfl rfl rfl <| ?_
  refine WD_loud (pend' := []) rfl (by kernel_rfl) ?_
  refine WL_opW (RunW_copy (Opd.t rfl) (Opd.t rfl) (run1 _ hb _ _ _)) rfl rfl rfl rfl ?_
  replace hb := setRow_heap _ b cur R1 69 (0, 0) hb
  replace hv := (setRow_other _ b vb R1 hne).trans hv
  replace hC := hC.trans (chg_setRow b R1)
  refine WL_nil ?_
  refine At_QK allJ_nil ?_
  refine WD_nil ?_
  refine At_then ?_
  refine WC_seq ?_
  refine WC_region ?_
  refine WL_op (Run_move (Opd.t rfl)) rfl rfl rfl rfl <| WL_op (Run_move (Opd.t rfl)) rfl rfl rfl rfl <| WL_op (Run_reLo Try.underlying58 tiI (Opd.t rfl) (Opd.t rfl) (by omega) (by omega) (by omega)) rfl rfl rfl rfl <| WL_op (Run_move (Opd.t rfl)) rfl rfl rfl rfl <| ?_
  refine WL_opW (RunW_copy (Opd.t rfl) (Opd.t rfl) (run2 _ hb hv _ _)) rfl rfl rfl rfl ?_
  replace hb := setRow_heap _ b R1 R2 69 (0, 0) hb
  replace hC := hC.trans (chg_setRow b R2)
  refine WL_nil ?_
  refine At_then ?_
  refine WC_seq ?_
  refine WC_region ?_
  refine WL_op (Run_move (Opd.t rfl)) rfl rfl rfl rfl <| WL_op (Run_assign (Opd.t rfl)) rfl rfl rfl rfl <| ?_
  refine WL_nil ?_
  refine At_then ?_
  refine WC_ret ?_
  refine At_then_ret <| ?_
  refine At_r1 rfl (ResIs.t rfl) ?_
  exact ⟨rfl, hC, R2, hb, hR2s, hR2t⟩

set_option maxRecDepth 100000 in
theorem insG {w : World} {b vb n c i m mc : Nat} {cur curv : Array Value} {ev : TypeId} (hin : i < n) (hm : 0 < m) (hnc : n ≤ c) (hroom : c < n + m) (hbig : (n + m) * 16 ≤ 140737488355328)
    (hb : w.heap[b]? = some (.cells cur 69 (0, 0))) (hsz : cur.size = c * 2) (hv : w.heap[vb]? = some (.cells curv ev (0, 0))) (hvs : m * 2 ≤ curv.size) (h1 : ∀ v ∈ cur.toList.take (n * 2), v.oneCell' = true) (h1v : ∀ v ∈ curv.toList.take (m * 2), v.oneCell' = true) :
    CallsR Try.prog 37 [.slice (some ⟨b, 0, none⟩) n c, .int .i64 (i : Int), .slice (some ⟨vb, 0, none⟩) m mc] w (fun r w1 => r = .slice (some ⟨w.heap.size, 0, none⟩) (n + m) (grownCap w (n + m) c 69) ∧ Chg [w.heap.size] w w1 ∧ ∃ cur' : Array Value, w1.heap[w.heap.size]? = some (.cells cur' 69 (0, 0)) ∧ cur'.size = grownCap w (n + m) c 69 * 2 ∧ cur'.toList.take ((n + m) * 2) = (cur.toList.take (n * 2)).take (i * 2) ++ curv.toList.take (m * 2) ++ (cur.toList.take (n * 2)).drop (i * 2)) := by
  have z1 : ((m : Int) == 0) = false := by simp; omega
  have z2 : ((i : Int) == (n : Int)) = false := by simp; omega
  have a1 : IntKind.i64.wrap ((n : Int) + (m : Int)) = ((n + m : Nat) : Int) := by rw [w64 (by omega)]; omega
  have a2 : IntKind.i64.wrap ((i : Int) + (m : Int)) = ((i + m : Nat) : Int) := by rw [w64 (by omega)]; omega
  have a3 : IntKind.i64.wrap (((n + m : Nat) : Int) - (i : Int)) = ((n + m - i : Nat) : Int) := by rw [w64 (by omega)]; omega
  have hl : cur.toList.length = c * 2 := by rw [Array.length_toList, hsz]
  have hvl : (curv.toList.take (m * 2)).length = m * 2 := by rw [List.length_take, Array.length_toList]; omega
  have z3 : decide ((c : Int) < ((n + m : Nat) : Int)) = true := by simp; omega
  have hbN : b ≠ w.heap.size := by have := (Array.getElem?_eq_some_iff.1 hb).1; omega
  have hvN : vb ≠ w.heap.size := by have := (Array.getElem?_eq_some_iff.1 hv).1; omega
  obtain ⟨i0, hi0, hs0, hb0, hz0⟩ := tiI.out
  have hcn : (cur.toList.take (n * 2)).length = n * 2 := by rw [List.length_take]; omega
  have hci : ((cur.toList.take (n * 2)).take (i * 2)).length = i * 2 := by rw [List.length_take]; omega
  have hold : (Builtin.firstCells i0.size i (.slice (some ⟨b, 0, none⟩) i c)).run Try.prog w.drew = .ok ((cur.toList.take (n * 2)).take (i * 2)).toArray w.drew := by
    rw [hs0]
    exact run_firstCells_some w.drew 2 i ⟨b, 0, none⟩ i c _ (by rw [hci]) (cell_of_heap (w := w.drew) hb 0 _ (by rw [hci, List.drop_zero, List.take_take, Nat.min_eq_left (by omega)]))
  have hrz0 := Lib.run_append_grow_zeros (P := Try.prog) w 58 3 58 69 i0 _ .i64 .i64 Try.underlying58 Try.underlying3 hi0 hz0 (some ⟨b, 0, none⟩) i c _ hold (n + m - i) (by omega) (by omega) (by omega) (by omega) (by rw [hb0]; omega) (by rw [hb0]; exact growslice_fits (by omega) (by rw [show i + (n + m - i) = n + m by omega]; exact hbig))
  rw [show i + (n + m - i) = n + m by omega] at hrz0
  obtain ⟨G, hG⟩ : ∃ G, G = grownCap w (n + m) c 69 := ⟨_, rfl⟩
  have hGn : n + m ≤ G := by rw [hG]; exact grownCap_ge w _ _ _
  have hG63 : G ≤ 9223372036854775807 := by
    have := grownCap_le_maxLen w (n + m) c 69 (by unfold maxLen; omega)
    rw [← hG] at this
    unfold maxLen at this
    omega
  rw [← hG] at hrz0 ⊢
  obtain ⟨zz, hzz⟩ : ∃ zz : List Value, zz = (Builtin.zeroCells ((.agg #[(.int .u8 0), (.int .i64 0)]) : Value).cells (n + m - i) ++ Builtin.zeroCells ((.agg #[(.int .u8 0), (.int .i64 0)]) : Value).cells (G - (n + m))).toList := ⟨_, rfl⟩
  have hzl : zz.length = (G - i) * 2 := by
    have hz2 : ((.agg #[(.int .u8 0), (.int .i64 0)]) : Value).cells.size = 2 := rfl
    rw [hzz, Array.length_toList, Array.size_append, size_zeroCells, size_zeroCells, hz2]; omega
  obtain ⟨R0, hR0⟩ : ∃ R0 : Array Value, R0 = ((cur.toList.take (n * 2)).take (i * 2)).toArray ++ Builtin.zeroCells ((.agg #[(.int .u8 0), (.int .i64 0)]) : Value).cells (n + m - i) ++ Builtin.zeroCells ((.agg #[(.int .u8 0), (.int .i64 0)]) : Value).cells (G - (n + m)) := ⟨_, rfl⟩
  rw [← hR0] at hrz0
  have hR0l : R0.toList = (cur.toList.take (n * 2)).take (i * 2) ++ zz := by rw [hR0, hzz]; simp
  have hR0s : R0.size = G * 2 := by
    have := congrArg List.length hR0l
    rw [Array.length_toList, List.length_append, hci, hzl] at this
    omega
  have hrz : (Builtin.append_ #[58, 3] 58 #[.slice (some ⟨b, 0, none⟩) i c, .int .i64 ((n + m - i : Nat) : Int)]).run Try.prog w = .ok (.slice (some ⟨w.heap.size, 0, none⟩) (n + m) G) (w.drew.alloc (.cells R0 69)) := hrz0
  obtain ⟨g1, g2, g3⟩ := row_grow (l := cur.toList.take (n * 2)) (vs := curv.toList.take (m * 2)) (z := zz) (a := i * 2) (b := m * 2) (n := n * 2) (by omega) hvl hcn (by rw [hzl]; omega)
  rw [← hR0l] at g1 g2 g3
  obtain ⟨R1, hR1⟩ : ∃ R1 : Array Value, R1 = (R0.toList.take (i * 2) ++ curv.toList.take (m * 2) ++ R0.toList.drop (i * 2 + (curv.toList.take (m * 2)).length)).toArray := ⟨_, rfl⟩
  have hR1l : R1.toList = R0.toList.take (i * 2) ++ curv.toList.take (m * 2) ++ R0.toList.drop (i * 2 + (curv.toList.take (m * 2)).length) := by rw [hR1]
  rw [← hR1l] at g1 g2 g3
  have hdl : ((cur.toList.take (n * 2)).drop (i * 2)).length = n * 2 - i * 2 := by rw [List.length_drop, hcn]
  obtain ⟨R2, hR2⟩ : ∃ R2 : Array Value, R2 = (R1.toList.take (i * 2 + m * 2) ++ (cur.toList.take (n * 2)).drop (i * 2) ++ R1.toList.drop (i * 2 + m * 2 + ((cur.toList.take (n * 2)).drop (i * 2)).length)).toArray := ⟨_, rfl⟩
  have hR2l : R2.toList = R1.toList.take (i * 2 + m * 2) ++ (cur.toList.take (n * 2)).drop (i * 2) ++ R1.toList.drop (i * 2 + m * 2 + ((cur.toList.take (n * 2)).drop (i * 2)).length) := by rw [hR2]
  rw [← hR2l] at g2 g3
  rw [Array.length_toList, Array.length_toList, hR0s] at g1 g2
  rw [show n * 2 + m * 2 = (n + m) * 2 by omega] at g3
  have hR2s := g2
  have hR2t := g3
  have run1 : ∀ W : World, W.heap[w.heap.size]? = some (.cells R0 69 (0, 0)) → W.heap[vb]? = some (.cells curv ev (0, 0)) → ∀ ty dc, (Builtin.copy_ #[58, 58] ty #[.slice (some ⟨w.heap.size, 0 + i * 2, none⟩) (n + m - i) dc, .slice (some ⟨vb, 0, none⟩) m mc]).run Try.prog W = .ok (goInt (Nat.min m (n + m - i))) (W.setRow w.heap.size R1) := fun W hN hv ty dc => by
    have hmin : Nat.min m (n + m - i) = m := by simp only [Nat.min_def]; split <;> omega
    rw [hR1, Nat.zero_add]
    exact run_copyRow Try.underlying58 tiI (by rw [hvl, hmin]) (cell_of_heap hv _ _ (by rw [hvl, List.drop_zero])) hN (by rw [hvl]; omega) h1v
  have run2 : ∀ W : World, W.heap[w.heap.size]? = some (.cells R1 69 (0, 0)) → W.heap[b]? = some (.cells cur 69 (0, 0)) → ∀ ty dc sc, (Builtin.copy_ #[58, 58] ty #[.slice (some ⟨w.heap.size, 0 + (i + m) * 2, none⟩) (n + m - (i + m)) dc, .slice (some ⟨b, 0 + i * 2, none⟩) (n - i) sc]).run Try.prog W = .ok (goInt (Nat.min (n - i) (n + m - (i + m)))) (W.setRow w.heap.size R2) := fun W hN hb ty dc sc => by
    have hmin : Nat.min (n - i) (n + m - (i + m)) = n - i := by simp only [Nat.min_def]; split <;> omega
    rw [hR2, show i * 2 + m * 2 = 0 + (i + m) * 2 by omega]
    exact run_copyRow Try.underlying58 tiI (by rw [hdl, hmin]; omega) (cell_of_heap hb _ _ (by rw [hdl, Nat.zero_add, List.drop_take])) hN (by rw [hdl]; omega) (fun v hv => h1 v (List.mem_of_mem_drop hv))
  have hC : Chg [w.heap.size] w (w.drew.alloc (.cells R0 69)) := ⟨rfl, rfl, rfl, by simp, fun b hb _ => heap_alloc_old w.drew _ hb⟩
  clear hR1 hR2 hR1l hR2l hR0 hR0l hzz hzl g1 g2 g3 hrz0 hold
  refine CallsX_enter Try.func37 rfl Try.ntmps37 rfl ?_
  refine WC_seq ?_
  refine WC_region ?_
  refine WL_op (Run_assign Opd.c) rfl rfl rfl rfl <| ?_
  refine WL_nil ?_
  refine At_then ?_
  refine WC_seq ?_
  refine WC_region ?_
  refine WL_op (Run_move (Opd.t rfl)) rfl rfl rfl rfl <| WL_op (Run_move (Opd.t rfl)) rfl rfl rfl rfl <| WL_op (Run_reLo Try.underlying58 tiI (Opd.t rfl) (Opd.t rfl) (by omega) (by omega) (by omega)) rfl rfl rfl rfl <| ?_
  refine WL_nil ?_
  refine At_then ?_
  refine WC_seq ?_
  refine WC_region ?_
  refine WL_op (Run_move (Opd.t rfl)) rfl rfl rfl rfl <| WL_op (Run_lenSlG Try.underlying58 (Opd.t rfl) (fun _ => ⟨_, _, rfl⟩)) rfl rfl rfl rfl <| WL_op (Run_assign (Opd.t rfl)) rfl rfl rfl rfl <| ?_
  refine WL_nil ?_
  refine At_then ?_
  refine WC_seq ?_
  refine WC_seq ?_
  refine WC_region ?_
  refine WL_op (Run_move (Opd.t rfl)) rfl rfl rfl rfl <| WL_op (Run.eqB (Run_eqI (Opd.t rfl) Opd.c) z1) rfl rfl rfl rfl <| ?_
  refine WL_nil ?_
  refine At_then ?_
  refine WC_cond (Opd.t rfl) (fun h => by cases h) (fun _ => ?_)
  refine WC_skip ?_
  refine At_then ?_
  refine WC_seq ?_
  refine WC_region ?_
  refine WL_op (Run_move (Opd.t rfl)) rfl rfl rfl rfl <| WL_op (Run_lenSlG Try.underlying58 (Opd.t rfl) (fun _ => ⟨_, _, rfl⟩)) rfl rfl rfl rfl <| WL_op (Run_assign (Opd.t rfl)) rfl rfl rfl rfl <| ?_
  refine WL_nil ?_
  refine At_then ?_
  refine WC_seq ?_
  refine WC_seq ?_
  refine WC_region ?_
  refine WL_op (Run_move (Opd.t rfl)) rfl rfl rfl rfl <| WL_op (Run_move (Opd.t rfl)) rfl rfl rfl rfl <| WL_op (Run.eqB (Run_eqI (Opd.t rfl) (Opd.t rfl)) z2) rfl rfl rfl rfl <| ?_
  refine WL_nil ?_
  refine At_then ?_
  refine WC_cond (Opd.t rfl) (fun h => by cases h) (fun _ => ?_)
  refine WC_skip ?_
  refine At_then ?_
  refine WC_seq ?_
  refine WC_seq ?_
  refine WC_region ?_
  refine WL_op (Run_move (Opd.t rfl)) rfl rfl rfl rfl <| WL_op (Run_move (Opd.t rfl)) rfl rfl rfl rfl <| WL_op (Run.eqI (Run_add (Opd.t rfl) (Opd.t rfl)) a1) rfl rfl rfl rfl <| WL_op (Run_move (Opd.t rfl)) rfl rfl rfl rfl <| WL_op (Run_capSl Try.underlying58 (Opd.t rfl)) rfl rfl rfl rfl <| WL_op (Run.eqB (Run_gtI (Opd.t rfl) (Opd.t rfl)) z3) rfl rfl rfl rfl <| ?_
  refine WL_nil ?_
  refine At_then ?_
  refine WC_cond (Opd.t rfl) (fun _ => ?_) (fun h => by cases h)
  refine WC_seq ?_
  refine WC_region ?_
  refine WL_op (Run_move (Opd.t rfl)) rfl rfl rfl rfl <| WL_op (Run_move (Opd.t rfl)) rfl rfl rfl rfl <| WL_op (Run_reHi Try.underlying58 tiI (Opd.t rfl) (Opd.t rfl) (by omega)) rfl rfl rfl rfl <| WL_op (Run_move (Opd.t rfl)) rfl rfl rfl rfl <| WL_op (Run_move (Opd.t rfl)) rfl rfl rfl rfl <| WL_op (Run.eqI (Run_add (Opd.t rfl) (Opd.t rfl)) a1) rfl rfl rfl rfl <| WL_op (Run_move (Opd.t rfl)) rfl rfl rfl rfl <| WL_op (Run.eqI (Run_sub (Opd.t rfl) (Opd.t rfl)) a3) rfl rfl rfl rfl <| ?_
  refine WL_opW (RunW_append (Opd.t rfl) (Opd.t rfl) hrz) rfl rfl rfl rfl ?_
  have hN := heap_alloc_new w.drew (.cells R0 69)
  replace hb := (heap_alloc_old w.drew (.cells R0 69) (Array.getElem?_eq_some_iff.1 hb).1).trans hb
  replace hv := (heap_alloc_old w.drew (.cells R0 69) (Array.getElem?_eq_some_iff.1 hv).1).trans hv
  refine WL_op (Run_assign (Opd.t rfl)) rfl rfl rfl rfl <| ?_
  refine WL_nil ?_
  refine At_then ?_
  refine WC_seq ?_
  refine WC_region ?_
  refine WL_op (Run_move (Opd.t rfl)) rfl rfl rfl rfl <| WL_op (Run_move (Opd.t rfl)) rfl rfl rfl rfl <| WL_op (Run_reLo Try.underlying58 tiI (Opd.t rfl) (Opd.t rfl) (by omega) (by omega) (by omega)) rfl rfl rfl rfl <| WL_op (Run_move (Opd.t rfl)) rfl rfl rfl rfl <| ?_
  refine WL_opW (RunW_copy (Opd.t rfl) (Opd.t rfl) (run1 _ hN hv _ _)) rfl rfl rfl rfl ?_
  replace hC := hC.trans (chg_setRow w.heap.size R1)
  replace hN := setRow_heap _ w.heap.size R0 R1 69 (0, 0) hN
  replace hb := (setRow_other _ w.heap.size b R1 hbN).trans hb
  replace hv := (setRow_other _ w.heap.size vb R1 hvN).trans hv
  refine WL_nil ?_
  refine At_then ?_
  refine WC_seq ?_
  refine WC_region_mixed [0, 0, 0, 6, 9, 0, 0, 96, 144] (.q 0 0 (.q 1 1 (.q 2 3 (.q 3 7 (.q 4 15 (.q 5 31 (.q 6 63 (.q 7 127 (.l 8 255 .nil))))))))) (by kernel_rfl) (by kernel_rfl) ?_
  intro w1 hx2
  replace hN := (hx2.block _ (Array.getElem?_eq_some_iff.1 hN).1).trans hN
  replace hb := (hx2.block _ (Array.getElem?_eq_some_iff.1 hb).1).trans hb
  replace hv := (hx2.block _ (Array.getElem?_eq_some_iff.1 hv).1).trans hv
  replace hC := hC.trans (hx2.chg _)
  refine WD_pure (fun _ => (Run_move (Opd.t rfl))) rfl rfl rfl rfl <| WD_pure (fun _ => (Run_move (Opd.t rfl))) rfl rfl rfl rfl <| WD_pure (fun _ => (Run_move (Opd.t rfl))) rfl rfl rfl rfl <| WD_pure (fun _ => (Run.eqI (Run_add (Opd.t rfl) (Opd.t rfl)) a2)) rfl rfl rfl rfl <| WD_pure (fun _ => (Run_reLo Try.underlying58 tiI (Opd.t rfl) (Opd.t rfl) (by omega) (by omega) (by omega))) rfl rfl rfl rfl <| WD_pure (fun _ => (Run_move (Opd.t rfl))) rfl rfl rfl rfl <| WD_pure (fun _ => (Run_move (Opd.t rfl))) rfl rfl rfl rfl <| WD_pure (fun _ => (Run_reLo Try.underlying58 tiI (Opd.t rfl) (Opd.t rfl) (by omega) (by omega) (by omega))) rfl rfl rfl rfl <| ?_
  refine WD_loud (pend' := []) rfl (by kernel_rfl) ?_
  refine WL_opW (RunW_copy (Opd.t rfl) (Opd.t rfl) (run2 _ hN hb _ _ _)) rfl rfl rfl rfl ?_
  replace hC := hC.trans (chg_setRow w.heap.size R2)
  replace hN := setRow_heap _ w.heap.size R1 R2 69 (0, 0) hN
  refine WL_nil ?_
  refine At_QK allJ_nil ?_
  refine WD_nil ?_
  refine At_then ?_
  refine WC_seq ?_
  refine WC_region ?_
  refine WL_op (Run_move (Opd.t rfl)) rfl rfl rfl rfl <| WL_op (Run_assign (Opd.t rfl)) rfl rfl rfl rfl <| ?_
  refine WL_nil ?_
  refine At_then ?_
  refine WC_ret ?_
  refine At_then_ret <| ?_
  refine At_r1 rfl (ResIs.t rfl) ?_
  exact ⟨rfl, hC, R2, hN, hR2s, hR2t⟩

theorem insert37_ok {Φ : Ctx} {w : World} {v vy : SLV} {xs ys : List (Int × Int)} {R Ry : List Nat} {i : Int} (hs : Sat (osl (RP (RI .u8) (RI .i64)) 69 (sl v) xs R :: osl (RP (RI .u8) (RI .i64)) 69 (sl vy) ys Ry :: Φ) w) (hne : ys ≠ []) (hi : insB i xs.length = true) (hroom : roomB (xs.length + ys.length) 16 = true) :
    CallsR Try.prog 37 [sl v, .int .i64 i, sl vy] w (fun r w' => ∃ (p : SLV) (R' : List Nat), r = sl p ∧ Sat (osl (RP (RI .u8) (RI .i64)) 69 (sl p) (insL xs i ys) R' :: imm (RSl (RP (RI .u8) (RI .i64))) [sl vy] ys :: Φ) w') := by
  obtain ⟨hi0, hi1⟩ := insB_iff.1 hi
  obtain ⟨k, rfl⟩ : ∃ k : Nat, i = k := ⟨i.toNat, by omega⟩
  have hk : k ≤ xs.length := by omega
  have hym : 0 < ys.length := List.length_pos_iff.2 hne
  have hO := hs.own (i := 0) rfl
  obtain ⟨p, c, hv, hnc⟩ := hO.shape
  obtain ⟨vb, mc, curv, hvy, hRy, hhv, hmc, _, hvsz, hyr⟩ := (hs.own (i := 1) rfl).row hne
  have mono : ∀ {S S' : Value → World → Prop} {args}, CallsR Try.prog 37 args w S → (∀ r w', S r w' → S' r w') → CallsR Try.prog 37 args w S' := fun h hS => CallsX.mono h hS (fun _ _ h => h)
  by_cases hend : k = xs.length
  · -- at the end
    subst hend
    have hs2 := hs.freeze (i := 1) rfl
    have hs2 : Sat (osl (RP (RI .u8) (RI .i64)) 69 (sl v) xs R :: imm (RSl (RP (RI .u8) (RI .i64))) [sl vy] ys :: Φ) w := hs2
    obtain ⟨v', R', w', hr, hC, hR, hP⟩ := own_append (t := 58) (ty := 58) Try.underlying58 tiI rfl (by decide) (hs2.own (i := 0) rfl) (hs2.sl (i := 1) rfl) (fun b hb => Ctx.mem_M (i := 0) rfl hb) hroom
    have hS := hs2.upd (i := 0) rfl (new := osl (RP (RI .u8) (RI .i64)) 69 v' (xs ++ ys) R') hC hR (fun M' m _ => hP M' m)
    have hv' : ∃ p, v' = sl p := by
      obtain ⟨a, cap, hv⟩ := (hS.own (i := 0) rfl).len
      exact ⟨(a, _, cap), hv⟩
    obtain ⟨p', rfl⟩ := hv'
    rw [hv, hvy] at hr ⊢
    refine mono (insA hnc hym hr) ?_
    rintro r w1 ⟨rfl, rfl⟩
    rw [← hvy]
    refine ⟨p', R', rfl, ?_⟩
    rw [insL_end]
    exact hS
  · have hlt : k < xs.length := by omega
    have hxne : xs ≠ [] := fun h => by rw [h] at hlt; simp at hlt
    obtain ⟨b, c, cur, hv, hR, hh, hnc, hcm, hsz, hxr⟩ := hO.row hxne
    have hcm2 : c ≤ 9223372036854775807 := by unfold maxLen at hcm; omega
    have hbv : vb ≠ b := by
      intro e
      subst e
      exact hs.sep 0 1 _ _ rfl rfl (by decide) vb (by show vb ∈ R; rw [hR]; simp) (by show vb ∈ Ry; rw [hRy]; simp)
    have hlen := insL_len (ys := ys) hk
    simp only [roomB, Bool.and_eq_true] at hroom
    have hb1 := Nat.le_of_ble_eq_true hroom.1
    have hb2 := Nat.le_of_ble_eq_true hroom.2
    have hcur : c * 2 = cur.size := hsz.symm
    by_cases hroomc : xs.length + ys.length ≤ c
    · -- there is room
      rw [hv, hvy]
      refine mono (insS hlt hym hroomc hcm2 hbv hh hsz hhv (by rw [show curv.size = mc * 2 from hvsz]; omega) hxr.oneCell hyr.oneCell) ?_
      rintro r w1 ⟨rfl, hC, cur', hh', hs', ht'⟩
      rw [← hvy]
      refine ⟨(some ⟨b, 0, none⟩, xs.length + ys.length, c), [b], rfl, ?_⟩
      have hS := hs.upd (i := 0) rfl (new := osl (RP (RI .u8) (RI .i64)) 69 (.slice (some ⟨b, 0, none⟩) (xs.length + ys.length) c) (insL xs (k : Int) ys) [b]) (by show Chg R w w1; rw [hR]; exact hC) (fun d hd => by
        have : d = b := by simpa [osl] using hd
        subst this
        exact ⟨(Array.getElem?_eq_some_iff.1 hh').1, .inl (by show d ∈ R; rw [hR]; simp)⟩) (fun M' m _ => by
        show Own _ _ _ _ _ _ _
        rw [← hlen]
        refine Own.mk_ hh' (by omega) hcm hs' ?_
        rw [hlen]
        have := (insL_rd (i := k) hxr hyr).mv m
        have e : cur'.toList.take ((xs.length + ys.length) * ((RP (RI .u8) (RI .i64))).n) = (cur.toList.take (xs.length * ((RP (RI .u8) (RI .i64))).n)).take (k * ((RP (RI .u8) (RI .i64))).n) ++ curv.toList.take (ys.length * ((RP (RI .u8) (RI .i64))).n) ++ (cur.toList.take (xs.length * ((RP (RI .u8) (RI .i64))).n)).drop (k * ((RP (RI .u8) (RI .i64))).n) := ht'
        rw [e]
        exact this)
      exact hS.freeze (i := 1) rfl
    · -- a new row
      rw [hv, hvy]
      refine mono (insG hlt hym hnc (by omega) hb1 hh hsz hhv (by rw [show curv.size = mc * 2 from hvsz]; omega) hxr.oneCell hyr.oneCell) ?_
      rintro r w1 ⟨rfl, hC, cur', hh', hs', ht'⟩
      rw [← hvy]
      refine ⟨(some ⟨w.heap.size, 0, none⟩, xs.length + ys.length, _), [w.heap.size], rfl, ?_⟩
      have hE : Chg R w w1 := ⟨hC.os, hC.tape, hC.output, hC.size, fun d hd _ => hC.block d hd (by simp; omega)⟩
      have hS := hs.upd (i := 0) rfl (new := osl (RP (RI .u8) (RI .i64)) 69 (.slice (some ⟨w.heap.size, 0, none⟩) (xs.length + ys.length) (grownCap w (xs.length + ys.length) c 69)) (insL xs (k : Int) ys) [w.heap.size]) hE (fun d hd => by
        have : d = w.heap.size := by simpa [osl] using hd
        subst this
        exact ⟨(Array.getElem?_eq_some_iff.1 hh').1, .inr (Nat.le_refl _)⟩) (fun M' m _ => by
        show Own _ _ _ _ _ _ _
        rw [← hlen]
        refine Own.mk_ (by rw [hlen] at *; exact hh') (by rw [hlen]; exact grownCap_ge w _ _ _) (by rw [hlen]; exact grownCap_le_maxLen w _ c 69 (by simpa [maxLen] using hb2)) (by rw [hlen]; exact hs') ?_
        rw [hlen]
        have := (insL_rd (i := k) hxr hyr).mv m
        have e : cur'.toList.take ((xs.length + ys.length) * ((RP (RI .u8) (RI .i64))).n) = (cur.toList.take (xs.length * ((RP (RI .u8) (RI .i64))).n)).take (k * ((RP (RI .u8) (RI .i64))).n) ++ curv.toList.take (ys.length * ((RP (RI .u8) (RI .i64))).n) ++ (cur.toList.take (xs.length * ((RP (RI .u8) (RI .i64))).n)).drop (k * ((RP (RI .u8) (RI .i64))).n) := ht'
        rw [e]
        exact this)
      exact hS.freeze (i := 1) rfl
end Go.Proofs.Ytjappdgehmjomaa
