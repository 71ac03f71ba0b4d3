/-
  Own framework: a tree among the arguments: what is read is a tree; how large it is.
-/
import Derived.Test.YtmeombbmhpcacaaDoorKFr
import Derived.Test.YtmeombbmhpcacaaDoorKEx
import Derived.Test.YtmeombbmhpcacaaDoorRows
import Derived.Carry
namespace Go.Proofs.YtmeombbmhpcacaaDoor
open Go.Lib Go.ChangeAt Go.ChangeShapes Go.WideShapes Go.RowKit

mutual
def Ex.sz : Ex → Nat
  | .mk _ _ _ l => szL l + 1
def szL : List Ex → Nat
  | [] => 0
  | x :: r => Ex.sz x + szL r
end
theorem Ex.sz_l (e : Ex) : e.sz = szL e.l + 1 := by cases e; simp only [Ex.sz, Ex.l]

theorem choose_row {Y : Type} (R : Nat → Y → Ex → Prop) : ∀ (ys : List Y), (∀ i y, ys[i]? = some y → ∃ e, R i y e) → ∃ l : List Ex, l.length = ys.length ∧ ∀ i y e, ys[i]? = some y → l[i]? = some e → R i y e
  | [], _ => ⟨[], rfl, fun i y e h => by simp at h⟩
  | y :: ys, h => by
    obtain ⟨e, he⟩ := h 0 y rfl
    obtain ⟨l, hl, hr⟩ := choose_row (fun i => R (i + 1)) ys (fun i y hy => h (i + 1) y (by simpa using hy))
    refine ⟨e :: l, by simp [hl], fun i y' e' hy hx => ?_⟩
    cases i with
    | zero =>
      simp only [List.getElem?_cons_zero, Option.some.injEq] at hy hx
      subst hy; subst hx; exact he
    | succ i => exact hr i y' e' (by simpa using hy) (by simpa using hx)
theorem szL_le {H : Type} : ∀ (l : List Ex) (ds : List (DataW H)), l.length = ds.length → (∀ (i : Nat) (e : Ex) (d : DataW H), l[i]? = some e → ds[i]? = some d → e.sz ≤ Rows.uptoBulk d) → szL l ≤ Rows.uptoBulkAll ds
  | [], [], _, _ => Nat.le_refl _
  | e :: l, d :: ds, hl, h => by
    have h1 := h 0 e d rfl rfl
    have h2 := szL_le l ds (by simpa using hl) (fun i e d he hd => h (i + 1) e d (by simpa using he) (by simpa using hd))
    simp only [szL, Rows.uptoBulkAll]
    omega
  | [], _ :: _, h, _ => by simp at h
  | _ :: _, [], h, _ => by simp at h
theorem bulk_pos {H : Type} (d : DataW H) : 1 ≤ Rows.uptoBulk d := by
  cases d with
  | lit l => cases l <;> simp [Rows.uptoBulk]
  | nil => simp [Rows.uptoBulk]
  | ptr d => simp [Rows.uptoBulk]
  | slice elems spare => simp [Rows.uptoBulk]
  | agg parts => simp [Rows.uptoBulk]
  | iface t d => simp [Rows.uptoBulk]
  | map entries => simp [Rows.uptoBulk]
  | held h => simp [Rows.uptoBulk]
theorem bulk_part {H : Type} {d : DataW H} : ∀ {l : List (DataW H)}, d ∈ l → Rows.uptoBulk d ≤ Rows.uptoBulkAll l
  | x :: r, h => by
    simp only [Rows.uptoBulkAll]
    rcases List.mem_cons.1 h with rfl | h
    · omega
    · have := bulk_part h; omega

/-- how the program lays a tree's part -/
structure ExLaid (P : Program) (t : TypeId) : Prop where
  fields : ∃ (fs : Array Field) (f0 f1 f2 f3 : Field), P.underlying t = some (.struct fs) ∧ fs.size = 4 ∧ fs[0]? = some f0 ∧ fs[1]? = some f1 ∧ fs[2]? = some f2 ∧ fs[3]? = some f3 ∧
    (f0.offset = 0 ∧ P.underlying f0.type = some (.int .i64) ∧ P.cellsOf f0.type = 1) ∧ (f1.offset = 1 ∧ P.underlying f1.type = some (.int .i64) ∧ P.cellsOf f1.type = 1) ∧
    (f2.offset = 2 ∧ P.underlying f2.type = some (.int .i64) ∧ P.cellsOf f2.type = 1) ∧ (f3.offset = 3 ∧ P.underlying f3.type = some (.slice t) ∧ P.cellsOf f3.type = 1)
  cells : P.cellsOf t = 4

theorem agg_of {P : Program} {w : World} {base : Nat} {t : TypeId} {v : Value} {fs : Array Field} (ht : P.underlying t = some (.struct fs)) (h : Value.okWide P w .any base t v) :
    ∃ cs, v = .agg cs ∧ cs.size = P.cellsOf t ∧ Row.okWide P w .any base t cs := by
  unfold Value.okWide at h
  rw [ht] at h
  exact h
theorem cell_block {w : World} {a : Addr} {v : Value} (h : w.cell? a = some v) : a.spot = none ∧ ∃ cs e fr, w.heap[a.block]? = some (.cells cs e fr) ∧ cs[a.off]? = some v := by
  unfold World.cell? at h
  split at h
  · rename_i cs e fr hb
    split at h
    · cases h
    · rename_i hs
      exact ⟨by simpa using hs, cs, e, fr, hb, h⟩
  · cases h

theorem ex_of_trod {H : Type} {enc : TypeId × Value → H} {P : Program} {W : World} {t : TypeId} (L : ExLaid P t) : ∀ (fuel : Nat) (cs : List Value) (x : DataW H × List MemPlace),
    DataW.trod enc P W 0 (fun _ => true) true fuel t cs = some x → ∃ e, ExRd (fun _ => False) W cs e ∧ e.sz ≤ Rows.uptoBulk x.1 := by
  intro fuel
  induction fuel using Nat.strongRecOn with
  | ind fuel ih =>
  intro cs x h
  obtain ⟨⟨fs, f0, f1, f2, f3, hT, hsz, g0, g1, g2, g3, ⟨o0, u0, c0⟩, ⟨o1, u1, c1⟩, ⟨o2, u2, c2⟩, ⟨o3, u3, c3⟩⟩, hc⟩ := L
  obtain ⟨xs, n, rfl, rfl, hl, hxs, hf⟩ := DataW.trod_struct hT h
  rw [hc] at hl
  rw [hsz] at hxs
  obtain ⟨a0, a1, a2, a3, rfl⟩ : ∃ a0 a1 a2 a3, cs = [a0, a1, a2, a3] := by
    match cs, hl with
    | [a, b, c, d], _ => exact ⟨a, b, c, d, rfl⟩
  obtain ⟨x0, x1, x2, x3, rfl⟩ : ∃ a0 a1 a2 a3, xs = [a0, a1, a2, a3] := by
    match xs, hxs with
    | [a, b, c, d], _ => exact ⟨a, b, c, d, rfl⟩
  have t0 := hf 0 f0 g0
  have t1 := hf 1 f1 g1
  have t2 := hf 2 f2 g2
  have t3 := hf 3 f3 g3
  rw [o0, c0] at t0; rw [o1, c1] at t1; rw [o2, c2] at t2; rw [o3, c3] at t3
  simp only [List.drop_zero, List.take_succ_cons, List.take_zero, List.drop_succ_cons, List.getElem?_cons_zero, List.getElem?_cons_succ] at t0 t1 t2 t3
  obtain ⟨z0, e0, _, _⟩ := DataW.trod_int u0 t0
  obtain ⟨z1, e1, _, _⟩ := DataW.trod_int u1 t1
  obtain ⟨z2, e2, _, _⟩ := DataW.trod_int u2 t2
  obtain rfl : a0 = .int .i64 z0 := by simpa using e0
  obtain rfl : a1 = .int .i64 z1 := by simpa using e1
  obtain rfl : a2 = .int .i64 z2 := by simpa using e2
  have hb : ∀ d, x3.1 = d → Rows.uptoBulk d + 1 ≤ Rows.uptoBulk (DataW.agg ([x0, x1, x2, x3].map (·.1))) := fun d hd => by
    subst hd
    have := bulk_part (d := x3.1) (l := [x0, x1, x2, x3].map (·.1)) (by simp)
    simp only [Rows.uptoBulk]
    omega
  rcases DataW.trod_slice u3 t3 with ⟨h3, hx3⟩ | ⟨a, len, cap, elems, rest, m, rfl, h3, hx3, _, hlc, _, hlen, hel, hsp, _⟩
  · obtain rfl : a3 = .slice none 0 0 := by simpa using h3
    refine ⟨.mk z0 z1 z2 [], .nil z0 z1 z2 none, ?_⟩
    have := hb _ rfl
    have := bulk_pos x3.1
    simp only [Ex.sz, szL]
    omega
  · obtain rfl : a3 = .slice (some a) len cap := by simpa using h3
    obtain ⟨hrl, hre⟩ := hsp rfl
    rw [hc] at hel hre
    -- all of it is there
    have cell : ∀ i, i < cap → ∃ us y, W.cells? 0 (a.add (i * 4)) 4 = some us ∧ us.length = 4 ∧ (∀ j, j < 4 → W.cell? ((a.add (i * 4)).add j) = us[j]?) ∧ DataW.trod enc P W 0 (fun _ => true) true m t us = some y ∧ (i < len → elems[i]? = some y) := fun i hi => by
      by_cases hil : i < len
      · obtain ⟨y, hy⟩ : ∃ y, elems[i]? = some y := ⟨elems[i]'(by omega), List.getElem?_eq_getElem _⟩
        have := hel i hil
        rw [hy, Option.bind_eq_some_iff] at this
        obtain ⟨us, h1, h2⟩ := this
        obtain ⟨_, h3, h4⟩ := World.cells?_some h1
        exact ⟨us, y, h1, h3, h4, h2, fun _ => hy⟩
      · obtain ⟨y, hy⟩ : ∃ y, rest[i - len]? = some y := ⟨rest[i - len]'(by omega), List.getElem?_eq_getElem _⟩
        have := hre (i - len) (by omega)
        rw [hy, Option.bind_eq_some_iff] at this
        obtain ⟨us, h1, h2⟩ := this
        have e : len + (i - len) = i := by omega
        rw [e] at h1
        obtain ⟨_, h3, h4⟩ := World.cells?_some h1
        exact ⟨us, y, h1, h3, h4, h2, fun h => absurd h hil⟩
    by_cases hcap : cap = 0
    · subst hcap
      obtain rfl : len = 0 := by omega
      refine ⟨.mk z0 z1 z2 [], .nil z0 z1 z2 (some a), ?_⟩
      have := hb _ rfl
      have := bulk_pos x3.1
      simp only [Ex.sz, szL]
      omega
    · obtain ⟨us0, _, _, hl0, hc0, _⟩ := cell 0 (by omega)
      have h00 := hc0 0 (by omega)
      rw [List.getElem?_eq_getElem (by omega)] at h00
      obtain ⟨hs, cs', e', fr, hblk, _⟩ := cell_block h00
      have hs' : a.spot = none := by simpa [Addr.add] using hs
      have hblk' : W.heap[a.block]? = some (.cells cs' e' fr) := by simpa [Addr.add] using hblk
      obtain ⟨b, off, sp⟩ := a
      simp only at hs' hblk'
      subst hs'
      have at_ : ∀ i j, ((⟨b, off, none⟩ : Addr).add (i * 4)).add j = ⟨b, off + i * 4 + j, none⟩ := fun i j => by
        unfold Addr.add
        split <;> split <;> simp_all
      have cellx : ∀ i, i < cap → ∃ us y, us.length = 4 ∧ (∀ j, j < 4 → cs'[off + i * 4 + j]? = us[j]?) ∧ DataW.trod enc P W 0 (fun _ => true) true m t us = some y ∧ (i < len → elems[i]? = some y) := fun i hi => by
        obtain ⟨us, y, _, h3, h4, h5, h6⟩ := cell i hi
        refine ⟨us, y, h3, fun j hj => ?_, h5, h6⟩
        have := h4 j hj
        rw [at_] at this
        simpa [World.cell?, hblk'] using this
      have hsize : off + cap * 4 ≤ cs'.size := by
        obtain ⟨us, _, h3, h4, _⟩ := cellx (cap - 1) (by omega)
        have := h4 3 (by omega)
        rw [List.getElem?_eq_getElem (by omega)] at this
        have := (Array.getElem?_eq_some_iff.1 this).1
        omega
      have hel' : ∀ i y, elems[i]? = some y → ∃ e, (ExRd (fun _ => False) W (((cs'.toList.drop off).drop (i * 4)).take 4) e ∧ e.sz ≤ Rows.uptoBulk y.1) := fun i y hy => by
        have hi : i < len := by rw [← hlen]; exact (List.getElem?_eq_some_iff.1 hy).1
        obtain ⟨us, y', h3, h4, h5, h6⟩ := cellx i (by omega)
        obtain rfl : y' = y := by have := h6 hi; rw [hy] at this; exact (Option.some.inj this).symm
        have hus : ((cs'.toList.drop off).drop (i * 4)).take 4 = us := by
          apply List.ext_getElem?
          intro j
          by_cases hj : j < 4
          · rw [List.getElem?_take, if_pos hj, List.getElem?_drop, List.getElem?_drop, ← h4 j hj]
            simp [Nat.add_assoc]
          · rw [List.getElem?_take, if_neg hj, List.getElem?_eq_none (by omega)]
        rw [hus]
        exact ih m (by omega) us y' h5
      obtain ⟨l, hll, hR⟩ := choose_row (fun i y e => ExRd (fun _ => False) W (((cs'.toList.drop off).drop (i * 4)).take 4) e ∧ e.sz ≤ Rows.uptoBulk y.1) elems hel'
      have hll' : l.length = len := by omega
      refine ⟨.mk z0 z1 z2 l, ?_, ?_⟩
      · rw [← hll']
        refine .some z0 z1 z2 l b off cap cs' e' fr (fun h => h) hblk' (by omega) (by omega) ?_ (fun i hi => ?_)
        · simp only [List.length_take, List.length_drop, Array.length_toList]
          omega
        · obtain ⟨y, hy⟩ : ∃ y, elems[i]? = some y := ⟨elems[i]'(by omega), List.getElem?_eq_getElem _⟩
          have := (hR i y l[i] hy (List.getElem?_eq_getElem _)).1
          rw [List.drop_take, List.take_take]
          have e4 : min 4 (l.length * 4 - i * 4) = 4 := by omega
          rw [e4]
          exact this
      · have h1 := szL_le l (elems.map (·.1)) (by simp [hll]) (fun i e d he hd => by
          rw [List.getElem?_map, Option.map_eq_some_iff] at hd
          obtain ⟨y, hy, rfl⟩ := hd
          exact (hR i y e hy he).2)
        have h2 : x3.1 = .slice (elems.map (·.1)) (rest.map (·.1)) := by rw [hx3]
        have h3 := hb _ h2
        simp only [Ex.sz]
        have h4 : Rows.uptoBulk (DataW.slice (elems.map (·.1)) (rest.map (·.1))) = Rows.uptoBulkAll (elems.map (·.1)) + Rows.uptoBulkAll (rest.map (·.1)) + 1 := by simp only [Rows.uptoBulk]
        omega
end Go.Proofs.YtmeombbmhpcacaaDoor
