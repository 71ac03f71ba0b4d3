/-
  What is shown is read: by the tree. (own)
-/
import Derived.Test.YtmeombbmhpcacaaDoorExprBack1
namespace Go.Proofs.YtmeombbmhpcacaaDoor
namespace Pa
open Job

/-- names that are shown, and names that text is read with: the same, or none -/
structure Reads (names nm : List Str) (b : Bool) : Prop where
  good : Lx.NamesGood names
  keys : ∀ i : Nat, i < 3 → key (names.getD i []) = false
  some_ : b = true → ∀ i : Nat, i < 3 → at_ nm (names.getD i []) = some i
  none_ : b = false → nm = []

theorem same_mk (op n a : Int) (l : List Ex) (e : Ex) : same (.mk op n a l) e = (op == e.op && n == e.n && sameL l e.l) := by simp only [same]
theorem two_none {E : Option (Int × Int)} {e : Ex} {rest : List Tok} {r : Out} (h : Ok3 E e rest r) (hE : E = none) : ∃ x, r = .ok (x, rest) ∧ same x e = true := by subst hE; exact h
theorem two_some {E : Option (Int × Int)} {e : Ex} {rest : List Tok} {r : Out} {p : Int × Int} (h : Ok3 E e rest r) (hE : E = some p) : r = .error p := by subst hE; exact h

theorem brackets {nm : List Str} {o c : Tok} {ts rest : List Tok} {e : Ex} {E : Option (Int × Int)} {r : Out} (ho : Lx.strip o = (3, [40], 0)) (hc : Lx.strip c = (3, [41], 0))
    (h : Ok3 E e (c :: rest) r) : ∃ r', Ok3 E e rest r' ∧ ∀ d, P nm (line 1) d ts r → P nm (line 11) d (o :: ts) r' := by
  have o1 : o.1 = 3 := congrArg (fun k : Lx.Tk => k.1) ho
  have o2 : o.2.1 = [40] := congrArg (fun k : Lx.Tk => k.2.1) ho
  have c1 : c.1 = 3 := congrArg (fun k : Lx.Tk => k.1) hc
  have c2 : c.2.1 = [41] := congrArg (fun k : Lx.Tk => k.2.1) hc
  have hop : opOf 11 o = none := by rw [op_strip, ho]; rfl
  have h2 : (o.1 == 2) = false := by rw [o1]; rfl
  have hn : name_ o = false := name_kind (by rw [o1]; decide)
  have ho' : open_ o = true := by unfold open_; rw [o1, o2]; rfl
  have hc' : close_ c = true := by unfold close_; rw [c1, c2]; rfl
  cases E with
  | some p =>
    obtain rfl : r = .error p := h
    exact ⟨_, rfl, fun d hp => .oErr rfl hop h2 hn ho' hp⟩
  | none =>
    obtain ⟨x, rfl, hs⟩ := h
    exact ⟨_, ⟨x, rfl, hs⟩, fun d hp => .oOpen rfl hop h2 hn ho' hp hc'⟩

theorem close_op {c : Tok} (hc : Lx.strip c = (3, [41], 0)) : ∀ i, i ≤ 11 → opOf i c = none := fun i hi => by rw [op_strip, hc]; exact all_ops i hi _ (.inl rfl)
theorem Ok3.quiet {E : Option (Int × Int)} {e : Ex} {t : Tok} {rest : List Tok} {r : Out} {s q : Nat} (h : Ok3 E e (t :: rest) r) (ht : ∀ i, s ≤ i → i < q → kd i ≠ 0 → opOf i t = none) : Quiet s q r := by
  cases E with
  | some p => obtain rfl : r = .error p := h; trivial
  | none => obtain ⟨x, rfl, _⟩ := h; exact ⟨_, _, rfl, ht⟩

/-- a part behind a sign -/
theorem line_pre {nm : List Str} {op : Int} (hop : op ∈ preOps) {k c f : Tok} {u rest : List Tok} {x e : Ex} {E : Option (Int × Int)} {r : Out} (he : e.op = op ∧ e.n = 0 ∧ e.l = [x])
    (hk : Lx.strip k = tokK op) (hc : Lx.strip c = (3, [41], 0)) (hf6 : opOf 6 f = none) (hf10 : opOf 10 f = none)
    (h : Ok3 E x (c :: rest) r) : ∃ r', Ok3 E e (c :: rest) r' ∧ ∀ d, d + 6 ≤ 320 → P nm (line 11) (d + 6) (f :: u) r → P nm (line 1) d (k :: f :: u) r' := by
  have hres : Ok3 E e (c :: rest) (one' op k.2.2.2 r) := by
    cases E with
    | some p => obtain rfl : r = .error p := h; rfl
    | none =>
      obtain ⟨x', rfl, hs⟩ := h
      refine ⟨_, rfl, ?_⟩
      rw [same_mk, he.1, he.2.1, he.2.2]
      simp only [sameL, hs, BEq.rfl, Bool.and_self]
  refine ⟨_, hres, fun d hd hp => ?_⟩
  obtain ⟨f1, f2, f3⟩ := pre_facts hop
  have hkl : opOf (lv op) k = some op := by rw [op_strip, hk]; exact f1
  have hlv : lv op = 6 ∨ lv op = 10 := by rcases f3 with h | h; exact .inl h; exact .inr h.1
  have hl1 : 1 ≤ lv op ∧ lv op ≤ 10 := by omega
  -- up to the sign's line
  have h1 : P nm (line (lv op)) (d + cnt 1 - cnt (lv op) + 1) (f :: u) r := by
    refine climb (11 - lv op) (lv op) _ (by omega) (by omega) ?_ (h.quiet (fun i _ hi _ => close_op hc i (by omega))) ?_ ?_
    · intro q hq1 hq2 hq3
      have : q = 6 ∨ q = 10 := by
        have : q = 6 ∨ q = 7 ∨ q = 8 ∨ q = 9 ∨ q = 10 := by omega
        rcases this with rfl | rfl | rfl | rfl | rfl <;> simp [kd] at hq3 <;> simp
      rcases this with rfl | rfl <;> assumption
    · simp only [cnt]; omega
    · rw [show lv op + (11 - lv op) = 11 by omega]
      have : d + cnt 1 - cnt (lv op) + 1 + cnt (lv op) - cnt 11 = d + 6 := by simp only [cnt]; omega
      rw [this]; exact hp
  have hcnt : d + cnt 1 - cnt (lv op) + cnt (lv op) ≤ 320 := by simp only [cnt]; omega
  have hdb := deep_cnt (lv op) hl1.1 hl1.2 (d + cnt 1 - cnt (lv op)) hcnt
  have hdn : dn (lv op) (d + cnt 1 - cnt (lv op)) = d + cnt 1 - cnt (lv op) + 1 := by
    rcases hlv with h | h <;> rw [h] <;> rfl
  have h2 : P nm (line (lv op)) (d + cnt 1 - cnt (lv op)) (k :: f :: u) (one' op k.2.2.2 r) := .pre f2 hdb hkl (by rw [hdn]; exact h1)
  refine climb (lv op - 1) 1 d (by omega) (Nat.le_refl _) ?_ (hres.quiet (fun i _ hi _ => close_op hc i (by omega))) (by simp only [cnt]; omega) (by rw [show 1 + (lv op - 1) = lv op by omega]; exact h2)
  intro q hq1 hq2 hq3
  have : q = 6 := by
    have : q = 1 ∨ q = 2 ∨ q = 3 ∨ q = 4 ∨ q = 5 ∨ q = 6 ∨ q = 7 ∨ q = 8 ∨ q = 9 := by omega
    rcases this with rfl | rfl | rfl | rfl | rfl | rfl | rfl | rfl | rfl <;> simp [kd] at hq3 <;> simp
  subst this
  rcases f3 with h | h
  · omega
  · rw [op_strip, hk]; exact h.2

def two2 (op a : Int) (rx ry : Out) : Out :=
  match rx with
  | .error e => .error e
  | .ok p => two' op a p.1 ry
theorem ok_two {op : Int} {k g c : Tok} {v rest : List Tok} {x y e : Ex} {Ex_ Ey : Option (Int × Int)} {rx ry : Out} (he : e.op = op ∧ e.n = 0 ∧ e.l = [x, y])
    (hx : Ok3 Ex_ x (k :: g :: v) rx) (hy : Ok3 Ey y (c :: rest) ry) : Ok3 (Ex_.or Ey) e (c :: rest) (two2 op k.2.2.2 rx ry) := by
  cases Ex_ with
  | some p => obtain rfl : rx = .error p := hx; rfl
  | none =>
    obtain ⟨x', rfl, hsx⟩ := hx
    cases Ey with
    | some p => obtain rfl : ry = .error p := hy; rfl
    | none =>
      obtain ⟨y', rfl, hsy⟩ := hy
      refine ⟨_, rfl, ?_⟩
      rw [same_mk, he.1, he.2.1, he.2.2]
      simp only [sameL, hsx, hsy, BEq.rfl, Bool.and_self]
theorem right_lv {op : Int} (h3 : 1 ≤ lv op) (h4 : lv op ≤ 9) (hkd : kd (lv op) = 1) (d : Int) : 1 ≤ nx (lv op) ∧ nx (lv op) ≤ 10 ∧ d ≤ dn (lv op) (d + cnt 1 - cnt (lv op)) + cnt (nx (lv op)) ∧ dn (lv op) (d + cnt 1 - cnt (lv op)) + cnt (nx (lv op)) ≤ d + 6 := by
  have : lv op = 1 ∨ lv op = 2 ∨ lv op = 5 ∨ lv op = 7 := by
    have : lv op = 1 ∨ lv op = 2 ∨ lv op = 3 ∨ lv op = 4 ∨ lv op = 5 ∨ lv op = 6 ∨ lv op = 7 ∨ lv op = 8 ∨ lv op = 9 := by omega
    rcases this with h | h | h | h | h | h | h | h | h <;> rw [h] at hkd <;> simp [kd] at hkd <;> simp [h]
  rcases this with h | h | h | h <;> rw [h] <;> simp only [nx, dn, counted, cnt] <;> simp <;> omega
theorem left_lv {op : Int} (h3 : 1 ≤ lv op) (h4 : lv op ≤ 9) (hkd : kd (lv op) = 2) (d : Int) : dn (lv op) (d + cnt 1 - cnt (lv op)) = d + cnt 1 - cnt (lv op) ∧ d ≤ d + cnt 1 - cnt (lv op) + cnt (lv op + 1) ∧ d + cnt 1 - cnt (lv op) + cnt (lv op + 1) ≤ d + 6 := by
  have : lv op = 3 ∨ lv op = 4 ∨ lv op = 8 ∨ lv op = 9 := by
    have : lv op = 1 ∨ lv op = 2 ∨ lv op = 3 ∨ lv op = 4 ∨ lv op = 5 ∨ lv op = 6 ∨ lv op = 7 ∨ lv op = 8 ∨ lv op = 9 := by omega
    rcases this with h | h | h | h | h | h | h | h | h <;> rw [h] at hkd <;> simp [kd] at hkd <;> simp [h]
  rcases this with h | h | h | h <;> rw [h] <;> simp only [dn, counted, cnt] <;> simp <;> omega
/-- two parts with a sign between them; the depth at which the right one is read -/
theorem line_two {nm : List Str} {op : Int} (hop : op ∈ binOps) {k c f g : Tok} {u v rest : List Tok}
    (hk : Lx.strip k = tokK op) (hc : ∀ i, i ≤ 11 → opOf i c = none) (hf6 : opOf 6 f = none) (hf10 : opOf 10 f = none) (hg6 : opOf 6 g = none) (hg10 : opOf 10 g = none) (d : Int) (hd : d + 6 ≤ 320) :
    ∃ d', d ≤ d' ∧ d' ≤ d + 6 ∧ ∀ {x y : Ex} {Ex_ Ey : Option (Int × Int)} {rx ry : Out}, Ok3 Ex_ x (k :: g :: v) rx → Ok3 Ey y (c :: rest) ry → P nm (line 11) (d + 5) (f :: u) rx → P nm (line 11) d' (g :: v) ry → P nm (line 1) d (f :: u) (two2 op k.2.2.2 rx ry) := by
  obtain ⟨f1, f2, f3, f4, f5⟩ := bin_facts hop
  have hkl : opOf (lv op) k = some op := by rw [op_strip, hk]; exact f1
  have hcnt : d + cnt 1 - cnt (lv op) + cnt (lv op) ≤ 320 := by simp only [cnt]; omega
  have hdb := deep_cnt (lv op) f3 (by omega) (d + cnt 1 - cnt (lv op)) hcnt
  have hdn := dn_cnt (lv op) f3 (by omega) (d + cnt 1 - cnt (lv op))
  have pre6 : ∀ {s : Nat}, ∀ q, s ≤ q → q < s + (11 - s) → kd q = 0 → 1 ≤ s → q = 6 ∨ q = 10 := by
    intro s q hq1 hq2 hq3 hs
    have : q = 1 ∨ q = 2 ∨ q = 3 ∨ q = 4 ∨ q = 5 ∨ q = 6 ∨ q = 7 ∨ q = 8 ∨ q = 9 ∨ q = 10 := by omega
    rcases this with rfl | rfl | rfl | rfl | rfl | rfl | rfl | rfl | rfl | rfl <;> simp [kd] at hq3 <;> simp
  -- the left part, up to the line above the sign's
  have left : ∀ {x : Ex} {Ex_ : Option (Int × Int)} {rx : Out}, Ok3 Ex_ x (k :: g :: v) rx → P nm (line 11) (d + 5) (f :: u) rx → P nm (line (lv op + 1)) (dn (lv op) (d + cnt 1 - cnt (lv op))) (f :: u) rx := by
    intro x Ex_ rx hx hpx
    refine climb (11 - (lv op + 1)) (lv op + 1) _ (by omega) (by omega) ?_ (hx.quiet (fun i hi1 hi2 hi3 => ?_)) ?_ ?_
    · intro q hq1 hq2 hq3
      rcases pre6 q hq1 hq2 hq3 (by omega) with rfl | rfl <;> assumption
    · by_cases hi : i ≤ 9
      · rw [op_strip, hk]; exact f5 i (by omega) hi hi3
      · obtain rfl : i = 10 := by omega
        exact absurd rfl hi3
    · rw [hdn]; simp only [cnt]; omega
    · rw [show lv op + 1 + (11 - (lv op + 1)) = 11 by omega, hdn]
      have : d + cnt 1 - cnt (lv op) + cnt (lv op) - cnt (lv op + 1) + cnt (lv op + 1) - cnt 11 = d + 5 := by simp only [cnt]; omega
      rw [this]; exact hpx
  -- the right part, up to a line s at a depth D
  have right : ∀ {y : Ex} {Ey : Option (Int × Int)} {ry : Out}, ∀ s D, Ok3 Ey y (c :: rest) ry → 1 ≤ s → s ≤ 10 → D + cnt s ≤ d + 6 → P nm (line 11) (D + cnt s) (g :: v) ry → P nm (line s) D (g :: v) ry := by
    intro y Ey ry s D hy hs1 hs2 hD2 hpy
    refine climb (11 - s) s D (by omega) hs1 ?_ (hy.quiet (fun i _ hi _ => hc i (by omega))) (by omega) ?_
    · intro q hq1 hq2 hq3
      rcases pre6 q hq1 hq2 hq3 hs1 with rfl | rfl <;> assumption
    · rw [show s + (11 - s) = 11 by omega, show cnt 11 = 0 from rfl, Int.sub_zero]
      exact hpy
  have fin : ∀ {x y : Ex} {Ex_ Ey : Option (Int × Int)} {rx ry : Out}, Ok3 Ex_ x (k :: g :: v) rx → Ok3 Ey y (c :: rest) ry → P nm (line (lv op)) (d + cnt 1 - cnt (lv op)) (f :: u) (two2 op k.2.2.2 rx ry) → P nm (line 1) d (f :: u) (two2 op k.2.2.2 rx ry) := by
    intro x y Ex_ Ey rx ry hx hy h3
    have hok := ok_two (op := op) (e := .mk op 0 0 [x, y]) ⟨rfl, rfl, rfl⟩ hx hy
    refine climb (lv op - 1) 1 d (by omega) (Nat.le_refl _) ?_ (hok.quiet (fun i _ hi _ => hc i (by omega))) (by simp only [cnt]; omega) (by rw [show 1 + (lv op - 1) = lv op by omega]; exact h3)
    intro q hq1 hq2 hq3
    have : q = 6 ∨ q = 10 := pre6 (s := 1) q hq1 (by omega) hq3 (Nat.le_refl _)
    rcases this with rfl | rfl <;> assumption
  rcases f2 with hkd | hkd
  · have hnx := right_lv f3 f4 hkd d
    refine ⟨_, hnx.2.2.1, hnx.2.2.2, fun {x y Ex_ Ey rx ry} hx hy hpx hpy => fin hx hy ?_⟩
    have h1 := left hx hpx
    have h2 := right (nx (lv op)) _ hy hnx.1 hnx.2.1 hnx.2.2.2 hpy
    cases Ex_ with
    | some p =>
      obtain rfl : rx = .error p := hx
      exact .rErr hkd hdb h1
    | none =>
      obtain ⟨x', rfl, hsx⟩ := hx
      exact .rTwo hkd hdb h1 hkl h2
  · have hnx := left_lv f3 f4 hkd d
    refine ⟨_, hnx.2.1, hnx.2.2, fun {x y Ex_ Ey rx ry} hx hy hpx hpy => fin hx hy ?_⟩
    have h1 := left hx hpx
    rw [hnx.1] at h1
    have h2 := right (lv op + 1) _ hy (by omega) (by omega) hnx.2.2 hpy
    cases Ex_ with
    | some p =>
      obtain rfl : rx = .error p := hx
      exact .lErr hkd h1
    | none =>
      obtain ⟨x', rfl, hsx⟩ := hx
      cases Ey with
      | some p =>
        obtain rfl : ry = .error p := hy
        exact .lGo hkd h1 (.lpErr hkl h2)
      | none =>
        obtain ⟨y', rfl, hsy⟩ := hy
        exact .lGo hkd h1 (.lpGo hkl h2 (.lpEnd (hc _ (by omega))))

theorem back {names nm : List Str} {b : Bool} (hn : Reads names nm b) : ∀ (N : Nat) (e : Ex), e.sz ≤ N → mayE 3 e = true → ∀ (u rest : List Tok), u.map Lx.strip = Lx.tk names e →
    ∃ r, Ok3 (Exp b u) e rest r ∧ ∀ d : Int, 0 ≤ d → d + 6 * (ht e : Int) ≤ 320 → P nm (line 11) d (u ++ rest) r := by
  intro N
  induction N with
  | zero => intro e h; have := sz_pos e; omega
  | succ N ih =>
    intro e h hm u rest hu
    obtain ⟨⟨o1, o2⟩, hw, h1, h2, h3⟩ := may_facts hm
    rw [Lx.tk_eq] at hu
    have kid : ∀ x ∈ e.l, ∃ h' r', Lx.tk names x = h' :: r' ∧ opK 6 h' = none ∧ opK 10 h' = none := fun x hx => first_tok names hn.keys x.sz x (Nat.le_refl _) (h3 x hx)
    have same0 : ∀ (x : Ex), e.l = [] → x.op = e.op → x.n = e.n → x.l = [] → same x e = true := by
      intro x hl a1 a2 a3
      rw [same_eq, a1, a2, a3, hl]
      simp only [sameL, BEq.rfl, Bool.and_self]
    cases c1 : (e.op == 1)
    · cases c2 : (e.op == 2)
      · rw [c1, c2] at hu
        simp only [cond_false] at hu
        have o3 : 2 < e.op := by simp only [beq_eq_false_iff_ne] at c1 c2; omega
        match hl : e.l with
        | [] =>
          rw [hl] at hu
          simp only [Lx.tkL] at hu
          obtain ⟨t, r, rfl, ht, hr⟩ := map_cons hu
          obtain rfl : r = [] := by simpa using hr
          have hop : opOf 11 t = some e.op ∧ name_ t = false := by
            have hnm : name_ t = name_ ((Lx.strip t).1, (Lx.strip t).2.1, 0, 0) := rfl
            rw [op_strip, hnm, ht]
            rcases Lx.want_zero hm c1 c2 hl with h | h <;> rw [h] <;> exact ⟨rfl, rfl⟩
          have hE : Exp b [t] = none := by rw [exp_cons hop.2]; cases b <;> rfl
          refine ⟨.ok (.mk e.op 0 t.2.2.2 [], rest), ?_, fun _ _ _ => .oWord rfl hop.1⟩
          rw [hE]
          exact ⟨_, rfl, same0 _ hl rfl (may_n hm o3).symm rfl⟩
        | [x] =>
          have hx : x ∈ e.l := by rw [hl]; simp
          have hop := may_one hm c1 c2 hl
          rw [hl] at hu
          simp only [Lx.tkL, Lx.tkR] at hu
          obtain ⟨o, u1, rfl, ho, hu⟩ := map_cons hu
          obtain ⟨k, u2, rfl, hk, hu⟩ := map_cons hu
          obtain ⟨ux, uc, rfl, hux, huc⟩ := map_app hu
          obtain ⟨c, uc2, rfl, hc, hr⟩ := map_cons huc
          obtain rfl : uc2 = [] := by simpa using hr
          obtain ⟨h', r', hf, hf6, hf10⟩ := kid x hx
          have hux0 := hux
          rw [hf] at hux
          obtain ⟨f, uf, rfl, hff, _⟩ := map_cons hux
          have hh := ht_lt hx
          obtain ⟨rx, hrx, hpx⟩ := ih x (by have := sz_lt hx; omega) (h3 x hx) (f :: uf) (c :: rest) hux0
          obtain ⟨r1, hr1, hp1⟩ := line_pre (e := e) (nm := nm) (f := f) (u := uf ++ c :: rest) hop (k := k) ⟨rfl, may_n hm o3, hl⟩ hk hc (by rw [op_strip, hff]; exact hf6) (by rw [op_strip, hff]; exact hf10) hrx
          obtain ⟨r2, hr2, hp2⟩ := brackets (nm := nm) (ts := k :: f :: (uf ++ c :: rest)) ho hc hr1
          refine ⟨r2, ?_, fun d h0 hd => by simpa using hp2 d (hp1 d (by omega) (hpx (d + 6) (by omega) (by omega)))⟩
          have hE : Exp b (o :: k :: (f :: uf ++ [c])) = Exp b (f :: uf) := by
            have o1 : o.1 = 3 := congrArg (fun k : Lx.Tk => k.1) ho
            have c1 : c.1 = 3 := congrArg (fun k : Lx.Tk => k.1) hc
            rw [exp_cons (name_kind (by rw [o1]; decide)), exp_cons (name_op (.inr hop) hk), exp_app, exp_cons (name_kind (t := c) (by rw [c1]; decide))]
            cases Exp b (f :: uf) <;> cases b <;> rfl
          rw [hE]; exact hr2
        | x :: y :: r =>
          have hx : x ∈ e.l := by rw [hl]; simp
          have hy : y ∈ e.l := by rw [hl]; simp
          obtain ⟨hop, rfl⟩ := may_two hm c1 c2 hl
          rw [hl] at hu
          simp only [Lx.tkL, Lx.tkR] at hu
          simp only [List.cons_append, List.append_assoc] at hu
          obtain ⟨o, u1, rfl, ho, hu⟩ := map_cons hu
          obtain ⟨ux, u2, rfl, hux, hu⟩ := map_app hu
          obtain ⟨k, u3, rfl, hk, hu⟩ := map_cons hu
          obtain ⟨uy, uc, rfl, huy, huc⟩ := map_app hu
          obtain ⟨c, uc2, rfl, hc, hr⟩ := map_cons huc
          obtain rfl : uc2 = [] := by simpa using hr
          obtain ⟨h', r', hf, hf6, hf10⟩ := kid x hx
          obtain ⟨h'', r'', hg, hg6, hg10⟩ := kid y hy
          have hux0 := hux
          have huy0 := huy
          rw [hf] at hux
          rw [hg] at huy
          obtain ⟨f, uf, rfl, hff, _⟩ := map_cons hux
          obtain ⟨g, ug, rfl, hgg, _⟩ := map_cons huy
          have hhx := ht_lt hx
          have hhy := ht_lt hy
          obtain ⟨rx, hrx, hpx⟩ := ih x (by have := sz_lt hx; omega) (h3 x hx) (f :: uf) (k :: (g :: (ug ++ c :: rest))) hux0
          obtain ⟨ry, hry, hpy⟩ := ih y (by have := sz_lt hy; omega) (h3 y hy) (g :: ug) (c :: rest) huy0
          have hr1 := ok_two (op := e.op) (e := e) ⟨rfl, may_n hm o3, hl⟩ hrx hry
          obtain ⟨r2, hr2, hp2⟩ := brackets (nm := nm) (ts := f :: (uf ++ k :: (g :: (ug ++ c :: rest)))) ho hc hr1
          have hts : o :: (f :: uf ++ k :: (g :: ug ++ [c])) ++ rest = o :: f :: (uf ++ k :: (g :: (ug ++ c :: rest))) := by simp
          refine ⟨r2, ?_, fun d h0 hd => by
            obtain ⟨d', d1, d2, hp1⟩ := line_two (nm := nm) (f := f) (u := uf ++ k :: (g :: (ug ++ c :: rest))) (v := ug ++ c :: rest) (rest := rest) hop (k := k) hk (close_op hc) (by rw [op_strip, hff]; exact hf6) (by rw [op_strip, hff]; exact hf10) (by rw [op_strip, hgg]; exact hg6) (by rw [op_strip, hgg]; exact hg10) d (by omega)
            rw [hts]
            exact hp2 d (hp1 hrx hry (hpx (d + 5) (by omega) (by omega)) (hpy d' (by omega) (by omega)))⟩
          have hE : Exp b (o :: (f :: uf ++ k :: (g :: ug ++ [c]))) = (Exp b (f :: uf)).or (Exp b (g :: ug)) := by
            have o1 : o.1 = 3 := congrArg (fun k : Lx.Tk => k.1) ho
            have c1 : c.1 = 3 := congrArg (fun k : Lx.Tk => k.1) hc
            rw [exp_cons (name_kind (by rw [o1]; decide)), exp_app, exp_cons (name_op (.inl hop) hk), exp_app, exp_cons (name_kind (t := c) (by rw [c1]; decide))]
            have : Exp b [] = none := by cases b <;> rfl
            rw [this]
            cases Exp b (g :: ug) <;> rfl
          rw [hE]; exact hr2
      · rw [c1, c2] at hu
        simp only [cond_false, cond_true] at hu
        have hb := h2 (beq_iff_eq.1 c2)
        obtain ⟨t, r, rfl, ht, hr⟩ := map_cons hu
        obtain rfl : r = [] := by simpa using hr
        have ho2 := beq_iff_eq.1 c2
        have hl : e.l = [] := by
          have : wantOf e.op = 0 := by rw [ho2]; rfl
          rw [this] at hw
          exact List.eq_nil_of_length_eq_zero (by omega)
        have t1 : t.1 = 1 := congrArg (fun k : Lx.Tk => k.1) ht
        have t2 : t.2.1 = names.getD e.n.toNat [] := congrArg (fun k : Lx.Tk => k.2.1) ht
        have hk := hn.keys e.n.toNat (by omega)
        have hsg : sgn t = false := by unfold sgn; rw [t1, t2, hk]; rfl
        have hnm : name_ t = true := by unfold name_; rw [t1, t2, hk]; rfl
        have h22 : (t.1 == 2) = false := by rw [t1]; rfl
        cases hbb : b
        · refine ⟨.error (3, t.2.2.2), ?_, fun d _ _ => .oName rfl (op_kind hsg) h22 hnm (by rw [hn.none_ hbb]; rfl)⟩
          have : Exp false [t] = some (3, t.2.2.2) := by
            show fnm3 [t] = _
            unfold fnm3 fnm; rw [List.find?_cons, hnm]; rfl
          rw [this]; rfl
        · have hat := hn.some_ hbb e.n.toNat (by omega)
          refine ⟨.ok (.mk 2 (e.n.toNat : Int) t.2.2.2 [], rest), ?_, fun d _ _ => .oVar rfl (op_kind hsg) h22 hnm (by rw [t2]; exact hat)⟩
          exact ⟨_, rfl, same0 _ hl ho2.symm (by show (e.n.toNat : Int) = e.n; omega) rfl⟩
    · rw [c1] at hu
      simp only [cond_true] at hu
      have hb := h1 (beq_iff_eq.1 c1)
      obtain ⟨t, r, rfl, ht, hr⟩ := map_cons hu
      obtain rfl : r = [] := by simpa using hr
      have ho1 := beq_iff_eq.1 c1
      have hl : e.l = [] := by
        have : wantOf e.op = 0 := by rw [ho1]; rfl
        rw [this] at hw
        exact List.eq_nil_of_length_eq_zero (by omega)
      have t1 : t.1 = 2 := congrArg (fun k : Lx.Tk => k.1) ht
      have t3 : t.2.2.1 = e.n := congrArg (fun k : Lx.Tk => k.2.2) ht
      have hsg : sgn t = false := by unfold sgn; rw [t1]; rfl
      refine ⟨.ok (.mk 1 t.2.2.1 t.2.2.2 [], rest), ?_, fun d _ _ => .oNum rfl (op_kind hsg) (by rw [t1]; rfl)⟩
      have : Exp b [t] = none := by rw [exp_cons (name_kind (by rw [t1]; decide))]; cases b <;> rfl
      rw [this]
      exact ⟨_, rfl, same0 _ hl ho1.symm t3 rfl⟩
/-- what is shown, and all of it, from the first token on -/
theorem back_all {names nm : List Str} {b : Bool} (hn : Reads names nm b) {e : Ex} (hm : mayE 3 e = true) (hh : ht e ≤ 44) {l : List Tok} (hl : l.map Lx.strip = Lx.tk names e ++ [(4, [], 0)]) :
    ∃ r u t, l = u ++ [t] ∧ t.1 = 4 ∧ Ok3 (Exp b u) e [t] r ∧ P nm (line 1) 0 l r := by
  obtain ⟨u, v, rfl, hu, hv⟩ := map_app hl
  obtain ⟨t, v2, rfl, ht, hv2⟩ := map_cons hv
  obtain rfl : v2 = [] := by simpa using hv2
  have t1 : t.1 = 4 := congrArg (fun k : Lx.Tk => k.1) ht
  obtain ⟨h', r', hf, hf6, hf10⟩ := first_tok names hn.keys e.sz e (Nat.le_refl _) hm
  obtain ⟨r, hr, hp⟩ := back hn e.sz e (Nat.le_refl _) hm u [t] hu
  refine ⟨r, u, t, rfl, t1, hr, ?_⟩
  rw [hf] at hu
  obtain ⟨f, uf, rfl, hff, _⟩ := map_cons hu
  have hts : sgn t = false := by unfold sgn; rw [t1]; rfl
  refine climb 10 1 0 (by omega) (Nat.le_refl _) ?_ (hr.quiet (fun i _ _ _ => op_kind hts)) (by simp only [cnt]; omega) (hp 5 (by omega) (by omega))
  intro q hq1 hq2 hq3
  have : q = 6 ∨ q = 10 := by
    have : q = 1 ∨ q = 2 ∨ q = 3 ∨ q = 4 ∨ q = 5 ∨ q = 6 ∨ q = 7 ∨ q = 8 ∨ q = 9 ∨ q = 10 := by omega
    rcases this with rfl | rfl | rfl | rfl | rfl | rfl | rfl | rfl | rfl | rfl <;> simp [kd] at hq3 <;> simp
  rcases this with rfl | rfl
  · rw [op_strip, hff]; exact hf6
  · rw [op_strip, hff]; exact hf10
end Pa
end Go.Proofs.YtmeombbmhpcacaaDoor
