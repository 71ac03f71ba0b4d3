/-
  Reading in brackets: what is read up to the end is read up to a closing bracket as well, deeper, but for what is too deep. (own)
-/
import Derived.Test.YtmeombbmhpcacaaDoorExprBackP
namespace Go.Proofs.YtmeombbmhpcacaaDoor
namespace Pa
open Job

theorem P.sz {names : List Str} {j : Job} {d : Int} {ts : List Tok} {r : Out} (h : P names j d ts r) : ∀ x ts', r = .ok (x, ts') → x.sz + ts'.length ≤ ts.length + (match j with | line _ => 0 | loop _ a => a.sz) := by
  induction h with
  | big => intro x ts' h; cases h
  | @pre s d t ts k r h0 h1 h2 h3 ih =>
    intro x ts' h
    cases r with
    | error e => cases h
    | ok q =>
      obtain ⟨y, ts1⟩ := q
      have := ih _ _ rfl
      cases h
      simp only [Ex.sz, szL, List.length_cons] at *; omega
  | other h0 h1 h2 h3 ih => exact ih
  | rErr => intro x ts' h; cases h
  | rOne h0 h1 h2 h3 ih => exact ih
  | @rTwo s d ts a t ts' k r h0 h1 h2 h3 h4 ih ih2 =>
    intro x ts1 h
    cases r with
    | error e => cases h
    | ok q =>
      obtain ⟨y, ts2⟩ := q
      have := ih _ _ rfl
      have := ih2 _ _ rfl
      cases h
      simp only [Ex.sz, szL, List.length_cons] at *; omega
  | lErr => intro x ts' h; cases h
  | lGo h0 h1 h2 ih ih2 =>
    intro x ts' h
    have := ih _ _ rfl
    have := ih2 _ _ h
    simp only at *; omega
  | lpEnd h0 => intro x ts' h; cases h; simp only; omega
  | lpErr => intro x ts' h; cases h
  | lpGo h0 h1 h2 ih ih2 =>
    intro x ts' h
    have := ih _ _ rfl
    have := ih2 _ _ h
    simp only [Ex.sz, szL, List.length_cons] at *; omega
  | oWord => intro x ts' h; cases h; simp only [Ex.sz, szL, List.length_cons]; omega
  | oNum => intro x ts' h; cases h; simp only [Ex.sz, szL, List.length_cons]; omega
  | oVar => intro x ts' h; cases h; simp only [Ex.sz, szL, List.length_cons]; omega
  | oName => intro x ts' h; cases h
  | oOpen h0 h1 h2 h3 h4 h5 h6 ih =>
    intro x ts' h
    have := ih _ _ rfl
    cases h
    simp only [List.length_cons] at *; omega
  | oErr => intro x ts' h; cases h
  | oClose => intro x ts' h; cases h
  | oForm => intro x ts' h; cases h

/-- the same tokens, but for places; where one row has its end, the other one has a closing bracket and more -/
def Rl (c : Tok) (rest ts ts' : List Tok) : Prop := ∃ u u' e, ts = u ++ [e] ∧ e.1 = 4 ∧ ts' = u' ++ c :: rest ∧ u'.map Lx.strip = u.map Lx.strip
theorem Rl.cons {c : Tok} {rest ts ts' : List Tok} {t : Tok} (h : Rl c rest (t :: ts) ts') : (t.1 = 4 ∧ ts = [] ∧ ts' = c :: rest) ∨ ∃ t' ts1, ts' = t' :: ts1 ∧ Lx.strip t' = Lx.strip t ∧ Rl c rest ts ts1 := by
  obtain ⟨u, u', e, h1, h2, rfl, h3⟩ := h
  cases u with
  | nil =>
    simp only [List.nil_append, List.cons.injEq] at h1
    obtain ⟨rfl, rfl⟩ := h1
    obtain rfl : u' = [] := by simpa using h3
    exact .inl ⟨h2, rfl, rfl⟩
  | cons a u =>
    simp only [List.cons_append, List.cons.injEq] at h1
    obtain ⟨rfl, rfl⟩ := h1
    obtain ⟨t', r, rfl, ht, hr⟩ := map_cons h3
    exact .inr ⟨t', r ++ c :: rest, rfl, ht, u, r, e, rfl, h2, rfl, hr⟩
theorem Rl.mid {c : Tok} {rest ts ts' : List Tok} {t : Tok} (h : Rl c rest (t :: ts) ts') (ht : t.1 ≠ 4) : ∃ t' ts1, ts' = t' :: ts1 ∧ Lx.strip t' = Lx.strip t ∧ Rl c rest ts ts1 := by
  rcases h.cons with ⟨h4, _⟩ | h
  · exact absurd h4 ht
  · exact h
theorem strip_op {t t' : Tok} (h : Lx.strip t' = Lx.strip t) (s : Nat) : opOf s t' = opOf s t := by rw [op_strip, op_strip, h]
theorem strip_all {t t' : Tok} (h : Lx.strip t' = Lx.strip t) : t'.1 = t.1 ∧ t'.2.1 = t.2.1 ∧ t'.2.2.1 = t.2.2.1 := ⟨congrArg (fun k : Lx.Tk => k.1) h, congrArg (fun k : Lx.Tk => k.2.1) h, congrArg (fun k : Lx.Tk => k.2.2) h⟩
/-- behind a part that is read: no sign there, here neither -/
theorem Rl.quiet {c : Tok} {rest ts ts' : List Tok} {t : Tok} (hc : ∀ i, opOf i c = none) (h : Rl c rest (t :: ts) ts') {s : Nat} (ho : opOf s t = none) : ∃ t' ts1, ts' = t' :: ts1 ∧ opOf s t' = none := by
  rcases h.cons with ⟨_, _, rfl⟩ | ⟨t', ts1, rfl, h1, _⟩
  · exact ⟨c, rest, rfl, hc s⟩
  · exact ⟨t', ts1, rfl, by rw [strip_op h1]; exact ho⟩

def JobR : Job → Job → Prop
  | line s, j => j = line s
  | loop s a, j => ∃ a', j = loop s a' ∧ same a' a = true
/-- the same, or too deep -/
def More (c : Tok) (rest : List Tok) (x : Ex) (ts1 : List Tok) (r : Out) : Prop := (∃ p, r = .error (9, p)) ∨ ∃ x' ts1', r = .ok (x', ts1') ∧ same x' x = true ∧ Rl c rest ts1 ts1'

theorem dn_le (s : Nat) {d d' : Int} (h : d ≤ d') : dn s d ≤ dn s d' := by
  unfold dn; cases counted s <;> simp only [cond_true, cond_false] <;> omega
theorem P.more {names : List Str} {c : Tok} {rest : List Tok} (hc : ∀ i, opOf i c = none) {j : Job} {d : Int} {ts : List Tok} {r : Out} (h : P names j d ts r) : ∀ x ts1, r = .ok (x, ts1) → ∀ d' ts' j', d ≤ d' → Rl c rest ts ts' → JobR j j' → ∃ r', P names j' d' ts' r' ∧ More c rest x ts1 r' := by
  induction h with
  | big => intro x ts1 h; cases h
  | @pre s d t ts k r h0 h1 h2 h3 ih =>
    intro x ts1 h d' ts' j' hd hR hj
    obtain rfl : j' = line s := hj
    cases r with
    | error e => cases h
    | ok q =>
      obtain ⟨y, ts2⟩ := q
      cases h
      obtain ⟨t', ts0, rfl, ht, hR'⟩ := hR.mid (op_ne h2)
      cases hb : deepB s d'
      · obtain ⟨r', hp, hm⟩ := ih _ _ rfl (dn s d') ts0 (line s) (dn_le s hd) hR' rfl
        refine ⟨_, .pre h0 hb (by rw [strip_op ht]; exact h2) hp, ?_⟩
        rcases hm with ⟨p, rfl⟩ | ⟨x', ts1', rfl, hs, hR''⟩
        · exact .inl ⟨p, rfl⟩
        · refine .inr ⟨_, _, rfl, ?_, hR''⟩
          simp only [same_mk, Ex.op, Ex.n, Ex.l, sameL, hs, BEq.rfl, Bool.and_self]
      · exact ⟨_, .big hb, .inl ⟨_, rfl⟩⟩
  | @other s d t ts r h0 h1 h2 h3 ih =>
    intro x ts1 h d' ts' j' hd hR hj
    obtain rfl : j' = line s := hj
    obtain ⟨t', ts0, hts, ho⟩ := hR.quiet hc h2
    cases hb : deepB s d'
    · obtain ⟨r', hp, hm⟩ := ih _ _ h (dn s d') ts' (line (s + 1)) (dn_le s hd) hR rfl
      subst hts
      exact ⟨r', .other h0 hb ho hp, hm⟩
    · subst hts
      exact ⟨_, .big hb, .inl ⟨_, rfl⟩⟩
  | rErr => intro x ts1 h; cases h
  | @rOne s d ts a t ts2 h0 h1 h2 h3 ih =>
    intro x ts1 h d' ts' j' hd hR hj
    obtain rfl : j' = line s := hj
    cases h
    cases hb : deepB s d'
    · obtain ⟨r', hp, hm⟩ := ih _ _ rfl (dn s d') ts' (line (s + 1)) (dn_le s hd) hR rfl
      rcases hm with ⟨p, rfl⟩ | ⟨x', ts1', rfl, hs, hR''⟩
      · exact ⟨_, .rErr h0 hb hp, .inl ⟨p, rfl⟩⟩
      · obtain ⟨t', ts0, rfl, ho⟩ := hR''.quiet hc h3
        exact ⟨_, .rOne h0 hb hp ho, .inr ⟨_, _, rfl, hs, hR''⟩⟩
    · obtain ⟨u, u', e, _, _, h5, _⟩ := hR
      have : ∃ t0 r0, ts' = t0 :: r0 := by rw [h5]; cases u' <;> exact ⟨_, _, rfl⟩
      obtain ⟨t0, r0, rfl⟩ := this
      exact ⟨_, .big hb, .inl ⟨_, rfl⟩⟩
  | @rTwo s d ts a t ts2 k r h0 h1 h2 h3 h4 ih ih2 =>
    intro x ts1 h d' ts' j' hd hR hj
    obtain rfl : j' = line s := hj
    cases hb : deepB s d'
    · obtain ⟨r', hp, hm⟩ := ih _ _ rfl (dn s d') ts' (line (s + 1)) (dn_le s hd) hR rfl
      rcases hm with ⟨p, rfl⟩ | ⟨x', ts1', rfl, hs, hR''⟩
      · exact ⟨_, .rErr h0 hb hp, .inl ⟨p, rfl⟩⟩
      · obtain ⟨t', ts0, rfl, ht, hR3⟩ := hR''.mid (op_ne h3)
        cases r with
        | error e => cases h
        | ok q =>
          obtain ⟨y, ts3⟩ := q
          cases h
          obtain ⟨r2, hp2, hm2⟩ := ih2 _ _ rfl (dn s d') ts0 (line (nx s)) (dn_le s hd) hR3 rfl
          refine ⟨_, .rTwo h0 hb hp (by rw [strip_op ht]; exact h3) hp2, ?_⟩
          rcases hm2 with ⟨p, rfl⟩ | ⟨y', ts4, rfl, hs2, hR4⟩
          · exact .inl ⟨p, rfl⟩
          · refine .inr ⟨_, _, rfl, ?_, hR4⟩
            simp only [same_mk, Ex.op, Ex.n, Ex.l, sameL, hs, hs2, BEq.rfl, Bool.and_self]
    · obtain ⟨u, u', e, _, _, h5, _⟩ := hR
      have : ∃ t0 r0, ts' = t0 :: r0 := by rw [h5]; cases u' <;> exact ⟨_, _, rfl⟩
      obtain ⟨t0, r0, rfl⟩ := this
      exact ⟨_, .big hb, .inl ⟨_, rfl⟩⟩
  | lErr => intro x ts1 h; cases h
  | @lGo s d ts a ts2 r h0 h1 h2 ih ih2 =>
    intro x ts1 h d' ts' j' hd hR hj
    obtain rfl : j' = line s := hj
    obtain ⟨r', hp, hm⟩ := ih _ _ rfl d' ts' (line (s + 1)) hd hR rfl
    rcases hm with ⟨p, rfl⟩ | ⟨x', ts1', rfl, hs, hR''⟩
    · exact ⟨_, .lErr h0 hp, .inl ⟨p, rfl⟩⟩
    · obtain ⟨r2, hp2, hm2⟩ := ih2 _ _ h d' ts1' (loop s x') hd hR'' ⟨x', rfl, hs⟩
      exact ⟨r2, .lGo h0 hp hp2, hm2⟩
  | @lpEnd s a d t ts h0 =>
    intro x ts1 h d' ts' j' hd hR hj
    obtain ⟨a', rfl, hs⟩ := hj
    cases h
    obtain ⟨t', ts0, rfl, ho⟩ := hR.quiet hc h0
    exact ⟨_, .lpEnd ho, .inr ⟨_, _, rfl, hs, hR⟩⟩
  | lpErr => intro x ts1 h; cases h
  | @lpGo s a d t ts k b ts2 r h0 h1 h2 ih ih2 =>
    intro x ts1 h d' ts' j' hd hR hj
    obtain ⟨a', rfl, hs⟩ := hj
    obtain ⟨t', ts0, rfl, ht, hR'⟩ := hR.mid (op_ne h0)
    have ho : opOf s t' = some k := by rw [strip_op ht]; exact h0
    obtain ⟨r', hp, hm⟩ := ih _ _ rfl d' ts0 (line (s + 1)) hd hR' rfl
    rcases hm with ⟨p, rfl⟩ | ⟨b', ts1', rfl, hs2, hR''⟩
    · exact ⟨_, .lpErr ho hp, .inl ⟨p, rfl⟩⟩
    · obtain ⟨r2, hp2, hm2⟩ := ih2 _ _ h d' ts1' (loop s (.mk k 0 t'.2.2.2 [a', b'])) hd hR'' ⟨_, rfl, by simp only [same_mk, Ex.op, Ex.n, Ex.l, sameL, hs, hs2, BEq.rfl, Bool.and_self]⟩
      exact ⟨r2, .lpGo ho hp hp2, hm2⟩
  | @oWord s d t ts k h0 h1 =>
    intro x ts1 h d' ts' j' hd hR hj
    obtain rfl : j' = line s := hj
    cases h
    obtain ⟨t', ts0, rfl, ht, hR'⟩ := hR.mid (op_ne h1)
    refine ⟨_, .oWord h0 (by rw [strip_op ht]; exact h1), .inr ⟨_, _, rfl, ?_, hR'⟩⟩
    simp only [same_mk, Ex.op, Ex.n, Ex.l, sameL, BEq.rfl, Bool.and_self]
  | @oNum s d t ts h0 h1 h2 =>
    intro x ts1 h d' ts' j' hd hR hj
    obtain rfl : j' = line s := hj
    cases h
    obtain ⟨t', ts0, rfl, ht, hR'⟩ := hR.mid (by have := beq_iff_eq.1 h2; omega)
    obtain ⟨e1, e2, e3⟩ := strip_all ht
    refine ⟨_, .oNum h0 (by rw [strip_op ht]; exact h1) (by rw [e1]; exact h2), .inr ⟨_, _, rfl, ?_, hR'⟩⟩
    simp only [same_mk, Ex.op, Ex.n, Ex.l, sameL, e3, BEq.rfl, Bool.and_self]
  | @oVar s d t ts i h0 h1 h2 h3 h4 =>
    intro x ts1 h d' ts' j' hd hR hj
    obtain rfl : j' = line s := hj
    cases h
    obtain ⟨t', ts0, rfl, ht, hR'⟩ := hR.mid (by unfold name_ at h3; simp only [Bool.and_eq_true, beq_iff_eq] at h3; omega)
    obtain ⟨e1, e2, e3⟩ := strip_all ht
    refine ⟨_, .oVar h0 (by rw [strip_op ht]; exact h1) (by rw [e1]; exact h2) (by unfold name_ at h3 ⊢; rw [e1, e2]; exact h3) (by rw [e2]; exact h4), .inr ⟨_, _, rfl, ?_, hR'⟩⟩
    simp only [same_mk, Ex.op, Ex.n, Ex.l, sameL, BEq.rfl, Bool.and_self]
  | oName => intro x ts1 h; cases h
  | @oOpen s d t ts a c2 ts2 h0 h1 h2 h3 h4 h5 h6 ih =>
    intro x ts1 h d' ts' j' hd hR hj
    obtain rfl : j' = line s := hj
    cases h
    obtain ⟨t', ts0, rfl, ht, hR'⟩ := hR.mid (by unfold open_ at h4; simp only [Bool.and_eq_true, beq_iff_eq] at h4; omega)
    obtain ⟨e1, e2, e3⟩ := strip_all ht
    have g1 : opOf s t' = none := by rw [strip_op ht]; exact h1
    have g2 : (t'.1 == 2) = false := by rw [e1]; exact h2
    have g3 : name_ t' = false := by unfold name_ at h3 ⊢; rw [e1, e2]; exact h3
    have g4 : open_ t' = true := by unfold open_ at h4 ⊢; rw [e1, e2]; exact h4
    obtain ⟨r', hp, hm⟩ := ih _ _ rfl d' ts0 (line 1) hd hR' rfl
    rcases hm with ⟨p, rfl⟩ | ⟨x', ts1', rfl, hs, hR''⟩
    · exact ⟨_, .oErr h0 g1 g2 g3 g4 hp, .inl ⟨p, rfl⟩⟩
    · obtain ⟨c', ts3, rfl, hc', hR3⟩ := hR''.mid (by unfold close_ at h6; simp only [Bool.and_eq_true, beq_iff_eq] at h6; omega)
      obtain ⟨f1, f2, f3⟩ := strip_all hc'
      exact ⟨_, .oOpen h0 g1 g2 g3 g4 hp (by unfold close_ at h6 ⊢; rw [f1, f2]; exact h6), .inr ⟨_, _, rfl, hs, hR3⟩⟩
  | oErr => intro x ts1 h; cases h
  | oClose => intro x ts1 h; cases h
  | oForm => intro x ts1 h; cases h

end Pa
end Go.Proofs.YtmeombbmhpcacaaDoor
