/-
  Own framework: expressions: trees, and how memory reads as one.
-/
import Derived.Test.YtmeombbmhpcacaaDoorK9
namespace Go.Proofs.YtmeombbmhpcacaaDoor

inductive Ex where
  | mk (op n at_ : Int) (l : List Ex)
instance : Inhabited Ex := ⟨.mk 0 0 0 []⟩
def Ex.op : Ex → Int
  | .mk o _ _ _ => o
def Ex.n : Ex → Int
  | .mk _ n _ _ => n
def Ex.at_ : Ex → Int
  | .mk _ _ a _ => a
def Ex.l : Ex → List Ex
  | .mk _ _ _ l => l

inductive ExRd (M : Nat → Prop) (w : World) : List Value → Ex → Prop
  | nil (op n a : Int) (ad : Option Addr) : ExRd M w [.int .i64 op, .int .i64 n, .int .i64 a, sl (ad, 0, 0)] (.mk op n a [])
  | some (op n a : Int) (l : List Ex) (b off cap : Nat) (cs : Array Value) (e : TypeId) (fr : Nat × Nat) (hM : ¬ M b) (hb : w.heap[b]? = some (.cells cs e fr)) (hc : l.length ≤ cap) (ho : off + cap * 4 ≤ cs.size)
      (hl : ((cs.toList.drop off).take (l.length * 4)).length = l.length * 4) (h : ∀ i (hi : i < l.length), ExRd M w ((((cs.toList.drop off).take (l.length * 4)).drop (i * 4)).take 4) l[i]) :
      ExRd M w [.int .i64 op, .int .i64 n, .int .i64 a, sl (some ⟨b, off, none⟩, l.length, cap)] (.mk op n a l)

theorem ExRd.len {M : Nat → Prop} {w : World} {vs : List Value} {x : Ex} (h : ExRd M w vs x) : vs.length = 4 := by cases h <;> rfl
theorem ExRd.mv {M M' : Nat → Prop} {w w' : World} {vs : List Value} {x : Ex} (h : ExRd M w vs x) (m : Mv M w M' w') : ExRd M' w' vs x := by
  induction h with
  | nil op n a ad => exact .nil op n a ad
  | some op n a l b off cap cs e fr hM hb hc ho hl _ ih =>
    obtain ⟨h1, h2⟩ := m.2 b (Array.getElem?_eq_some_iff.1 hb).1 hM
    exact .some op n a l b off cap cs e fr h1 (by rw [h2]; exact hb) hc ho hl ih
def RExpr : Rep Ex where
  n := 4
  rd := ExRd
  len := ExRd.len
  one h := by cases h <;> simp [Value.oneCell', sl]
  mv := ExRd.mv
theorem RExpr_open {M : Nat → Prop} {w : World} {vs : List Value} {x : Ex} (h : RExpr.rd M w vs x) : ∃ v : SLV, vs = [(.int .i64 x.op), (.int .i64 x.n), (.int .i64 x.at_), (sl v)] ∧ SRd RExpr M w (sl v) x.l := by
  cases h with
  | nil op n a ad => exact ⟨_, rfl, .inl ⟨⟨_, rfl⟩, rfl⟩⟩
  | some op n a l b off cap cs e fr hM hb hc ho hl h => exact ⟨_, rfl, .inr ⟨b, off, cap, cs, e, fr, rfl, hM, hb, hc, ho, hl, h⟩⟩
theorem RExpr_close {M : Nat → Prop} {w : World} {op n a : Int} {v : Value} {l : List Ex} (h : (RSl RExpr).rd M w [v] l) : RExpr.rd M w [(.int .i64 op), (.int .i64 n), (.int .i64 a), v] (.mk op n a l) := by
  obtain ⟨p, hp, h⟩ := h
  have hv : v = sl p := by simpa using hp
  subst hv
  rcases h with ⟨⟨ad, h⟩, rfl⟩ | ⟨b, off, cap, cs, e, fr, h, hM, hb, hc, ho, hl, hr⟩
  · rw [h]; exact .nil op n a ad
  · rw [h]; exact .some op n a l b off cap cs e fr hM hb hc ho hl hr
theorem RExpr_closeE {M : Nat → Prop} {w : World} {x : Ex} {v : Value} (h : (RSl RExpr).rd M w [v] x.l) : RExpr.rd M w [(.int .i64 x.op), (.int .i64 x.n), (.int .i64 x.at_), v] x := by
  have := RExpr_close (op := x.op) (n := x.n) (a := x.at_) h
  cases x; exact this
theorem Ex.eta (x : Ex) : Ex.mk x.op x.n x.at_ x.l = x := by cases x; rfl
end Go.Proofs.YtmeombbmhpcacaaDoor
