/-
  Own framework, part 12: slices.Insert: the words; laws on rows that are copied, cut beyond their length, and grown by zero values.
-/
import Derived.Test.YtjappdgehmjomaaK11
import Derived.Lib.AppendZerosOnto
import Derived.Lib.Overlaps
namespace Go.Proofs.Ytjappdgehmjomaa
/-- a row with another one laid in -/
def insL {α : Type} (xs : List α) (i : Int) (ys : List α) : List α := xs.take i.toNat ++ ys ++ xs.drop i.toNat
def insB (i : Int) (n : Nat) : Bool := decide (0 ≤ i) && decide (i ≤ n)
theorem insB_iff {i : Int} {n : Nat} : insB i n = true ↔ 0 ≤ i ∧ i ≤ n := by simp [insB]

section
variable {P : Program} {E : Env} {w : World} {g : Bool}
variable {dst : Option Tmp} {ty : TypeId} {pos : String} {af : Array Edge} {gd : Option (Nat × Bool)}
theorem run_copyRow {t ty e k bytes : Nat} {z : Value} (ht : P.underlying t = some (.slice e)) (hti : TI P e k bytes z) {b o dl dc : Nat} {cur : Array Value} {e' : TypeId} {a : Addr} {ls sc : Nat} {cs : List Value}
    (hn : cs.length = Nat.min ls dl * k) (hsrc : ∀ j v, cs[j]? = some v → w.cell? (a.add j) = some v) (hg : w.heap[b]? = some (.cells cur e' (0, 0))) (hfit : o + cs.length ≤ cur.size) (h1 : ∀ v ∈ cs, v.oneCell' = true) :
    (Builtin.copy_ #[t, t] ty #[.slice (some ⟨b, o, none⟩) dl dc, .slice (some a) ls sc]).run P w = .ok (goInt (Nat.min ls dl)) (w.setRow b (cur.toList.take o ++ cs ++ cur.toList.drop (o + cs.length)).toArray) := by
  obtain ⟨i, hi, hs, _, _⟩ := hti.out
  have hl := run_loadCells_list (P := P) w a cs hsrc
  rw [hn] at hl
  have hst := run_storeCells_at (P := P) b o e' cs 0 cur w hg (by simpa using hfit) h1
  simp only [Nat.add_zero] at hst
  simp [Builtin.copy_, run_underlying ht, sizeOf, typeInfo, hi, hs, Builtin.lenOf, Builtin.firstCells, hl, hst]
theorem Run_capSl {x : Operand} {a : Option Addr} {n c : Nat} {t e : TypeId} (ht : P.underlying t = some (.slice e)) (hx : Opd E g x (.slice a n c)) :
    Run P E g ⟨dst, .call ⟨.builtin .cap, #[x], #[t]⟩, ty, pos, af, gd⟩ w (.int .i64 c) := fun n' a' hf hg => by
  simp [execOp, resolve, invoke, builtin, hx n' a' hf hg, Builtin.cap_, run_underlying ht, goInt]
theorem Run_reLo {x y : Operand} {b o n c i k bytes : Nat} {kk : IntKind} {z : Value} {t e : TypeId} (ht : P.underlying t = some (.slice e)) (hti : TI P e k bytes z) (hx : Opd E g x (.slice (some ⟨b, o, none⟩) n c)) (hy : Opd E g y (.int kk (i : Int)))
    (h1 : i ≤ n) (h2 : n ≤ c) (h3 : i < c) : Run P E g ⟨dst, .slice t x (some y) none none, ty, pos, af, gd⟩ w (.slice (some ⟨b, o + i * k, none⟩) (n - i) (c - i)) := by
  refine Run_cutSl (lo := some y) (hi := none) ht hti hx (fun _ => ⟨_, _, rfl⟩) ⟨_, hy⟩ rfl (fun _ => ⟨_, _, _, rfl, by omega, by omega, Int.le_refl _, h2, ?_⟩)
  have e1 : (i : Int).toNat = i := by omega
  have e2 : ((n : Nat) : Int).toNat = n := by omega
  rw [e1, e2, if_neg (by omega)]
  simp [Addr.add]
theorem Run_reHi {x y : Operand} {a : Option Addr} {n c j k bytes : Nat} {kk : IntKind} {z : Value} {t e : TypeId} (ht : P.underlying t = some (.slice e)) (hti : TI P e k bytes z) (hx : Opd E g x (.slice a n c)) (hy : Opd E g y (.int kk (j : Int)))
    (h1 : j ≤ c) : Run P E g ⟨dst, .slice t x none (some y) none, ty, pos, af, gd⟩ w (.slice a j c) := by
  obtain ⟨i', hi, hs, _, _⟩ := hti.out
  intro n' a' hf hg
  have e1 : ((j : Nat) : Int).toNat = j := by omega
  by_cases hc : c = 0
  · subst hc
    have hj : j = 0 := by omega
    subst hj
    simp [execOp, hx n' a' hf hg, hy n' a' hf hg, Instr.sliceAt, Instr.slice, Instr.sliceBounds, Instr.sliceBound, asIntOf, run_underlying ht, sizeOf, typeInfo, hi]
  · cases a <;> simp [execOp, hx n' a' hf hg, hy n' a' hf hg, Instr.sliceAt, Instr.slice, Instr.sliceBounds, Instr.sliceBound, asIntOf, run_underlying ht, sizeOf, typeInfo, hi, h1, Addr.add]
theorem Run_extern {f : FuncId} {xs : List Operand} {vs : List Value} {tys : Array TypeId} {v : Value} (hxs : Opds E g xs vs) (hc : (callFunc f vs.toArray).run P w = .ok (.value v) w) :
    Run P E g ⟨dst, .call ⟨.value (.func f), xs.toArray, tys⟩, ty, pos, af, gd⟩ w v := fun n' a' hf hg => by
  have e1 : (Array.map a'.eval xs.toArray) = vs.toArray := by simp [hxs.map hf hg]
  simp only [execOp, resolve, Act.eval, Deferred.ofValue, e1, Sem.run_bind, Sem.run_pure, Result.andThen_ok, invoke]
  simpa using hc
theorem RunW_append {x y : Operand} {t t' : TypeId} {u v r : Value} {w' : World} (hx : Opd E true x u) (hy : Opd E true y v) (hr : (Builtin.append_ #[t, t'] ty #[u, v]).run P w = .ok r w') :
    RunW P E ⟨dst, .call ⟨.builtin .append, #[x, y], #[t, t']⟩, ty, pos, af, gd⟩ w r w' := fun n a hf => by simp [execOp, resolve, invoke, builtin, hx n a hf rfl, hy n a hf rfl, hr]
theorem RunW_copy {x y : Operand} {t t' : TypeId} {u v r : Value} {w' : World} (hx : Opd E true x u) (hy : Opd E true y v) (hr : (Builtin.copy_ #[t, t'] ty #[u, v]).run P w = .ok r w') :
    RunW P E ⟨dst, .call ⟨.builtin .copy, #[x, y], #[t, t']⟩, ty, pos, af, gd⟩ w r w' := fun n a hf => by simp [execOp, resolve, invoke, builtin, hx n a hf rfl, hy n a hf rfl, hr]
end
/-! rows of cells -/
section
variable {w : World}
theorem cell_of_heap {b : Nat} {cur : Array Value} {e : TypeId} {fr : Nat × Nat} (hb : w.heap[b]? = some (.cells cur e fr)) (o : Nat) (l : List Value) (hl : l = (cur.toList.drop o).take l.length) : ∀ j v, l[j]? = some v → w.cell? ((⟨b, o, none⟩ : Addr).add j) = some v := by
  intro j v hj
  have key : CellsAt w ⟨b, o, none⟩ l := ⟨rfl, cur, e, fr, hb, fun j u hj => by
    rw [hl, List.getElem?_take] at hj
    split at hj
    · simpa [List.getElem?_drop] using hj
    · cases hj⟩
  exact key.cell hj
theorem Chg.trans {C : List Nat} {a b c : World} (h : Chg C a b) (k : Chg C b c) : Chg C a c := ⟨k.os.trans h.os, k.tape.trans h.tape, k.output.trans h.output, Nat.le_trans h.size k.size, fun i hi hn => (k.block i (Nat.lt_of_lt_of_le hi h.size) hn).trans (h.block i hi hn)⟩
theorem chg_setRow (b : Nat) (row : Array Value) : Chg [b] w (w.setRow b row) := ⟨rfl, rfl, rfl, by simp, fun c _ hcb => setRow_other w b c _ (by simpa using hcb)⟩
/-- in place: what stood from i on goes m further, then the new ones are laid -/
theorem row_shift {l vs : List Value} {a b n c : Nat} (ha : a ≤ n) (hb : vs.length = b) (hc : n + b ≤ c) (hl : l.length = c) :
    let r1 := l.take (a + b) ++ (l.drop a).take (n - a) ++ l.drop (a + b + ((l.drop a).take (n - a)).length)
    let r2 := r1.take a ++ vs ++ r1.drop (a + vs.length)
    r1.length = c ∧ r2.length = c ∧ r2.take (n + b) = (l.take n).take a ++ vs ++ (l.take n).drop a := by
  intro r1 r2
  have e0 : ((l.drop a).take (n - a)).length = n - a := by rw [List.length_take, List.length_drop]; omega
  have h1 : r1.length = c := by
    simp only [r1, List.length_append, List.length_take, List.length_drop, e0]; omega
  have h2 : r2.length = c := by
    simp only [r2, List.length_append, List.length_take, List.length_drop, h1]; omega
  refine ⟨h1, h2, ?_⟩
  have t1 : r1.take a = (l.take n).take a := by
    simp only [r1]
    rw [List.append_assoc, List.take_append_of_le_length (by rw [List.length_take]; omega), List.take_take, List.take_take, Nat.min_eq_left (by omega), Nat.min_eq_left ha]
  have t2 : (r1.drop (a + vs.length)).take (n - a) = (l.take n).drop a := by
    simp only [r1]
    rw [List.append_assoc, List.drop_append, hb]
    rw [List.drop_eq_nil_of_le (by rw [List.length_take]; omega), List.nil_append, List.length_take, Nat.min_eq_left (by omega), Nat.sub_self, List.drop_zero, List.take_append_of_le_length (by omega), List.take_of_length_le (by omega), List.drop_take]
  simp only [r2]
  rw [t1]
  have l1 : ((l.take n).take a ++ vs).length = a + b := by rw [List.length_append, List.length_take, List.length_take]; omega
  rw [List.take_append, List.take_of_length_le (by omega), l1, show n + b - (a + b) = n - a by omega, t2]
/-- a new row: the beginning, noughts; the new ones are laid, then the rest -/
theorem row_grow {l vs z : List Value} {a b n : Nat} (ha : a ≤ n) (hb : vs.length = b) (hl : l.length = n) (hz : n + b ≤ a + z.length) :
    let r0 := l.take a ++ z
    let r1 := r0.take a ++ vs ++ r0.drop (a + vs.length)
    let r2 := r1.take (a + b) ++ l.drop a ++ r1.drop (a + b + (l.drop a).length)
    r1.length = r0.length ∧ r2.length = r0.length ∧ r2.take (n + b) = l.take a ++ vs ++ l.drop a := by
  intro r0 r1 r2
  have h0 : r0.length = a + z.length := by simp only [r0, List.length_append, List.length_take]; omega
  have hd : (l.drop a).length = n - a := by rw [List.length_drop, hl]
  have h1 : r1.length = r0.length := by
    simp only [r1, List.length_append, List.length_take, List.length_drop]; omega
  have h2 : r2.length = r0.length := by
    simp only [r2, List.length_append, List.length_take, hd, List.length_drop]; omega
  refine ⟨h1, h2, ?_⟩
  have t0 : r0.take a = l.take a := by
    simp only [r0]
    rw [List.take_append_of_le_length (by rw [List.length_take]; omega), List.take_take, Nat.min_self]
  have t1 : r1.take (a + b) = l.take a ++ vs := by
    simp only [r1]
    rw [t0]
    have : (l.take a ++ vs).length = a + b := by rw [List.length_append, List.length_take]; omega
    rw [List.take_append_of_le_length (by omega), List.take_of_length_le (by omega)]
  simp only [r2]
  rw [t1]
  have : (l.take a ++ vs ++ l.drop a).length = n + b := by rw [List.length_append, List.length_append, List.length_take, hd]; omega
  rw [List.take_append_of_le_length (by omega), List.take_of_length_le (by omega)]
end

section
variable {P : Program} {w : World}
theorem own_append {α : Type} {A : Rep α} {M : Nat → Prop} {v u : Value} {t ty e : TypeId} {bytes : Nat} {z : Value} {R : List Nat} (ht : P.underlying t = some (.slice e)) (hti : TI P e A.n bytes z)
    (hzs : z.cells.size = A.n) (hpos : 0 < A.n) {xs ys : List α} (ho : Own A e M w v xs R) (hyr : SRd A M w u ys) (hM : ∀ b ∈ R, M b) (hroom : roomB (xs.length + ys.length) bytes = true) :
    ∃ v' R' w', (Builtin.append_ #[t, t] ty #[v, u]).run P w = .ok v' w' ∧ Chg R w w' ∧ (∀ b ∈ R', b < w'.heap.size ∧ (b ∈ R ∨ w.heap.size ≤ b)) ∧ ∀ M', Mv M w M' w' → Own A e M' w' v' (xs ++ ys) R' := by
  obtain ⟨i', hi', hs, hby, hz⟩ := hti.out
  subst hby
  rcases ho with ⟨rfl, ho⟩ | ⟨rfl, rfl, ⟨a0, rfl⟩, hr0⟩
  · obtain ⟨v', w', hr, hC, hR, hO⟩ := run_append_osl t ty e i' z ht hi' hz hs hzs ho hyr hM hroom hpos
    exact ⟨v', blk v', w', hr, hC, hR, fun M' m => Own.of (hO M' m)⟩
  · rcases run_append_empty t ty e i' z ht hi' hz hs hzs hr0 hyr (by simpa using hroom) with ⟨hr, rfl⟩ | ⟨v', w', hr, hE, hB, hO⟩
    · exact ⟨_, [], w, hr, (Ext.refl w).chg _, (fun b hb => by cases hb), fun M' m => Own.empty (hr0.mv m)⟩
    · exact ⟨v', blk v', w', hr, hE.chg _, (fun b hb => ⟨(hB b hb).1, .inr (hB b hb).2⟩), fun M' m => Own.of (by simpa using hO M' m)⟩
/-- an own slice's value -/
theorem Own.shape {α : Type} {A : Rep α} {M : Nat → Prop} {v : Value} {e : TypeId} {xs : List α} {R : List Nat} (h : Own A e M w v xs R) : ∃ p c, v = .slice p xs.length c ∧ xs.length ≤ c := by
  rcases h with ⟨_, cells, ⟨_, h2⟩, _⟩ | ⟨_, rfl, ⟨a, rfl⟩, _⟩
  · rcases h2 with ⟨rfl, h0⟩ | ⟨g, cap, cur, rfl, _, _, hc, _⟩
    · exact ⟨none, 0, by rw [h0], by omega⟩
    · exact ⟨_, _, rfl, hc⟩
  · exact ⟨a, 0, rfl, Nat.le_refl _⟩
theorem Own.row {α : Type} {A : Rep α} {M : Nat → Prop} {v : Value} {e : TypeId} {xs : List α} {R : List Nat} (h : Own A e M w v xs R) (hx : xs ≠ []) :
    ∃ b c cur, v = .slice (some ⟨b, 0, none⟩) xs.length c ∧ R = [b] ∧ w.heap[b]? = some (.cells cur e (0, 0)) ∧ xs.length ≤ c ∧ c ≤ maxLen ∧ cur.size = c * A.n ∧ ARd A M w (cur.toList.take (xs.length * A.n)) xs := by
  rcases h with ⟨hR, cells, ⟨_, h2⟩, hr⟩ | ⟨_, h, _⟩
  · rcases h2 with ⟨_, h0⟩ | ⟨g, cap, cur, rfl, _, hh, hc, hm, hs, ht⟩
    · exact absurd (List.eq_nil_of_length_eq_zero h0) hx
    · exact ⟨g, cap, cur, rfl, by rw [hR]; rfl, hh, hc, hm, hs, by rw [ht]; exact hr⟩
  · exact absurd h hx
theorem Own.mk_ {α : Type} {A : Rep α} {M : Nat → Prop} {e : TypeId} {xs : List α} {b c : Nat} {cur : Array Value} (hh : w.heap[b]? = some (.cells cur e (0, 0))) (hc : xs.length ≤ c) (hm : c ≤ maxLen) (hs : cur.size = c * A.n) (hr : ARd A M w (cur.toList.take (xs.length * A.n)) xs) :
    Own A e M w (.slice (some ⟨b, 0, none⟩) xs.length c) xs [b] := .inl ⟨rfl, _, ⟨hr.1, .inr ⟨b, c, cur, rfl, Nat.zero_le _, hh, hc, hm, hs, rfl⟩⟩, hr⟩
theorem insL_len {α : Type} {xs ys : List α} {i : Nat} (h : i ≤ xs.length) : (insL xs (i : Int) ys).length = xs.length + ys.length := by
  unfold insL
  simp only [List.length_append, List.length_take, List.length_drop, Int.toNat_natCast]; omega
theorem insL_end {α : Type} {xs ys : List α} : insL xs (xs.length : Int) ys = xs ++ ys := by
  unfold insL
  simp
theorem insL_rd {α : Type} {A : Rep α} {M : Nat → Prop} {cx cy : List Value} {xs ys : List α} {i : Nat} (hx : ARd A M w cx xs) (hy : ARd A M w cy ys) : ARd A M w (cx.take (i * A.n) ++ cy ++ cx.drop (i * A.n)) (insL xs (i : Int) ys) := by
  unfold insL
  rw [Int.toNat_natCast]
  exact ((hx.take i).append hy).append (hx.drop i)
end
end Go.Proofs.Ytjappdgehmjomaa
