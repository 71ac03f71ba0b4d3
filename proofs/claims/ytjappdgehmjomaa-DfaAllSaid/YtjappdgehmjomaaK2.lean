/-
  Own framework, part 2: operations on numbers, bools and strings; calls; results.
-/
import Derived.Test.YtjappdgehmjomaaK1
namespace Go.Proofs.Ytjappdgehmjomaa

section
variable {P : Program} {E : Env} {g : Bool} {w : World} {dst : Option Tmp} {ty : TypeId} {pos : String} {af : Array Edge} {gd : Option (Nat × Bool)}

theorem Run_move {x : Operand} {v : Value} (hx : Opd E g x v) : Run P E g ⟨dst, .move x, ty, pos, af, gd⟩ w v :=
  fun n a hf hg => by simp only [execOp, hx n a hf hg]; rfl
theorem Run_assign {x : Operand} {v : Value} (hx : Opd E g x v) : Run P E g ⟨dst, .assign x, ty, pos, af, gd⟩ w v :=
  fun n a hf hg => by simp only [execOp, hx n a hf hg]; rfl

theorem Run_and {c x : Operand} {b y : Bool} (hc : Opd E g c (.bool b)) (hx : Opd E (g && b) x (.bool y)) :
    Run P E g ⟨dst, .pick c x (.const (.bool false)), ty, pos, af, gd⟩ w (.bool (b && y)) :=
  fun n a hf hg => by
    subst hg
    simp only [execOp, hc n a hf rfl]
    cases b
    · rfl
    · simp only [hx n a hf rfl]; rfl
theorem Run_or {c x : Operand} {b y : Bool} (hc : Opd E g c (.bool b)) (hx : Opd E (g && !b) x (.bool y)) :
    Run P E g ⟨dst, .pick c (.const (.bool true)) x, ty, pos, af, gd⟩ w (.bool (b || y)) :=
  fun n a hf hg => by
    subst hg
    simp only [execOp, hc n a hf rfl]
    cases b
    · simp only [hx n a hf rfl]; rfl
    · rfl

theorem Run_notB {x : Operand} {b : Bool} {t : TypeId} (hx : Opd E g x (.bool b)) : Run P E g ⟨dst, .unOp .not t x, ty, pos, af, gd⟩ w (.bool (!b)) :=
  fun n a hf hg => by simp only [execOp, hx n a hf hg]; rfl
theorem Run_neg {x : Operand} {k : IntKind} {m : Int} {t : TypeId} (hx : Opd E g x (.int k m)) : Run P E g ⟨dst, .unOp .neg t x, ty, pos, af, gd⟩ w (.int k (k.wrap (0 - m))) :=
  fun n a hf hg => by simp only [execOp, hx n a hf hg]; rfl

/-- a binary operation that looks at its operands alone -/
theorem Run_bin {x y : Operand} {op : BinOp} {u v z : Value} {t t' : TypeId} (hx : Opd E g x u) (hy : Opd E g y v)
    (h : (do eqGuard op t x y u v; binOp op t u v : Sem Value).run P w = .ok z w) : Run P E g ⟨dst, .binOp op t x y t', ty, pos, af, gd⟩ w z :=
  fun n a hf hg => by
    simp only [execOp, hx n a hf hg, hy n a hf hg, Sem.run_bind] at h ⊢
    simp only [h, Result.andThen_ok]; rfl

/-- no interface, no aggregate -/
def plainV : Value → Bool
  | .nilIface => false
  | .agg _ => false
  | _ => true
theorem run_eqGuard_plain {op : BinOp} {t : TypeId} {x y : Operand} {u v : Value} (hu : plainV u = true) : (eqGuard op t x y u v).run P w = .ok () w := by
  unfold eqGuard
  cases op <;> simp <;> (split <;> simp_all [plainV])

theorem Run_add {x y : Operand} {k : IntKind} {m l : Int} {t t' : TypeId} (hx : Opd E g x (.int k m)) (hy : Opd E g y (.int k l)) :
    Run P E g ⟨dst, .binOp .add t x y t', ty, pos, af, gd⟩ w (.int k (k.wrap (m + l))) := Run_bin hx hy (by simp [eqGuard, binOp, Op.intArith])
theorem Run_sub {x y : Operand} {k : IntKind} {m l : Int} {t t' : TypeId} (hx : Opd E g x (.int k m)) (hy : Opd E g y (.int k l)) :
    Run P E g ⟨dst, .binOp .sub t x y t', ty, pos, af, gd⟩ w (.int k (k.wrap (m - l))) := Run_bin hx hy (by simp [eqGuard, binOp, Op.intArith])
theorem Run_mul {x y : Operand} {k : IntKind} {m l : Int} {t t' : TypeId} (hx : Opd E g x (.int k m)) (hy : Opd E g y (.int k l)) :
    Run P E g ⟨dst, .binOp .mul t x y t', ty, pos, af, gd⟩ w (.int k (k.wrap (m * l))) := Run_bin hx hy (by simp [eqGuard, binOp, Op.intArith])
theorem Run_quo {x y : Operand} {k : IntKind} {m l : Int} {t t' : TypeId} (hx : Opd E g x (.int k m)) (hy : Opd E g y (.int k l)) (h0 : (l == 0) = false) :
    Run P E g ⟨dst, .binOp .quo t x y t', ty, pos, af, gd⟩ w (.int k (k.wrap (m.tdiv l))) := Run_bin hx hy (by
      have : ¬ l = 0 := by simpa using h0
      simp [eqGuard, binOp, Op.intDiv, this])
theorem Run_rem {x y : Operand} {k : IntKind} {m l : Int} {t t' : TypeId} (hx : Opd E g x (.int k m)) (hy : Opd E g y (.int k l)) (h0 : (l == 0) = false) :
    Run P E g ⟨dst, .binOp .rem t x y t', ty, pos, af, gd⟩ w (.int k (m.tmod l)) := Run_bin hx hy (by
      have : ¬ l = 0 := by simpa using h0
      simp [eqGuard, binOp, Op.intDiv, this])
theorem Run_eqI {x y : Operand} {k : IntKind} {m l : Int} {t t' : TypeId} (hx : Opd E g x (.int k m)) (hy : Opd E g y (.int k l)) :
    Run P E g ⟨dst, .binOp .eql t x y t', ty, pos, af, gd⟩ w (.bool (m == l)) := Run_bin hx hy (by simp [eqGuard, binOp, Op.intCmp])
theorem Run_neI {x y : Operand} {k : IntKind} {m l : Int} {t t' : TypeId} (hx : Opd E g x (.int k m)) (hy : Opd E g y (.int k l)) :
    Run P E g ⟨dst, .binOp .neq t x y t', ty, pos, af, gd⟩ w (.bool (m != l)) := Run_bin hx hy (by simp [eqGuard, binOp, Op.intCmp])
theorem Run_ltI {x y : Operand} {k : IntKind} {m l : Int} {t t' : TypeId} (hx : Opd E g x (.int k m)) (hy : Opd E g y (.int k l)) :
    Run P E g ⟨dst, .binOp .lss t x y t', ty, pos, af, gd⟩ w (.bool (decide (m < l))) := Run_bin hx hy (by simp [eqGuard, binOp, Op.intCmp])
theorem Run_leI {x y : Operand} {k : IntKind} {m l : Int} {t t' : TypeId} (hx : Opd E g x (.int k m)) (hy : Opd E g y (.int k l)) :
    Run P E g ⟨dst, .binOp .leq t x y t', ty, pos, af, gd⟩ w (.bool (decide (m ≤ l))) := Run_bin hx hy (by simp [eqGuard, binOp, Op.intCmp])
theorem Run_gtI {x y : Operand} {k : IntKind} {m l : Int} {t t' : TypeId} (hx : Opd E g x (.int k m)) (hy : Opd E g y (.int k l)) :
    Run P E g ⟨dst, .binOp .gtr t x y t', ty, pos, af, gd⟩ w (.bool (decide (l < m))) := Run_bin hx hy (by simp [eqGuard, binOp, Op.intCmp])
theorem Run_geI {x y : Operand} {k : IntKind} {m l : Int} {t t' : TypeId} (hx : Opd E g x (.int k m)) (hy : Opd E g y (.int k l)) :
    Run P E g ⟨dst, .binOp .geq t x y t', ty, pos, af, gd⟩ w (.bool (decide (l ≤ m))) := Run_bin hx hy (by simp [eqGuard, binOp, Op.intCmp])
theorem Run_bitsI {op : BinOp} (hop : op = .and ∨ op = .or ∨ op = .xor ∨ op = .andNot) {x y : Operand} {k : IntKind} {m l : Int} {t t' : TypeId} (hx : Opd E g x (.int k m)) (hy : Opd E g y (.int k l))
    {z : Int} (hz : ∀ w : World, (Op.intBits op k m l).run P w = .ok (.int k z) w) :
    Run P E g ⟨dst, .binOp op t x y t', ty, pos, af, gd⟩ w (.int k z) := Run_bin hx hy (by rcases hop with h | h | h | h <;> subst h <;> simp [eqGuard, binOp, hz])

theorem toList_S (l : Str) : (⟨l.toArray⟩ : ByteArray).toList = l := by
  rw [ByteArray.toList_eq]
theorem size_S (l : Str) : (⟨l.toArray⟩ : ByteArray).size = l.length := by simp [ByteArray.size]

theorem Run_eqS {x y : Operand} {m l : Str} {t t' : TypeId} (hx : Opd E g x (S m)) (hy : Opd E g y (S l)) :
    Run P E g ⟨dst, .binOp .eql t x y t', ty, pos, af, gd⟩ w (.bool (m == l)) := Run_bin hx hy (by simp [eqGuard, S, binOp, Op.stringOp])
theorem Run_neS {x y : Operand} {m l : Str} {t t' : TypeId} (hx : Opd E g x (S m)) (hy : Opd E g y (S l)) :
    Run P E g ⟨dst, .binOp .neq t x y t', ty, pos, af, gd⟩ w (.bool (m != l)) := Run_bin hx hy (by simp [eqGuard, S, binOp, Op.stringOp, bne])
/-- the sum of two strings' lengths is an int -/
def catB (m l : Str) : Bool := Nat.ble (m.length + l.length) 9223372036854775807
theorem append_S (m l : Str) : ((⟨m.toArray⟩ : ByteArray) ++ (⟨l.toArray⟩ : ByteArray)) = ⟨(m ++ l).toArray⟩ := by
  apply ByteArray.ext
  simp [ByteArray.data_append]
theorem Run_cat {x y : Operand} {m l : Str} {t t' : TypeId} (hx : Opd E g x (S m)) (hy : Opd E g y (S l)) (hc : g = true → catB m l = true) :
    Run P E g ⟨dst, .binOp .add t x y t', ty, pos, af, gd⟩ w (S (m ++ l)) := fun n a hf hg =>
  Run_bin (P := P) (z := S (m ++ l)) hx hy (by
    have h1 : m.length + l.length ≤ 9223372036854775807 := Nat.le_of_ble_eq_true (hc hg)
    have h2 : ¬ ((((⟨m.toArray⟩ : ByteArray).size + (⟨l.toArray⟩ : ByteArray).size : Nat) : Int) > IntKind.i64.max) := by
      rw [size_S, size_S]; show ¬ (9223372036854775807 : Int) < _; omega
    simp only [eqGuard, S, binOp, Op.stringOp, Sem.run_bind, if_neg h2, append_S]
    simp) n a hf hg

theorem Run_eqB {x y : Operand} {m l : Bool} {t t' : TypeId} (ht : P.underlying t = some .bool) (hx : Opd E g x (.bool m)) (hy : Opd E g y (.bool l)) :
    Run P E g ⟨dst, .binOp .eql t x y t', ty, pos, af, gd⟩ w (.bool (m == l)) := Run_bin hx hy (by rw [Sem.run_bind, run_eqGuard_plain rfl, Result.andThen_ok, run_eql_bool w t m l ht])
theorem Run_neB {x y : Operand} {m l : Bool} {t t' : TypeId} (ht : P.underlying t = some .bool) (hx : Opd E g x (.bool m)) (hy : Opd E g y (.bool l)) :
    Run P E g ⟨dst, .binOp .neq t x y t', ty, pos, af, gd⟩ w (.bool (m != l)) := Run_bin hx hy (by rw [Sem.run_bind, run_eqGuard_plain rfl, Result.andThen_ok, run_neq_bool w t m l ht]; rfl)

theorem Run_conv {x : Operand} {k k' : IntKind} {m : Int} {s d : TypeId} {ds : TypeDesc} (hs : P.underlying s = some ds) (ht : P.underlying d = some (.int k)) (hx : Opd E g x (.int k' m)) :
    Run P E g ⟨dst, .convert s d x, ty, pos, af, gd⟩ w (.int k (k.wrap m)) :=
  fun n a hf hg => by simp [execOp, hx n a hf hg, convert, run_underlying hs, run_underlying ht, Conv.intToInt]

theorem Run_extract {x : Operand} {vs : List Value} {i : Nat} {v : Value} (hx : Opd E g x (.tuple vs.toArray)) (hi : vs[i]? = some v) :
    Run P E g ⟨dst, .extract x i, ty, pos, af, gd⟩ w v :=
  fun n a hf hg => by simp [execOp, hx n a hf hg, Instr.extract, hi]

theorem Run_lenS {x : Operand} {l : Str} {t : TypeId} (ht : P.underlying t = some .string) (hx : Opd E g x (S l)) :
    Run P E g ⟨dst, .call ⟨.builtin .len, #[x], #[t]⟩, ty, pos, af, gd⟩ w (.int .i64 l.length) :=
  fun n a hf hg => by simp [execOp, resolve, invoke, builtin, hx n a hf hg, Builtin.len_, run_underlying ht, S, goInt, size_S]

/-- 0 ≤ i < n -/
def inB (i : Int) (n : Nat) : Bool := decide (0 ≤ i) && decide (i < n)
theorem inB_iff {i : Int} {n : Nat} : inB i n = true ↔ 0 ≤ i ∧ i < n := by simp [inB]
/-- the byte at i -/
def byteAt (l : Str) (i : Int) : Int := (l.getD i.toNat 0).toNat

theorem getElem?_S (l : Str) (i : Nat) : (⟨l.toArray⟩ : ByteArray)[i]? = l[i]? := by
  by_cases h : i < l.length
  · have h' : i < (⟨l.toArray⟩ : ByteArray).size := by rw [size_S]; exact h
    rw [getElem?_pos (⟨l.toArray⟩ : ByteArray) i h', List.getElem?_eq_getElem h]
    rfl
  · have h' : ¬ i < (⟨l.toArray⟩ : ByteArray).size := by rw [size_S]; exact h
    rw [getElem?_neg (⟨l.toArray⟩ : ByteArray) i h', List.getElem?_eq_none (by omega)]

theorem Run_idxS {x y : Operand} {l : Str} {i : Int} {k : IntKind} {t : TypeId} (ht : P.underlying t = some .string) (hx : Opd E g x (S l)) (hy : Opd E g y (.int k i)) (hi : g = true → inB i l.length = true) :
    Run P E g ⟨dst, .index t x y, ty, pos, af, gd⟩ w (.int .u8 (byteAt l i)) :=
  fun n a hf hg => by
    obtain ⟨h0, h1⟩ := inB_iff.1 (hi hg)
    have h2 : i.toNat < l.length := by omega
    have h3 : (⟨l.toArray⟩ : ByteArray)[i.toNat]? = some l[i.toNat] := by rw [getElem?_S, List.getElem?_eq_getElem h2]
    simp only [execOp, hx n a hf hg, hy n a hf hg, Instr.index, asIntOf, S, Sem.run_bind, Sem.run_pure, Result.andThen_ok, run_underlying ht]
    rw [if_pos h0, h3]
    simp [byteAt, h2]

/-- 0 ≤ i ≤ j ≤ n -/
def cutB (i j : Int) (n : Nat) : Bool := decide (0 ≤ i) && decide (i ≤ j) && decide (j ≤ n)
theorem cutB_iff {i j : Int} {n : Nat} : cutB i j n = true ↔ (0 ≤ i ∧ i ≤ j) ∧ j ≤ n := by simp [cutB]
def cut (l : Str) (i j : Int) : Str := (l.drop i.toNat).take (j.toNat - i.toNat)

theorem extract_S (l : Str) (i j : Nat) : (⟨l.toArray⟩ : ByteArray).extract i j = ⟨((l.drop i).take (j - i)).toArray⟩ := by
  apply ByteArray.ext
  simp [ByteArray.data_extract]

theorem Run_cutS {x : Operand} {l : Str} {i j : Int} {lo hi : Option Operand} {t : TypeId} (ht : P.underlying t = some .string) (hx : Opd E g x (S l))
    (hlo : match lo with | none => i = 0 | some y => ∃ k, Opd E g y (.int k i)) (hhi : match hi with | none => j = l.length | some y => ∃ k, Opd E g y (.int k j))
    (hc : g = true → cutB i j l.length = true) :
    Run P E g ⟨dst, .slice t x lo hi none, ty, pos, af, gd⟩ w (S (cut l i j)) :=
  fun n a hf hg => by
    obtain ⟨⟨h0, h1⟩, h2⟩ := cutB_iff.1 (hc hg)
    have h3 : 0 ≤ j := by omega
    have e1 : (((j.toNat : Nat) : Int)) = j := by omega
    cases lo with
    | none =>
      subst hlo
      cases hi with
      | none =>
        subst hhi
        simp [execOp, hx n a hf hg, Instr.sliceAt, Instr.slice, Instr.sliceBounds, run_underlying ht, S, cut]
      | some y =>
        obtain ⟨k, hy⟩ := hhi
        simp [execOp, hx n a hf hg, hy n a hf hg, Instr.sliceAt, Instr.slice, Instr.sliceBounds, Instr.sliceBound, asIntOf, run_underlying ht, S, extract_S, cut, size_S, h2, h3]
    | some z =>
      obtain ⟨k, hz⟩ := hlo
      cases hi with
      | none =>
        subst hhi
        simp [execOp, hx n a hf hg, hz n a hf hg, Instr.sliceAt, Instr.slice, Instr.sliceBounds, Instr.sliceBound, asIntOf, run_underlying ht, S, extract_S, cut, size_S, h0, h1]
      | some y =>
        obtain ⟨k', hy⟩ := hhi
        have h4 : i ≤ ((j.toNat : Nat) : Int) := by omega
        simp [execOp, hx n a hf hg, hz n a hf hg, hy n a hf hg, Instr.sliceAt, Instr.slice, Instr.sliceBounds, Instr.sliceBound, asIntOf, run_underlying ht, S, extract_S, cut, size_S, h0, h1, h2, h3, e1]

theorem Run_makeFunc {fn : Fn} {first cap : List Operand} {vs us : List Value} (h1 : Opds E g first vs) (h2 : Opds E g cap us) :
    Run P E g ⟨dst, .makeFunc fn first.toArray cap.toArray, ty, pos, af, gd⟩ w (.func fn vs.toArray us.toArray) :=
  fun n a hf hg => by simp [execOp, Instr.makeFunc, h1.map hf hg, h2.map hf hg]

theorem Run_max2 {x y : Operand} {k : IntKind} {m l : Int} {t t' : TypeId} (hx : Opd E g x (.int k m)) (hy : Opd E g y (.int k l))
    (hz : ∀ w : World, (Builtin.max_ #[t, t'] ty #[.int k m, .int k l]).run P w = .ok (.int k (max m l)) w) :
    Run P E g ⟨dst, .call ⟨.builtin .max, #[x, y], #[t, t']⟩, ty, pos, af, gd⟩ w (.int k (max m l)) :=
  fun n a hf hg => by simp [execOp, resolve, invoke, builtin, hx n a hf hg, hy n a hf hg, hz]
theorem Run_min2 {x y : Operand} {k : IntKind} {m l : Int} {t t' : TypeId} (hx : Opd E g x (.int k m)) (hy : Opd E g y (.int k l))
    (hz : ∀ w : World, (Builtin.min_ #[t, t'] ty #[.int k m, .int k l]).run P w = .ok (.int k (min m l)) w) :
    Run P E g ⟨dst, .call ⟨.builtin .min, #[x, y], #[t, t']⟩, ty, pos, af, gd⟩ w (.int k (min m l)) :=
  fun n a hf hg => by simp [execOp, resolve, invoke, builtin, hx n a hf hg, hy n a hf hg, hz]
end

/-! ### worlds that only grow -/

structure Ext (w w' : World) : Prop where
  os : w'.os = w.os
  tape : w'.tape = w.tape
  output : w'.output = w.output
  size : w.heap.size ≤ w'.heap.size
  block : ∀ k, k < w.heap.size → w'.heap[k]? = w.heap[k]?

theorem Ext.refl (w : World) : Ext w w := ⟨rfl, rfl, rfl, Nat.le_refl _, fun _ _ => rfl⟩
theorem Ext.trans {a b c : World} (h : Ext a b) (k : Ext b c) : Ext a c :=
  ⟨k.os.trans h.os, k.tape.trans h.tape, k.output.trans h.output, Nat.le_trans h.size k.size, fun i hi => (k.block i (Nat.lt_of_lt_of_le hi h.size)).trans (h.block i hi)⟩

/-! ### calls -/

/-- the function may be entered -/
def Enters (P : Program) (f : FuncId) : Prop := ∀ (args : Array Value) (w : World), (callFunc f args).run P w = .ok (.enter f args) w

section
variable {P : Program} {ρ : Option Nat} {Q : Post} {n : Nat} {D : List Deferred} {E : Env} {w : World} {ops : Array Oper} {rest : List Oper}

theorem exec_call {g : Bool} {f : FuncId} {fo : Operand} {first vs cap : List Value} {xs : List Operand} {tys : Array TypeId} {dst : Option Tmp} {ty : TypeId} {pos : String} {af : Array Edge} {gd : Option (Nat × Bool)}
    (he : Enters P f) (hfo : Opd E g fo (.func (.func f) first.toArray cap.toArray)) (hxs : Opds E g xs vs) {a : Act} (hf : Fits n E a) (hg : g = true) :
    (execOp a.eval ⟨dst, .call ⟨.value fo, xs.toArray, tys⟩, ty, pos, af, gd⟩).run P w = .ok (.enter f (first ++ vs ++ cap).toArray) w := by
  have e1 : (Array.map a.eval xs.toArray) = vs.toArray := by simp [hxs.map hf hg]
  have := he (first ++ vs ++ cap).toArray w
  simp only [execOp, resolve, hfo n a hf hg, Deferred.ofValue, e1, Sem.run_bind, Sem.run_pure, Result.andThen_ok, invoke]
  simp at this
  simpa using this

theorem upon_callX {o : Oper} {a : Act} {next : Act → World → Prop} {f : FuncId} {args : List Value} {S : Value → World → Prop} {Sp : List PanicEntry → World → Prop}
    (hc : CallsX P f args w S Sp) (h : ∀ v w', S v w' → next (a.put o.dst v) w') (hp : ∀ c w', Sp c w' → Q (.panic c) a w') : o.uponIn (FW ρ) 0 P a next Q (.ok (.enter f args.toArray) w) := by
  rw [Oper.uponIn_enter]
  refine ⟨FW_depth, callsIn_FW (Calls.mono hc fun e w' he => ?_)⟩
  cases e with
  | returned v => exact h v w' he
  | panicked c => exact hp c w' he
  | outgrown => exact he.elim

theorem WL_callX {f : FuncId} {fo : Operand} {first vs cap args : List Value} {xs : List Operand} {tys : Array TypeId} {d : Tmp} {ty : TypeId} {pos : String} {af : Array Edge} {S : Value → World → Prop} {Sp : List PanicEntry → World → Prop}
    (he : Enters P f) (hfo : Opd E true fo (.func (.func f) first.toArray cap.toArray)) (hxs : Opds E true xs vs) (ha : args = first ++ vs ++ cap)
    (hn : Nat.blt d n = true) (hc : CallsX P f args w S Sp)
    (h : ∀ v w', S v w' → WL P ρ ops Q n D rest ((d, true, v) :: E) w') (hp : ∀ c w', Sp c w' → At Q (.panic c) n D E w') : WL P ρ ops Q n D (⟨some d, .call ⟨.value fo, xs.toArray, tys⟩, ty, pos, af, none⟩ :: rest) E w := fun a hf hD =>
  wpListIn_plain rfl fun K hK => wpIn_of rfl (by
    subst ha
    rw [exec_call he hfo hxs hf rfl]
    exact upon_callX hc (fun v w' hv => hK _ _ (h v w' hv _ (hf.put hn) hD)) (fun c w' hv => hp c w' hv a hf hD))
theorem WL_call {f : FuncId} {fo : Operand} {first vs cap args : List Value} {xs : List Operand} {tys : Array TypeId} {d : Tmp} {ty : TypeId} {pos : String} {af : Array Edge} {S : Value → World → Prop}
    (he : Enters P f) (hfo : Opd E true fo (.func (.func f) first.toArray cap.toArray)) (hxs : Opds E true xs vs) (ha : args = first ++ vs ++ cap)
    (hn : Nat.blt d n = true) (hc : CallsR P f args w S)
    (h : ∀ v w', S v w' → WL P ρ ops Q n D rest ((d, true, v) :: E) w') : WL P ρ ops Q n D (⟨some d, .call ⟨.value fo, xs.toArray, tys⟩, ty, pos, af, none⟩ :: rest) E w :=
  WL_callX he hfo hxs ha hn hc h (fun _ _ h => h.elim)
theorem WL_callX0 {f : FuncId} {fo : Operand} {first vs cap args : List Value} {xs : List Operand} {tys : Array TypeId} {ty : TypeId} {pos : String} {af : Array Edge} {S : Value → World → Prop} {Sp : List PanicEntry → World → Prop}
    (he : Enters P f) (hfo : Opd E true fo (.func (.func f) first.toArray cap.toArray)) (hxs : Opds E true xs vs) (ha : args = first ++ vs ++ cap)
    (hc : CallsX P f args w S Sp)
    (h : ∀ v w', S v w' → WL P ρ ops Q n D rest E w') (hp : ∀ c w', Sp c w' → At Q (.panic c) n D E w') : WL P ρ ops Q n D (⟨none, .call ⟨.value fo, xs.toArray, tys⟩, ty, pos, af, none⟩ :: rest) E w := fun a hf hD =>
  wpListIn_plain rfl fun K hK => wpIn_of rfl (by
    subst ha
    rw [exec_call he hfo hxs hf rfl]
    exact upon_callX hc (fun v w' hv => hK _ _ (h v w' hv _ hf hD)) (fun c w' hv => hp c w' hv a hf hD))
theorem WL_call0 {f : FuncId} {fo : Operand} {first vs cap args : List Value} {xs : List Operand} {tys : Array TypeId} {ty : TypeId} {pos : String} {af : Array Edge} {S : Value → World → Prop}
    (he : Enters P f) (hfo : Opd E true fo (.func (.func f) first.toArray cap.toArray)) (hxs : Opds E true xs vs) (ha : args = first ++ vs ++ cap)
    (hc : CallsR P f args w S)
    (h : ∀ v w', S v w' → WL P ρ ops Q n D rest E w') : WL P ρ ops Q n D (⟨none, .call ⟨.value fo, xs.toArray, tys⟩, ty, pos, af, none⟩ :: rest) E w :=
  WL_callX0 he hfo hxs ha hc h (fun _ _ h => h.elim)

/-- a guarded call -/
theorem WL_callG {f : FuncId} {fo : Operand} {first vs cap args : List Value} {xs : List Operand} {tys : Array TypeId} {d : Tmp} {ty : TypeId} {pos : String} {af : Array Edge} {S : Value → World → Prop}
    {j : Nat} {pol : Bool} {rj : Tmp} {gj bj : Bool} {g : Bool} (hj : (ops[j]?).bind (·.dst) = some rj)
    (hl : look E rj = some (gj, .bool bj)) (hnj : Nat.blt rj n = true) (hG : (gj && (bj == pol)) = g)
    (he : Enters P f) (hfo : Opd E g fo (.func (.func f) first.toArray cap.toArray)) (hxs : Opds E g xs vs) (ha : args = first ++ vs ++ cap)
    (hn : Nat.blt d n = true) (hc : g = true → CallsR P f args w S)
    (h : ∀ v w', (g = true → S v w') → (g = false → w' = w) → WL P ρ ops Q n D rest ((d, g, v) :: E) w') :
    WL P ρ ops Q n D (⟨some d, .call ⟨.value fo, xs.toArray, tys⟩, ty, pos, af, some (j, pol)⟩ :: rest) E w := fun a hf hD =>
  wpListIn_step fun K hK => by
    rw [wanted_of rfl hj hl hf hnj, hG]
    cases g
    · simp only [Bool.false_eq_true, if_false]
      have := hf.put (g := false) (v := undef) hn
      exact ⟨fun _ _ => trivial, hK _ _ (h undef w (fun h => by cases h) (fun _ => rfl) _ this hD)⟩
    · simp only [if_true]
      refine wpIn_of rfl ?_
      subst ha
      rw [exec_call he hfo hxs hf rfl]
      exact upon_callX (hc rfl) (fun v w' hv => hK _ _ (h v w' (fun _ => hv) (fun h => by cases h) _ (hf.put hn) hD)) (fun c w' hv => hv.elim)

/-- the newest entry is known by another word -/
theorem Fits.head {E : Env} {d : Tmp} {g : Bool} {u v : Value} {a : Act} (h : Fits n ((d, g, u) :: E) a) (e : g = true → u = v) : Fits n ((d, g, v) :: E) a := by
  refine ⟨h.size, fun t g' x ht => ?_⟩
  have h2 := h.at_ t
  simp only [look] at ht h2
  cases hb : Nat.beq d t with
  | true =>
    rw [hb, cond_true] at ht h2
    cases ht
    rw [h2 g u rfl]
    cases g
    · rfl
    · rw [e rfl]
  | false =>
    rw [hb, cond_false] at ht h2
    exact h2 g' x ht
theorem WL_sub1 {d : Tmp} {g : Bool} {u v : Value} {l : List Oper} (e : g = true → u = v) (h : WL P ρ ops Q n D l ((d, g, v) :: E) w) : WL P ρ ops Q n D l ((d, g, u) :: E) w :=
  fun a hf hd => h a (hf.head e) hd
theorem Run_no {o : Oper} : Run P E false o w undef := fun _ _ _ h => by cases h

/-- an operation that yields v and leaves w' -/
def RunW (P : Program) (E : Env) (o : Oper) (w : World) (v : Value) (w' : World) : Prop :=
  ∀ n a, Fits n E a → (execOp a.eval o).run P w = .ok (.value v) w'
theorem WL_opW {o : Oper} {v : Value} {w' : World} {d : Tmp} (hr : RunW P E o w v w') (hp : plainO o = true) (hg : o.guard = none) (hd : o.dst = some d) (hn : Nat.blt d n = true)
    (h : WL P ρ ops Q n D rest ((d, true, v) :: E) w') : WL P ρ ops Q n D (o :: rest) E w := fun a hf hD =>
  wpListIn_plain hg fun K hK => wpIn_of hp (by
    rw [hr n a hf, Oper.uponIn_value, hd]
    exact hK _ _ (h _ (hf.put hn) hD))
/-- an operation that yields nothing and leaves w' -/
def RunS (P : Program) (E : Env) (o : Oper) (w : World) (w' : World) : Prop :=
  ∀ n a, Fits n E a → (execOp a.eval o).run P w = .ok .skip w'
theorem WL_opS {o : Oper} {w' : World} (hr : RunS P E o w w') (hp : plainO o = true) (hg : o.guard = none) (hd : o.dst = none)
    (h : WL P ρ ops Q n D rest E w') : WL P ρ ops Q n D (o :: rest) E w := fun a hf hD =>
  wpListIn_plain hg fun K hK => wpIn_of hp (by
    rw [hr n a hf, Oper.uponIn_skip, hd]
    exact hK _ _ (h _ hf hD))

theorem WC_region_draw0 {id : Nat} {l : List Oper} (h : ∀ a, Fits n E a → a.defers = D → wpAnyIn (FW ρ) 0 P .any l.toArray Q l.toArray.size (Array.replicate l.toArray.size false) a { w with drawn := w.drawn + 1 }) (hm : P.follows .mixedOrders = true) :
    WC P ρ (.region id l.toArray true) Q n D E w := fun a hf hd => wpIn_region_any hm (h a hf hd)
end
end Go.Proofs.Ytjappdgehmjomaa
