/-
  Own framework, part 5: what the printed walks call besides.
-/
import Derived.Test.YtiambejbilkgmaaLift4
namespace Go.Proofs.Ytiambejbilkgmaa

section
variable {P : Program} {Q : Post} {n : Nat} {D : List Deferred} {E : Env} {w : World} {ops : Array Oper} {rest : List Oper}

/-- the state is taken for one of a fixpoint's -/
theorem At_gen {σ γ ρ : Type} {F : (σ → Option ρ) → σ → Option ρ} {r : ρ} {N : Nat} {s0 : σ} {e : Exit} (J : σ → γ → World → Prop) (Es : σ → γ → Env)
    (hm : fixN F N s0 = some r) (g0 : γ) (h0 : J s0 g0 w) (hE : subB (Es s0 g0) E)
    (h : ∀ m again, again = fixN F m → ∀ s g w, F again s = some r → J s g w → At Q e n D (Es s g) w) : At Q e n D E w := by
  obtain ⟨m, rfl, hm⟩ := fixN_some hm
  exact (h m _ rfl s0 g0 w hm h0).sub _ hE

theorem Run_no {o : Oper} : Run P E false o w undef := fun _ _ _ h => by cases h

/-- the newest entry is known by another word -/
theorem Fits.head {E : Env} {d : Tmp} {g : Bool} {u v : Value} {a : Act} (h : Fits n ((d, g, u) :: E) a) (e : g = true → u = v) : Fits n ((d, g, v) :: E) a := by
  refine ⟨h.size, fun t g' x ht => ?_⟩
  have h2 := h.at_ t
  simp only [look] at ht h2
  cases hb : Nat.beq d t with
  | true =>
    rw [hb, cond_true] at ht h2
    cases ht
    rw [h2 g u rfl]
    cases g
    · rfl
    · rw [e rfl]
  | false =>
    rw [hb, cond_false] at ht h2
    exact h2 g' x ht
theorem WL_sub1 {d : Tmp} {g : Bool} {u v : Value} {l : List Oper} (e : g = true → u = v) (h : WL P ops Q n D l ((d, g, v) :: E) w) : WL P ops Q n D l ((d, g, u) :: E) w :=
  fun a hf hd => h a (hf.head e) hd

theorem Ext.ofG {w w' : World} {g : Bool} (h : g = true → Ext w w') (h0 : g = false → w' = w) : Ext w w' := by
  cases g
  · rw [h0 rfl]; exact Ext.refl w
  · exact h rfl

theorem run_maxI (ts : Array TypeId) (t : TypeId) (k : IntKind) (x y : Int) (w : World) : (Builtin.max_ ts t #[.int k x, .int k y]).run P w = .ok (.int k (max x y)) w := by
  rw [run_max_int2]; congr 2; split <;> omega
theorem run_minI (ts : Array TypeId) (t : TypeId) (k : IntKind) (x y : Int) (w : World) : (Builtin.min_ ts t #[.int k x, .int k y]).run P w = .ok (.int k (min x y)) w := by
  rw [run_min_int2]; congr 2; split <;> omega

theorem Run_lenSlG {g : Bool} {dst : Option Tmp} {ty : TypeId} {pos : String} {af : Array Edge} {gd : Option (Nat × Bool)} {x : Operand} {v : Value} {m : Nat} {t e : TypeId} (ht : P.underlying t = some (.slice e)) (hx : Opd E g x v) (hl : g = true → Len v m) :
    Run P E g ⟨dst, .call ⟨.builtin .len, #[x], #[t]⟩, ty, pos, af, gd⟩ w (.int .i64 m) := fun n' a hf hg => Run_lenSl ht hx (hl hg) n' a hf hg

theorem FieldOf.mk' {t : TypeId} {k off f n : Nat} {fs : Array Field} {fd : Field} (ht : P.underlying t = some (.struct fs)) (hk : fs[k]? = some fd) (ho : fd.offset = off) (hf : fd.type = f)
    (hi : (P.info? f).map (·.size) = some n) (hn : n ≠ 0) : FieldOf P t k off := by
  subst hf
  cases h : P.info? fd.type with
  | none => simp [h] at hi
  | some i => exact ⟨fs, fd, i, ht, hk, ho, h, by simp [h] at hi; omega⟩

/-! structs against one another -/
theorem run_equalIn_S (P : Program) (w : World) (d : Nat) (t : TypeId) (a b : Str) (h : P.underlying t = some .string) : (Op.equalIn (d + 1) t (S a) (S b)).run P w = .ok (a == b) w := by
  unfold S; rw [run_equalIn_string w d t _ _ h, toList_S, toList_S]
theorem part1 {t : TypeId} {d : TypeDesc} {cs : List Value} {off : Nat} {v : Value} (ht : P.underlying t = some d) (hd : aggT d = false) (hv : cs[off]? = some v) : (part t cs.toArray off).run P w = .ok v w := by
  unfold part
  rw [Sem.run_bind, run_isAgg ht]
  simp [hd, hv]
theorem eqF_cons {d : Nat} {xs ys : Array Value} {f : Field} {fs : List Field} {a b : Value} {r s : Bool} (hn : (f.name != "_") = true) (h1 : (part f.type xs f.offset).run P w = .ok a w) (h2 : (part f.type ys f.offset).run P w = .ok b w)
    (h3 : (Op.equalIn d f.type a b).run P w = .ok r w) (h4 : (Op.eqFields d xs ys fs).run P w = .ok s w) : (Op.eqFields d xs ys (f :: fs)).run P w = .ok (r && s) w := by
  have hn' : f.name ≠ "_" := by simpa using hn
  simp only [Op.eqFields, if_pos hn', Sem.run_bind, h1, h2, h3, Result.andThen_ok]
  cases r
  · rfl
  · simpa using h4
theorem eqF_nil {d : Nat} {xs ys : Array Value} : (Op.eqFields d xs ys []).run P w = .ok true w := rfl

/-! ranges over strings -/
def IterAt (w : World) (b : Nat) (l : Str) (pos : Nat) : Prop := w.heap[b]? = some (.stringIter ⟨l.toArray⟩ pos)
theorem IterAt.lt {w : World} {b : Nat} {l : Str} {pos : Nat} (h : IterAt w b l pos) : b < w.heap.size := (Array.getElem?_eq_some_iff.1 h).1
theorem IterAt.ext {w w' : World} {b : Nat} {l : Str} {pos : Nat} (h : IterAt w b l pos) (x : Ext w w') : IterAt w' b l pos := (x.block b h.lt).trans h
theorem IterAt.keep {w w' : World} {b : Nat} {l : Str} {pos : Nat} (h : IterAt w b l pos) (k : w'.heap[b]? = w.heap[b]?) : IterAt w' b l pos := k.trans h
def runeAt (l : Str) (pos : Nat) : Int := ((Utf8.decode ⟨l.toArray⟩ pos).1 : Nat)
def runePos (l : Str) (pos : Nat) : Nat := pos + (Utf8.decode ⟨l.toArray⟩ pos).2

theorem WL_rangeS {d : Tmp} {ty : TypeId} {pos : String} {af : Array Edge} {t : TypeId} {x : Operand} {l : Str} {b : Nat} (ht : P.underlying t = some .string) (hx : Opd E true x (S l)) (hw : w.heap.size = b) (hn : Nat.blt d n = true)
    (h : ∀ w', Ext w w' → IterAt w' b l 0 → WL P ops Q n D rest ((d, true, .pointer (some ⟨b, 0, none⟩)) :: E) w') :
    WL P ops Q n D (⟨some d, .range t x, ty, pos, af, none⟩ :: rest) E w := by
  subst hw
  exact WL_opW (w' := w.alloc (.stringIter ⟨l.toArray⟩ 0)) (fun n' a hf => by
    simp [execOp, hx n' a hf rfl, Instr.range, run_underlying ht, S]) rfl rfl hn (h _ (ext_alloc _ _) (heap_alloc_new w _))

theorem WL_nextS {d : Tmp} {ty : TypeId} {pos : String} {af : Array Edge} {x : Operand} {l : Str} {b q : Nat} (hx : Opd E true x (.pointer (some ⟨b, 0, none⟩))) (hI : IterAt w b l q) (hn : Nat.blt d n = true)
    (h1 : decide (q < l.length) = true → ∀ w', Chg [b] w w' → IterAt w' b l (runePos l q) → WL P ops Q n D rest ((d, true, .tuple #[.bool true, .int .i64 (q : Int), .int .i32 (runeAt l q)]) :: E) w')
    (h2 : decide (q < l.length) = false → WL P ops Q n D rest ((d, true, .tuple #[.bool false]) :: E) w) :
    WL P ops Q n D (⟨some d, .next x true, ty, pos, af, none⟩ :: rest) E w := by
  cases hq : decide (q < l.length)
  · have hq' : ¬ q < l.length := by simpa using hq
    refine WL_opW (fun n' a hf => ?_) rfl rfl hn (h2 hq)
    have hg : (getObj b).run P w = .ok (.stringIter ⟨l.toArray⟩ q) w := by
      simp only [getObj, Sem.run]; rw [hI]
    have hs : ¬ q < (⟨l.toArray⟩ : ByteArray).size := by rw [size_S]; exact hq'
    simp only [execOp, hx n' a hf rfl, Instr.next, Sem.run_bind, hg, Result.andThen_ok, if_neg hs, Sem.run_pure]
  · have hq' : q < l.length := by simpa using hq
    have hlt := hI.lt
    let w' : World := { w with heap := w.heap.setIfInBounds b (.stringIter ⟨l.toArray⟩ (runePos l q)) }
    have hIt : IterAt w' b l (runePos l q) := by
      show (w.heap.setIfInBounds b _)[b]? = _
      rw [Array.getElem?_setIfInBounds_self_of_lt hlt]
    refine WL_opW (w' := w') (fun n' a hf => ?_) rfl rfl hn (h1 hq w' ⟨rfl, rfl, rfl, by show w.heap.size ≤ (w.heap.setIfInBounds b _).size; simp, fun c _ hcb => ?_⟩ hIt)
    · have hg : (getObj b).run P w = .ok (.stringIter ⟨l.toArray⟩ q) w := by
        simp only [getObj, Sem.run]; rw [hI]
      have hst : (setObj b (.stringIter ⟨l.toArray⟩ (runePos l q))).run P w = .ok () w' := by
        simp only [setObj, Sem.run]; rw [hI]
      have hs : q < (⟨l.toArray⟩ : ByteArray).size := by rw [size_S]; exact hq'
      have e1 : runePos l q = q + (Utf8.decode ⟨l.toArray⟩ q).2 := rfl
      rw [e1] at hst
      simp only [execOp, hx n' a hf rfl, Instr.next, Sem.run_bind, hg, Result.andThen_ok, if_pos hs, Sem.run_pure, hst, goInt]
      rfl
    · show (w.heap.setIfInBounds b _)[c]? = _
      have hne : c ≠ b := by simpa using hcb
      rw [Array.getElem?_setIfInBounds_ne (Ne.symm hne)]
end
end Go.Proofs.Ytiambejbilkgmaa
