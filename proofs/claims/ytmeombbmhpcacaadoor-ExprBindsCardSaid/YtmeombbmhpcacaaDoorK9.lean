/-
  Own framework, part 9: package-level variables that are laid; arrays; slices against nil.
-/
import Derived.Test.YtmeombbmhpcacaaDoorK8
namespace Go.Proofs.YtmeombbmhpcacaaDoor

/-- a package-level variable that holds these cells -/
def gl (b : Nat) (vs : List Value) : Item where
  own := []
  P M w := ¬ M b ∧ ∃ t fr, w.heap[b]? = some (.cells vs.toArray t fr)
  lt _ b hb := by cases hb
  keep {M M' w w'} h m _ _ := by
    obtain ⟨h1, t, fr, hb⟩ := h
    obtain ⟨h2, h3⟩ := m.2 _ (Array.getElem?_eq_some_iff.1 hb).1 h1
    exact ⟨h2, t, fr, h3.trans hb⟩
  pers := true
  hp _ := rfl

section
variable {Γ : Ctx} {w : World} {α : Type} {A : Rep α} {i : Nat}
theorem Sat.gl0 (h : Sat Γ w) {b : Nat} {vs : List Value} (hi : Γ[i]? = some (gl b vs)) : ¬ Γ.M b ∧ ∃ t fr, w.heap[b]? = some (.cells vs.toArray t fr) := h.at_ hi
theorem Sat.gl (h : Sat Γ w) {b : Nat} {vs : List Value} (hi : Γ[i]? = some (gl b vs)) : ¬ Γ.M b ∧ CellsAt w ⟨b, 0, none⟩ vs := by
  obtain ⟨h1, t, fr, hb⟩ := h.gl0 hi
  exact ⟨h1, rfl, _, t, fr, hb, fun j u hu => by simpa using hu⟩

theorem cells_drop {p : Addr} {vs : List Value} (h : CellsAt w p vs) (k n : Nat) : CellsAt w (p.add k) ((vs.drop k).take n) := by
  by_cases hk : k < vs.length
  · exact h.sub k (by rw [List.take_eq_take_iff]; simp)
  · obtain ⟨hs, cs, t, fr, hb, hc⟩ := h
    have e : (vs.drop k).take n = [] := by rw [List.drop_of_length_le (by omega)]; simp
    rw [e]
    unfold Addr.add
    split
    · exact ⟨hs, cs, t, fr, hb, fun j u hj => by simp at hj⟩
    · exact ⟨rfl, cs, t, fr, hb, fun j u hj => by simp at hj⟩
theorem gl_at {M : Nat → Prop} {p : Addr} {vs : List Value} {xs : List α} {j : Int} {x : α} {cs : List Value} (h : CellsAt w p vs) (hA : ARd A M w vs xs) (hx : idx xs j = some x) (ho : ∀ us, A.rd M w us x → us = cs) : CellsAt w (p.add (j.toNat * A.n)) cs := by
  obtain ⟨h0, hi, rfl⟩ := idx_some hx
  have h1 := hA.2 _ hi
  rw [← ho _ h1]
  exact cells_drop h _ _
theorem gl_sl {M : Nat → Prop} {b : Nat} {vs : List Value} {xs : List α} (hM : ¬ M b) (h : CellsAt w ⟨b, 0, none⟩ vs) (hA : ARd A M w vs xs) : SRd A M w (sl (some ⟨b, 0, none⟩, xs.length, xs.length)) xs := by
  obtain ⟨_, cs, t, fr, hb, hc⟩ := h
  have hl := hA.1
  have hsz : vs.length ≤ cs.size := by
    rcases Nat.eq_zero_or_pos vs.length with h0 | h0
    · omega
    · have := hc (vs.length - 1) _ (List.getElem?_eq_getElem (by omega))
      have := (Array.getElem?_eq_some_iff.1 this).1
      omega
  refine .inr ⟨b, 0, xs.length, cs, t, fr, rfl, hM, hb, Nat.le_refl _, by omega, ?_⟩
  have e : (cs.toList.drop 0).take (xs.length * A.n) = vs := by
    apply List.ext_getElem
    · simp; omega
    · intro j h1 h2
      have := hc j _ (List.getElem?_eq_getElem h2)
      simp only [List.drop_zero, List.getElem_take, Array.getElem_toList]
      rw [Nat.zero_add] at this
      exact (Array.getElem?_eq_some_iff.1 this).2
  rw [e]; exact hA
theorem idx_inB {β : Type} {xs : List β} {j : Int} {x : β} {n : Nat} (hx : idx xs j = some x) (hl : xs.length = n) : inB j n = true := by
  obtain ⟨h0, hi, _⟩ := idx_some hx
  exact inB_iff.2 ⟨h0, by omega⟩
theorem ARd_strs {M : Nat → Prop} : ∀ l : List Str, ARd RS M w (l.map S) l
  | [] => ARd.nil
  | x :: l => ARd.cons (A := RS) (c := [S x]) rfl (ARd_strs l)
theorem ARd_intsl {M : Nat → Prop} {k : IntKind} : ∀ l : List Int, ARd (RI k) M w (l.map (Value.int k)) l
  | [] => ARd.nil
  | x :: l => ARd.cons (A := RI k) (c := [Value.int k x]) rfl (ARd_intsl l)
end

section
variable {P : Program} {ρ : Option Nat} {Q : Post} {n : Nat} {D : List Deferred} {E : Env} {w : World} {ops : Array Oper} {rest : List Oper} {Γ : Ctx} {g : Bool}
variable {dst : Option Tmp} {d : Tmp} {ty : TypeId} {pos : String} {af : Array Edge} {gd : Option (Nat × Bool)}

/-- an element of an array -/
theorem Run_arrIdx {x y : Operand} {p : Addr} {i : Int} {k : IntKind} {m len bytes : Nat} {z : Value} {t e : TypeId} (ht : P.underlying t = some (.array len e)) (hti : TI P e m bytes z) (hx : Opd E g x (.pointer (some p))) (hy : Opd E g y (.int k i))
    (hi : g = true → inB i len = true) : Run P E g ⟨dst, .indexAddr t x y, ty, pos, af, gd⟩ w (.pointer (some (p.add (i.toNat * m)))) :=
  fun n' a hf hg => by
    obtain ⟨i', hii, hs, _, _⟩ := hti.out
    obtain ⟨h0, h1⟩ := inB_iff.1 (hi hg)
    simp [execOp, hx n' a hf hg, hy n' a hf hg, Instr.indexAt, asIntOf, run_underlying ht, Instr.sureAddr, h0, h1, sizeOf, typeInfo, hii, hs]
/-- of a box, at a place that is known -/
theorem Run_arrAt {x y : Operand} {b off : Nat} {j : Nat} {i : Int} {k : IntKind} {m len bytes : Nat} {z : Value} {t e : TypeId} (ht : P.underlying t = some (.array len e)) (hti : TI P e m bytes z) (hx : Opd E g x (.pointer (some ⟨b, off, none⟩))) (hy : Opd E g y (.int k i))
    (hj : i = (j : Int)) (hi : Nat.blt j len = true) : Run P E g ⟨dst, .indexAddr t x y, ty, pos, af, gd⟩ w (.pointer (some ⟨b, off + j * m, none⟩)) :=
  fun n' a hf hg => by
    have hlt : j < len := by simpa using hi
    have hin : inB i len = true := inB_iff.2 ⟨by omega, by omega⟩
    have h := Run_arrIdx (P := P) (dst := dst) (ty := ty) (pos := pos) (af := af) (gd := gd) (w := w) (g := g) (E := E) (x := x) (y := y) (i := i) ht hti hx hy (fun _ => hin) n' a hf hg
    subst hj
    simp only [Int.toNat_natCast] at h
    have e1 : (⟨b, off, none⟩ : Addr).add (j * m) = ⟨b, off + j * m, none⟩ := by
      unfold Addr.add; split <;> simp_all
    rw [e1] at h
    exact h
/-- all of an array, as a slice -/
theorem Run_cutArr {x : Operand} {p : Addr} {len : Nat} {m bytes : Nat} {z : Value} {t e : TypeId} (ht : P.underlying t = some (.array len e)) (hti : TI P e m bytes z) (hpos : Nat.blt 0 len = true) (hx : Opd E g x (.pointer (some p))) :
    Run P E g ⟨dst, .slice t x none none none, ty, pos, af, gd⟩ w (.slice (some p) len len) :=
  fun n' a hf hg => by
    obtain ⟨i', hii, hs, _, _⟩ := hti.out
    have h0 : 0 < len := by simpa using hpos
    simp [execOp, hx n' a hf hg, Instr.sliceAt, run_underlying ht, Instr.sureAddr, Instr.sliceBounds, sizeOf, typeInfo, hii, Addr.add]

/-- nil or not -/
theorem srd_nilcase {α : Type} {A : Rep α} {M : Nat → Prop} {p : SLV} {xs : List α} (h : SRd A M w (sl p) xs) : (p = (none, 0, 0) ∧ xs = []) ∨ nilSl (sl p) = false := by
  rcases h with ⟨⟨a0, h⟩, rfl⟩ | ⟨b, off, cap, cs, e, fr, h, _⟩
  · cases a0 with
    | none =>
      obtain ⟨a, l, c⟩ := p
      simp only [sl, Value.slice.injEq] at h
      exact .inl ⟨by rw [h.1, h.2.1, h.2.2], rfl⟩
    | some a0 => rw [h]; exact .inr rfl
  · rw [h]; exact .inr rfl
theorem own_nilcase {α : Type} {A : Rep α} {e : TypeId} {M : Nat → Prop} {p : SLV} {xs : List α} {R : List Nat} (h : Own A e M w (sl p) xs R) : (nilSl (sl p) = true ∧ xs = []) ∨ nilSl (sl p) = false := by
  cases hn : nilSl (sl p)
  · exact .inr rfl
  · refine .inl ⟨rfl, ?_⟩
    obtain ⟨a, l, c⟩ := p
    rcases h with ⟨_, cells, ⟨_, h⟩, _⟩ | ⟨_, h, _⟩
    · rcases h with ⟨_, h0⟩ | ⟨g, cap, cur, hv, _⟩
      · exact List.eq_nil_of_length_eq_zero h0
      · rw [hv] at hn; cases hn
    · exact h
end

/-! guarded operations that change the world -/
section
variable {P : Program} {ρ : Option Nat} {Q : Post} {n : Nat} {D : List Deferred} {E : Env} {w : World} {ops : Array Oper} {rest : List Oper} {Γ : Ctx} {g : Bool}
variable {d : Tmp} {ty : TypeId} {pos : String} {af : Array Edge}

/-- an operation that yields v and leaves w', where g holds -/
def RunWG (P : Program) (E : Env) (g : Bool) (o : Oper) (w : World) (v : Value) (w' : World) : Prop :=
  ∀ n a, Fits n E a → g = true → (execOp a.eval o).run P w = .ok (.value v) w'
theorem WL_opWG {o : Oper} {d : Tmp} {v : Value} {w' : World} {j : Nat} {pol : Bool} {rj : Tmp} {gj bj : Bool} (hgd : o.guard = some (j, pol)) (hj : (ops[j]?).bind (·.dst) = some rj)
    (hl : look E rj = some (gj, .bool bj)) (hnj : Nat.blt rj n = true) (hG : (gj && (bj == pol)) = g)
    (hr : RunWG P E g o w v w') (hp : plainO o = true) (hd : o.dst = some d) (hn : Nat.blt d n = true)
    (h1 : g = true → WL P ρ ops Q n D rest ((d, g, v) :: E) w') (h0 : g = false → WL P ρ ops Q n D rest ((d, g, v) :: E) w) : WL P ρ ops Q n D (o :: rest) E w := fun a hf hD =>
  wpListIn_step fun K hK => by
    rw [wanted_of hgd hj hl hf hnj, hG]
    cases g
    · simp only [Bool.false_eq_true, if_false]
      have := hf.put (g := false) (v := v) hn
      rw [hd]
      exact ⟨fun _ _ => trivial, hK _ _ (h0 rfl _ this hD)⟩
    · simp only [if_true]
      refine wpIn_of hp ?_
      rw [hr n a hf rfl, Oper.uponIn_value, hd]
      exact hK _ _ (h1 rfl _ (hf.put hn) hD)

/-- facts that hold where g does -/
theorem sat_addG0 {α : Type} {A : Rep α} {vs : List Value} {x : α} (hs : Sat Γ w) (hg : g = false) : Sat (immG g A vs x :: Γ) w := hs.add rfl (fun h => by rw [hg] at h; cases h)
theorem sat_toG {α : Type} {A : Rep α} {vs : List Value} {x : α} (hs : Sat (imm A vs x :: Γ) w) : Sat (immG g A vs x :: Γ) w := by
  have h1 : Sat (immG g A vs x :: imm A vs x :: Γ) w := hs.add rfl (fun _ => hs.imm (i := 0) rfl)
  have h2 := h1.map (Γ' := immG g A vs x :: Γ) (fun j => match j with | 0 => 0 | j + 1 => j + 2) (fun j jt h => by cases j <;> simpa using h) (fun j k jt hjk e _ _ => by
    cases j <;> cases k <;> simp at e <;> first | exact absurd rfl hjk | exact absurd (congrArg Nat.succ e) hjk | omega)
  exact h2

theorem WS_litG {α : Type} {A : Rep α} {t e : TypeId} {len bytes : Nat} {z : Value} {zs cells : List Value} {parts : List (Nat × Operand)} {vs : List Value} {xs : List α}
    {j : Nat} {pol : Bool} {rj : Tmp} {gj bj : Bool} (hj : (ops[j]?).bind (·.dst) = some rj)
    (hl' : look E rj = some (gj, .bool bj)) (hnj : Nat.blt rj n = true) (hG : (gj && (bj == pol)) = g)
    (hs : Sat Γ w) (ht : P.underlying t = some (.slice e)) (hti : TI P e A.n bytes z) (hz : z.cells = zs.toArray) (hpos : Nat.blt 0 (len * A.n) = true) (hbig : Nat.ble (len * A.n) 16777216 = true)
    (hx : Opds E g (parts.map (·.2)) vs) (hc : litCells A.n len zs ((parts.map (·.1)).zip vs) = some cells.toArray) (hl : xs.length = len) (hA : g = true → ARd A Γ.M w cells xs) (hn : Nat.blt d n = true)
    (h : ∀ (p : SLV) w', Sat (immG g (RSl A) [sl p] xs :: Γ) w' → WL P ρ ops Q n D rest ((d, g, sl p) :: E) w') :
    WL P ρ ops Q n D (⟨some d, .buildSlice t len parts.toArray, ty, pos, af, some (j, pol)⟩ :: rest) E w := by
  refine WL_opWG (w' := w.alloc (.cells cells.toArray e)) (v := sl (some ⟨w.heap.size, 0, none⟩, len, len)) rfl hj hl' hnj hG (fun n' a hf hg => ?_) rfl rfl hn (fun hg => ?_) (fun hg => ?_)
  · subst hg
    exact RunW_buildSlice (P := P) (dst := some d) (ty := ty) (pos := pos) (af := af) ht hti hz hpos hbig hx hc n' a hf
  · have h1 := hs.ext (ext_alloc w (.cells cells.toArray e))
    have hf : SRd A Γ.M (w.alloc (.cells cells.toArray e)) (sl (some ⟨w.heap.size, 0, none⟩, len, len)) xs :=
      SRd.fresh (heap_alloc_new w _) (fun hm => by have := hs.lt hm; omega) hl ((hA hg).mv ((ext_alloc w _).mv _))
    exact h _ _ (h1.addSG (fun _ => hf))
  · exact h _ _ (sat_addG0 hs hg)
theorem WS_s2bG {x : Operand} {l : Str} {src dt e : TypeId} {j : Nat} {pol : Bool} {rj : Tmp} {gj bj : Bool} (hj : (ops[j]?).bind (·.dst) = some rj)
    (hl' : look E rj = some (gj, .bool bj)) (hnj : Nat.blt rj n = true) (hG : (gj && (bj == pol)) = g)
    (hs : Sat Γ w) (h1 : P.underlying src = some .string) (h2 : P.underlying dt = some (.slice e)) (he : P.underlying e = some (.int .u8)) (hx : Opd E g x (S l)) (hn : Nat.blt d n = true)
    (h : ∀ (p : SLV) w', Sat (immG g (RSl (RI .u8)) [sl p] (bytesOf l) :: Γ) w' → WL P ρ ops Q n D rest ((d, g, sl p) :: E) w') :
    WL P ρ ops Q n D (⟨some d, .convert src dt x, ty, pos, af, some (j, pol)⟩ :: rest) E w := by
  cases hg : g
  · refine WL_opWG (v := sl (none, 0, 0)) (w' := w) rfl hj hl' hnj hG (fun n' a hf hg' => by rw [hg] at hg'; cases hg') rfl rfl hn (fun hg' => by rw [hg] at hg'; cases hg') (fun _ => h _ _ (sat_addG0 hs hg))
  · subst hg
    obtain ⟨v', w', hr, hE, hlt, hO⟩ := RunW_s2b (P := P) (E := E) (w := w) (dst := some d) (ty := ty) (pos := pos) (af := af) h1 h2 he hx
    have hf := hO Γ.M (fun hm => by have := hs.lt hm; omega)
    obtain ⟨p, rfl⟩ := hf.isSl
    exact WL_opWG (v := sl p) (w' := w') rfl hj hl' hnj hG (fun n' a hf _ => hr n' a hf) rfl rfl hn (fun _ => h _ _ ((hs.ext hE).addSG (fun _ => hf))) (fun h => by cases h)
theorem sat_gate {α : Type} {A : Rep α} {vs : List Value} {x : α} {i : Nat} (hs : Sat Γ w) (hi : Γ[i]? = some (imm A vs x)) (g : Bool) : Sat (Γ.set i (immG g A vs x)) w :=
  hs.upd hi ((Ext.refl w).chg _) (fun b hb => by cases hb) (fun M' m _ => fun _ => A.mv (hs.imm hi) m)
end
end Go.Proofs.YtmeombbmhpcacaaDoor
