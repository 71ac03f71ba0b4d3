/-
  Own framework, part 11: own slices cut short; bytes of a constant; calls through an interface; appends behind a clip.
-/
import Derived.Test.YtjappdgehmjomaaK10
namespace Go.Proofs.Ytjappdgehmjomaa

theorem TI.zero {P : Program} {e : TypeId} {size bytes : Nat} {z : Value} (h : TI P e size bytes z) (w : World) : (zeroValue e).run P w = .ok z w := by
  obtain ⟨i, hi, _, _, hz⟩ := h.out
  simp [zeroValue, typeInfo, hi, hz]

section
variable {α : Type} {A : Rep α} {e : TypeId} {M : Nat → Prop} {w : World} {v : Value} {xs : List α} {R : List Nat}
theorem Own.cutHi {j : Int} (h : Own A e M w v xs R) (hc : cutB 0 j xs.length = true) : ∃ p : SLV, CutV v 0 j A.n (sl p) ∧ Own A e M w (sl p) (cutL xs 0 j) R := by
  obtain ⟨⟨_, h0⟩, hj⟩ := cutB_iff.1 hc
  have hcl : cutL xs 0 j = xs.take j.toNat := by simp [cutL]
  rw [hcl]
  rcases h with ⟨rfl, cells, ⟨h1, h2⟩, hr⟩ | ⟨rfl, rfl, ⟨a, rfl⟩, hS⟩
  · rcases h2 with ⟨rfl, hn⟩ | ⟨g, cap, cur, rfl, hg, hh, hcap, hm, hs, ht⟩
    · have hx : xs = [] := List.eq_nil_of_length_eq_zero hn
      subst hx
      have hj0 : j = 0 := by simp at hj; omega
      subst hj0
      exact ⟨(none, 0, 0), ⟨none, 0, 0, rfl, by omega, by omega, by omega, by omega, rfl⟩, .inl ⟨rfl, OSl.nil⟩⟩
    · refine ⟨(some ⟨g, 0, none⟩, j.toNat, cap), ⟨_, _, cap, rfl, by omega, h0, hj, hcap, ?_⟩, .inl ⟨rfl, cells.take (j.toNat * A.n), ⟨?_, .inr ⟨g, cap, cur, by rw [List.length_take, Nat.min_eq_left (by omega)]; rfl, hg, hh, ?_, hm, hs, ?_⟩⟩, hr.take _⟩⟩
      · show Value.slice (some ⟨g, 0, none⟩) j.toNat cap = _
        have : (⟨g, 0, none⟩ : Addr).add (Int.toNat 0 * A.n) = ⟨g, 0, none⟩ := by simp [Addr.add]
        simp [Addr.add]
      · rw [List.length_take, List.length_take, h1]
        have : j.toNat ≤ xs.length := by omega
        rw [Nat.min_eq_left (Nat.mul_le_mul_right _ this), Nat.min_eq_left this]
      · rw [List.length_take]; omega
      · have : j.toNat ≤ xs.length := by omega
        rw [List.length_take, Nat.min_eq_left this, ← ht, List.take_take, Nat.min_eq_left (Nat.mul_le_mul_right _ this)]
  · have hj0 : j = 0 := by simp at hj; omega
    subst hj0
    refine ⟨(a, 0, 0), ⟨a, 0, 0, rfl, by omega, by omega, by omega, by omega, ?_⟩, .inr ⟨rfl, by simp, ⟨a, rfl⟩, hS⟩⟩
    show Value.slice a 0 0 = _
    simp
theorem Sat.cutOwn {Γ : Ctx} {i : Nat} {j : Int} (hs : Sat Γ w) (hi : Γ[i]? = some (osl A e v xs R)) (hc : cutB 0 j xs.length = true) : ∃ p : SLV, CutV v 0 j A.n (Go.Proofs.Ytjappdgehmjomaa.sl p) ∧ Sat (Γ.set i (osl A e (Go.Proofs.Ytjappdgehmjomaa.sl p) (cutL xs 0 j) R)) w := by
  obtain ⟨p, h1, h2⟩ := (hs.own hi).cutHi hc
  refine ⟨p, h1, hs.upd hi ((Ext.refl w).chg _) (fun b hb => ⟨h2.lt b hb, .inl hb⟩) (fun M' m _ => ?_)⟩
  exact h2.keep (fun _ _ => rfl) m
end

/-! bytes of a constant: the row gets the run-time's mark -/
section
variable {P : Program} {ρ : Option Nat} {Q : Post} {n : Nat} {D : List Deferred} {E : Env} {w : World} {ops : Array Oper} {rest : List Oper} {Γ : Ctx} {i : Nat}
variable {d : Tmp} {ty : TypeId} {pos : String} {af : Array Edge}
theorem WS_convB {x : Operand} {t e : TypeId} {b l c : Nat} {xs : List Int} (hs : Sat Γ w) (i : Nat) (hi : Γ[i]? = some (osl (RI .u8) e (.slice (some ⟨b, 0, none⟩) l c) xs [b])) (ht : P.underlying t = some (.slice e)) (he : P.underlying e = some (.int .u8))
    (hx : Opd E true x (.slice (some ⟨b, 0, none⟩) l c)) (hn : Nat.blt d n = true)
    (h : ∀ w', Sat (Γ.set i (imm (RSl (RI .u8)) [.slice (some ⟨b, 0, none⟩) l c] xs)) w' → WL P ρ ops Q n D rest ((d, true, .slice (some ⟨b, 0, none⟩) l c) :: E) w') :
    WL P ρ ops Q n D (⟨some d, .convert t t x, ty, pos, af, none⟩ :: rest) E w := by
  have hO := hs.own hi
  rcases hO with ⟨hR, cells, ⟨h1, h2⟩, hr⟩ | ⟨hR, _⟩
  · rcases h2 with ⟨h3, _⟩ | ⟨g, cap, cur, h3, hg, hh, hcap, hm, hsz, htk⟩
    · cases h3
    · cases h3
      have hlt := (Array.getElem?_eq_some_iff.1 hh).1
      have hsh : w.shape? b = some (e, cur.size) := by unfold World.shape?; rw [hh]
      have hw : ∀ k, (w.freeze ⟨b, k, none⟩ 1).heap[b]? = some (.cells cur e (k, k + 1)) := fun k => by
        unfold World.freeze
        rw [if_neg (by decide)]
        simp [Array.getElem?_modify, hh]
      have hC : Chg [b] w (w.freeze ⟨b, cur.size, none⟩ 1) := by
        unfold World.freeze
        rw [if_neg (by decide)]
        refine ⟨rfl, rfl, rfl, by simp, fun c _ hcb => ?_⟩
        have : b ≠ c := fun e => hcb (by simp [e])
        simp [Array.getElem?_modify, this]
      have hsame : (w.freeze ⟨b, cur.size, none⟩ 1).heap.size = w.heap.size := by
        unfold World.freeze
        rw [if_neg (by decide)]
        simp
      refine WL_opW (v := .slice (some ⟨b, 0, none⟩) xs.length c) (w' := w.freeze ⟨b, cur.size, none⟩ 1) ?_ rfl rfl rfl hn (h _ (hs.upd hi hC (fun c hc => by cases hc) (fun M' m hb => ?_)))
      · intro n a hf
        simp only [execOp, hx n a hf rfl]
        simp [convert, run_underlying ht, run_underlying he, markStringish, hsh]
      · have hb' : ¬ M' b := hb b (by simp [osl]) (by simp [imm])
        refine SRd.rsl (.inr ⟨b, 0, c, cur, e, _, rfl, hb', hw _, hcap, by rw [Nat.zero_add]; exact Nat.le_of_eq hsz.symm, ?_⟩)
        rw [List.drop_zero, htk]
        exact hr.mv m
  · cases hR

/-! calls through an interface -/
/-- the method's row -/
def Meth (P : Program) (t : TypeId) (name : String) (f : FuncId) (b : Bool) : Prop := ((P.info? t).bind fun i => (i.methods.find? (·.name == name)).map fun m => (m.path.toList, m.func)) = some ([], some (f, b))
def Reach (P : Program) (w : World) (t : TypeId) (u : Value) (name : String) (f : FuncId) (v : Value) : Prop := ∀ k, (method (k + 1) t u name).run P w = .ok (f, v) w
theorem Meth.out {t : TypeId} {name : String} {f : FuncId} {b : Bool} (h : Meth P t name f b) : ∃ i m, P.info? t = some i ∧ i.methods.find? (·.name == name) = some m ∧ m.path.toList = [] ∧ m.func = some (f, b) := by
  unfold Meth at h
  cases hi : P.info? t with
  | none => rw [hi] at h; cases h
  | some i =>
    rw [hi] at h
    simp only [Option.bind_some] at h
    cases hm : i.methods.find? (·.name == name) with
    | none => rw [hm] at h; cases h
    | some m =>
      rw [hm] at h
      simp only [Option.map_some, Option.some.injEq, Prod.mk.injEq] at h
      exact ⟨i, m, rfl, hm, h.1, h.2⟩
theorem Reach.ptr {t e : TypeId} {u : Value} {name : String} {f : FuncId} (h : Meth P t name f true) (ht : P.underlying t = some (.pointer e)) : Reach P w t u name f u := fun k => by
  obtain ⟨i, m, hi, hm, hp, hf⟩ := h.out
  unfold method
  simp [typeInfo, hi, hm, hp, hf, follow, receiverAt, run_underlying ht, Place.get]
theorem Reach.load {t e : TypeId} {a : Addr} {u : Value} {name : String} {f : FuncId} (h : Meth P t name f false) (ht : P.underlying t = some (.pointer e)) (hl : (loadVar e a).run P w = .ok u w) : Reach P w t (.pointer (some a)) name f u := fun k => by
  obtain ⟨i, m, hi, hm, hp, hf⟩ := h.out
  have hpe : m.path = #[] := by simpa using hp
  have e : ∀ s : String, Builtin.ssaWrapNilChk_ #[t] t #[.pointer (some a), strVal "", strVal s] = pure (.pointer (some a)) := fun _ => rfl
  unfold method
  simp [typeInfo, hi, hm, hf, hpe, follow, receiverAt, run_underlying ht, Place.get, e, asAddr, hl]
theorem exec_inv {g : Bool} {f : FuncId} {r : Operand} {t : TypeId} {u u' : Value} {name : String} {vs : List Value} {xs : List Operand} {tys : Array TypeId} {dst : Option Tmp} {gd : Option (Nat × Bool)}
    (he : Enters P f) (hr : Opd E g r (.iface t u)) (hm : g = true → Reach P w t u name f u') (hxs : Opds E g xs vs) {a : Act} (hf : Fits n E a) (hg : g = true) :
    (execOp a.eval ⟨dst, .call ⟨.invoke r name, xs.toArray, tys⟩, ty, pos, af, gd⟩).run P w = .ok (.enter f (u' :: vs).toArray) w := by
  have e1 : (Array.map a.eval xs.toArray) = vs.toArray := by simp [hxs.map hf hg]
  have h1 := he (u' :: vs).toArray w
  have h2 := hm hg (P.types.size + 99)
  have e2 : P.types.size + 99 + 1 = P.types.size + Made.depth := rfl
  rw [e2] at h2
  have e3 : (#[Value.iface t u] ++ vs.toArray)[0]? = some (Value.iface t u) := by simp
  have e4 : (#[Value.iface t u] ++ vs.toArray).extract 1 (#[Value.iface t u] ++ vs.toArray).size = vs.toArray := by simp
  have e5 : (#[u'] ++ vs.toArray) = (u' :: vs).toArray := by simp
  simp only [execOp, resolve, hr n a hf hg, e1, Sem.run_bind, Sem.run_pure, Result.andThen_ok, invoke, e3, e4, callMethod, run_program, h2, e5, h1]
theorem WL_inv {f : FuncId} {r : Operand} {t : TypeId} {u u' : Value} {name : String} {vs args : List Value} {xs : List Operand} {tys : Array TypeId} {S : Value → World → Prop}
    (he : Enters P f) (hr : Opd E true r (.iface t u)) (hm : Reach P w t u name f u') (hxs : Opds E true xs vs) (ha : args = u' :: vs) (hn : Nat.blt d n = true) (hc : CallsR P f args w S)
    (h : ∀ v w', S v w' → WL P ρ ops Q n D rest ((d, true, v) :: E) w') : WL P ρ ops Q n D (⟨some d, .call ⟨.invoke r name, xs.toArray, tys⟩, ty, pos, af, none⟩ :: rest) E w := fun a hf hD =>
  wpListIn_plain rfl fun K hK => wpIn_of rfl (by
    subst ha
    rw [exec_inv he hr (fun _ => hm) hxs hf rfl]
    exact upon_callX hc (fun v w' hv => hK _ _ (h v w' hv _ (hf.put hn) hD)) (fun c w' hv => hv.elim))
theorem WL_inv0 {f : FuncId} {r : Operand} {t : TypeId} {u u' : Value} {name : String} {vs args : List Value} {xs : List Operand} {tys : Array TypeId} {S : Value → World → Prop}
    (he : Enters P f) (hr : Opd E true r (.iface t u)) (hm : Reach P w t u name f u') (hxs : Opds E true xs vs) (ha : args = u' :: vs) (hc : CallsR P f args w S)
    (h : ∀ v w', S v w' → WL P ρ ops Q n D rest E w') : WL P ρ ops Q n D (⟨none, .call ⟨.invoke r name, xs.toArray, tys⟩, ty, pos, af, none⟩ :: rest) E w := fun a hf hD =>
  wpListIn_plain rfl fun K hK => wpIn_of rfl (by
    subst ha
    rw [exec_inv he hr (fun _ => hm) hxs hf rfl]
    exact upon_callX hc (fun v w' hv => hK _ _ (h v w' hv _ hf hD)) (fun c w' hv => hv.elim))
theorem WL_invG {f : FuncId} {r : Operand} {t : TypeId} {u u' : Value} {name : String} {vs args : List Value} {xs : List Operand} {tys : Array TypeId} {S : Value → World → Prop}
    {j : Nat} {pol : Bool} {rj : Tmp} {gj bj : Bool} {g : Bool} (hj : (ops[j]?).bind (·.dst) = some rj)
    (hl : look E rj = some (gj, .bool bj)) (hnj : Nat.blt rj n = true) (hG : (gj && (bj == pol)) = g)
    (he : Enters P f) (hr : Opd E g r (.iface t u)) (hm : g = true → Reach P w t u name f u') (hxs : Opds E g xs vs) (ha : args = u' :: vs)
    (hn : Nat.blt d n = true) (hc : g = true → CallsR P f args w S)
    (h : ∀ v w', (g = true → S v w') → (g = false → w' = w) → WL P ρ ops Q n D rest ((d, g, v) :: E) w') :
    WL P ρ ops Q n D (⟨some d, .call ⟨.invoke r name, xs.toArray, tys⟩, ty, pos, af, some (j, pol)⟩ :: rest) E w := fun a hf hD =>
  wpListIn_step fun K hK => by
    rw [wanted_of rfl hj hl hf hnj, hG]
    cases g
    · simp only [Bool.false_eq_true, if_false]
      have := hf.put (g := false) (v := undef) hn
      exact ⟨fun _ _ => trivial, hK _ _ (h undef w (fun h => by cases h) (fun _ => rfl) _ this hD)⟩
    · simp only [if_true]
      refine wpIn_of rfl ?_
      subst ha
      rw [exec_inv he hr hm hxs hf rfl]
      exact upon_callX (hc rfl) (fun v w' hv => hK _ _ (h v w' (fun _ => hv) (fun h => by cases h) _ (hf.put hn) hD)) (fun c w' hv => hv.elim)
end
/-! an append to a slice without room: a row of its own -/
section
variable {P : Program} {w : World}
theorem run_append_clip {α : Type} {A : Rep α} {M : Nat → Prop} (t ty' e : TypeId) (i : TypeInfo) (z : Value) (ht : P.underlying t = some (.slice e)) (hi : P.info? e = some i) (hz : i.zero = some z) (hs : i.size = A.n)
    (hzs : z.cells.size = A.n) {p : Option Addr} {u : Value} {xs ys : List α} (hx : SRd A M w (.slice p xs.length xs.length) xs) (hy : SRd A M w u ys) (hne : ys ≠ []) (hroom : roomB (xs.length + ys.length) i.bytes = true) :
    ∃ v' w', (Builtin.append_ #[t, t] ty' #[.slice p xs.length xs.length, u]).run P w = .ok v' w' ∧ Ext w w' ∧ (∀ b ∈ blk v', b < w'.heap.size ∧ w.heap.size ≤ b) ∧ (∀ M', Mv M w M' w' → OSl A e M' w' v' (xs ++ ys)) := by
  by_cases hx0 : xs = []
  · subst hx0
    rcases run_append_empty t ty' e i z ht hi hz hs hzs hx hy (by simpa using hroom) with ⟨_, h⟩ | h
    · exact absurd h hne
    · simpa using h
  simp only [roomB, Bool.and_eq_true] at hroom
  have hb1 := Nat.le_of_ble_eq_true hroom.1
  have hb2 := Nat.le_of_ble_eq_true hroom.2
  have hlx : 0 < xs.length := List.length_pos_iff.2 hx0
  have hly : 0 < ys.length := List.length_pos_iff.2 hne
  rcases hx with ⟨⟨a0, h1⟩, h2⟩ | ⟨b, off, cap, cs, e', fr, h1, hMb, hb, hc, hof, hr⟩
  · exact absurd h2 hx0
  rcases hy with ⟨_, h2⟩ | ⟨b2, off2, cap2, cs2, e2, fr2, rfl, hMb2, hbb2, hc2, hof2, hr2⟩
  · exact absurd h2 hne
  simp only [Value.slice.injEq] at h1
  obtain ⟨rfl, _, hcap⟩ := h1
  subst hcap
  have cellsAt : ∀ {b off cap : Nat} {cs : Array Value} {e' : TypeId} {fr : Nat × Nat} {l : List α}, w.heap[b]? = some (.cells cs e' fr) → ∀ j x, ((cs.toList.drop off).take (l.length * A.n))[j]? = some x → w.cell? ((⟨b, off, none⟩ : Addr).add j) = some x := by
    intro b off cap cs e' fr l hb j x hj
    have key : CellsAt w ⟨b, off, none⟩ ((cs.toList.drop off).take (l.length * A.n)) := ⟨rfl, cs, e', fr, hb, fun j u hj => by
      rw [List.getElem?_take] at hj
      split at hj
      · simpa [List.getElem?_drop] using hj
      · cases hj⟩
    exact key.cell hj
  generalize hcx : (cs.toList.drop off).take (xs.length * A.n) = cx at hr
  generalize hcy : (cs2.toList.drop off2).take (ys.length * A.n) = cy at hr2
  have hxc : ∀ j x, cx[j]? = some x → w.cell? ((⟨b, off, none⟩ : Addr).add j) = some x := by rw [← hcx]; exact cellsAt (cap := 0) hb
  have hyc : ∀ j x, cy[j]? = some x → w.cell? ((⟨b2, off2, none⟩ : Addr).add j) = some x := by rw [← hcy]; exact cellsAt (cap := 0) hbb2
  have hge := grownCap_ge w (xs.length + ys.length) xs.length e
  have hcm : grownCap w (xs.length + ys.length) xs.length e ≤ maxLen := grownCap_le_maxLen w _ _ e (by simpa [maxLen] using hb2)
  have hrun := run_append_grow (P := P) w t ty' e i z ht hi hz ⟨b, off, none⟩ xs.length xs.length cx (by rw [hs]; exact hr.1) hxc ⟨b2, off2, none⟩ ys.length cap2 cy (by rw [hs]; exact hr2.1) hyc (by omega) (by omega) (growslice_fits (by omega) hb1)
  refine ⟨_, _, hrun, ⟨rfl, rfl, rfl, by simp, fun b hb => heap_alloc_old w.drew _ hb⟩, fun b hb => ?_, fun M' m => ⟨cx ++ cy, ?_, (hr.append hr2).mv m⟩⟩
  · have : b = w.heap.size := by simpa [blk, Value.ownBlock] using hb
    subst this
    exact ⟨by simp, Nat.le_refl _⟩
  · refine ⟨by rw [List.length_append, hr.1, hr2.1, List.length_append, Nat.add_mul], .inr ⟨w.heap.size, _, _, by rw [List.length_append], Nat.zero_le _, heap_alloc_new w.drew _, by rw [List.length_append]; exact hge, hcm, ?_, ?_⟩⟩
    · simp only [Array.size_append, List.size_toArray, size_zeroCells, hzs, hr.1, hr2.1, ← Nat.add_mul]
      congr 1
      omega
    · have hl : (cx ++ cy).length = (xs ++ ys).length * A.n := by rw [List.length_append, hr.1, hr2.1, List.length_append, Nat.add_mul]
      rw [← hl]
      simp only [Array.toList_append]
      exact List.take_left
end
section
variable {P : Program} {ρ : Option Nat} {Q : Post} {n : Nat} {D : List Deferred} {E : Env} {w : World} {ops : Array Oper} {rest : List Oper} {Γ : Ctx}
variable {d : Tmp} {ty : TypeId} {pos : String} {af : Array Edge}
theorem WS_appendC {α : Type} {A : Rep α} {u : Value} {x y : Operand} {t e : TypeId} {bytes : Nat} {z : Value} {p : Option Addr} {xs ys : List α} (hs : Sat Γ w)
    (ht : P.underlying t = some (.slice e)) (hti : TI P e A.n bytes z) (hzs : z.cells.size = A.n) (hx : Opd E true x (sl (p, xs.length, xs.length))) (hy : Opd E true y u) (hxr : SRd A Γ.M w (sl (p, xs.length, xs.length)) xs) (hyr : SRd A Γ.M w u ys)
    (hne : ys ≠ []) (hroom : roomB (xs.length + ys.length) bytes = true) (hn : Nat.blt d n = true)
    (h : ∀ (p : SLV) R' w', Sat (osl A e (sl p) (xs ++ ys) R' :: Γ) w' → WL P ρ ops Q n D rest ((d, true, sl p) :: E) w') :
    WL P ρ ops Q n D (⟨some d, .call ⟨.builtin .append, #[x, y], #[t, t]⟩, ty, pos, af, none⟩ :: rest) E w := by
  obtain ⟨i', hi', hs', hby, hz⟩ := hti.out
  subst hby
  obtain ⟨v', w', hr, hE, hB, hO⟩ := run_append_clip t ty e i' z ht hi' hz hs' hzs hxr hyr hne hroom
  have hS := hs.push (new := osl A e v' (xs ++ ys) (blk v')) hE hB (fun M' m => Own.of (hO M' m))
  have hv : ∃ p, v' = sl p := by
    have ho := hS.own (i := 0) (A := A) (e := e) (v := v') (xs := xs ++ ys) (R := blk v') rfl
    obtain ⟨a, cap, hv⟩ := ho.len
    exact ⟨(a, _, cap), hv⟩
  obtain ⟨p', rfl⟩ := hv
  exact WL_opW (fun n' a hf => by simp [execOp, resolve, invoke, builtin, hx n' a hf rfl, hy n' a hf rfl, show (Builtin.append_ #[t, t] ty #[sl (p, xs.length, xs.length), u]).run P w = _ from hr]) rfl rfl rfl hn (h _ _ _ hS)
/-- with a third bound, of the slice's own length: no room is left -/
theorem SRd.cut3C {α : Type} {A : Rep α} {M : Nat → Prop} {v : Value} {xs : List α} {i j : Int} (h : SRd A M w v xs) (hc : cut3B i j j xs.length = true) :
    ∃ p : Option Addr, CutV3 v i j j A.n (sl (p, (cutL xs i j).length, (cutL xs i j).length)) ∧ SRd A M w (sl (p, (cutL xs i j).length, (cutL xs i j).length)) (cutL xs i j) := by
  obtain ⟨p, h1, h2⟩ := SRd.cut3S (g := true) (fun _ => h) (fun _ => hc)
  have h1 := h1 rfl
  have h2 := h2 rfl
  obtain ⟨ad, len, cap, hv, a1, a2, a3, a4, a5, h3⟩ := h1
  obtain ⟨pa, pl, pc⟩ := p
  simp only [sl, Value.slice.injEq] at h3
  obtain ⟨e1, e2, e3⟩ := h3
  obtain ⟨a', cap', hl⟩ := h2.len
  simp only [sl, Value.slice.injEq] at hl
  have e4 : pl = (cutL xs i j).length := hl.2.1
  have e5 : pc = (cutL xs i j).length := by rw [e3, ← e4, e2]
  subst e5
  rw [e4] at h2
  refine ⟨pa, ⟨ad, len, cap, hv, a1, a2, a3, a4, a5, ?_⟩, h2⟩
  simp only [sl, Value.slice.injEq]
  exact ⟨e1, by rw [← e4]; exact e2, e3⟩
end

/-! bytes of a constant, guarded: the literal and its mark in one -/
section
variable {P : Program} {ρ : Option Nat} {Q : Post} {n : Nat} {D : List Deferred} {E : Env} {w : World} {ops : Array Oper} {rest : List Oper} {Γ : Ctx} {g : Bool}
variable {d d2 : Tmp} {ty ty2 : TypeId} {pos pos2 : String} {af af2 : Array Edge}
theorem heap_freeze {b k : Nat} {cur : Array Value} {e : TypeId} (hh : w.heap[b]? = some (.cells cur e (0, 0))) : (w.freeze ⟨b, k, none⟩ 1).heap[b]? = some (.cells cur e (k, k + 1)) ∧ Chg [b] w (w.freeze ⟨b, k, none⟩ 1) ∧ (w.freeze ⟨b, k, none⟩ 1).heap.size = w.heap.size := by
  unfold World.freeze
  rw [if_neg (by decide)]
  refine ⟨by simp [Array.getElem?_modify, hh], ⟨rfl, rfl, rfl, by simp, fun c _ hcb => ?_⟩, by simp⟩
  have : b ≠ c := fun e => hcb (by simp [e])
  simp [Array.getElem?_modify, this]
theorem run_convB {t e : TypeId} {b l c : Nat} {cur : Array Value} {fr : Nat × Nat} (hh : w.heap[b]? = some (.cells cur e fr)) (ht : P.underlying t = some (.slice e)) (he : P.underlying e = some (.int .u8)) :
    (convert t t (.slice (some ⟨b, 0, none⟩) l c)).run P w = .ok (.slice (some ⟨b, 0, none⟩) l c) (w.freeze ⟨b, cur.size, none⟩ 1) := by
  have hsh : w.shape? b = some (e, cur.size) := by unfold World.shape?; rw [hh]
  simp [convert, run_underlying ht, run_underlying he, markStringish, hsh]
theorem WS_litBG {t e : TypeId} {len bytes : Nat} {z : Value} {zs cells : List Value} {parts : List (Nat × Operand)} {vs : List Value} {xs : List Int}
    {j : Nat} {pol : Bool} {rj : Tmp} {gj bj : Bool} (hj : (ops[j]?).bind (·.dst) = some rj)
    (hl' : look E rj = some (gj, .bool bj)) (hl2 : ∀ v, look ((d, g, v) :: E) rj = some (gj, .bool bj)) (hnj : Nat.blt rj n = true) (hG : (gj && (bj == pol)) = g)
    (hs : Sat Γ w) (ht : P.underlying t = some (.slice e)) (he : P.underlying e = some (.int .u8)) (hti : TI P e 1 bytes z) (hz : z.cells = zs.toArray) (hpos : Nat.blt 0 (len * 1) = true) (hbig : Nat.ble (len * 1) 16777216 = true)
    (hx : Opds E g (parts.map (·.2)) vs) (hc : litCells 1 len zs ((parts.map (·.1)).zip vs) = some cells.toArray) (hl : xs.length = len) (hA : g = true → ARd (RI .u8) Γ.M w cells xs) (hn : Nat.blt d n = true) (hn2 : Nat.blt d2 n = true)
    (h : ∀ (p : SLV) w', Sat (immG g (RSl (RI .u8)) [sl p] xs :: Γ) w' → WL P ρ ops Q n D rest ((d2, g, sl p) :: (d, g, sl p) :: E) w') :
    WL P ρ ops Q n D (⟨some d, .buildSlice t len parts.toArray, ty, pos, af, some (j, pol)⟩ :: ⟨some d2, .convert t t (.tmp d), ty2, pos2, af2, some (j, pol)⟩ :: rest) E w := by
  have hself : ∀ v : Value, look ((d, g, v) :: E) d = some (g, v) := fun v => by simp [look]
  refine WL_opWG (w' := w.alloc (.cells cells.toArray e)) (v := sl (some ⟨w.heap.size, 0, none⟩, len, len)) rfl hj hl' hnj hG (fun n' a hf hg => ?_) rfl rfl hn (fun hg => ?_) (fun hg => ?_)
  · subst hg
    exact RunW_buildSlice (P := P) (dst := some d) (ty := ty) (pos := pos) (af := af) ht hti hz hpos hbig hx hc n' a hf
  · have hh : (w.alloc (.cells cells.toArray e)).heap[w.heap.size]? = some (.cells cells.toArray e (0, 0)) := heap_alloc_new w _
    obtain ⟨f1, f2, f3⟩ := heap_freeze (k := cells.toArray.size) hh
    refine WL_opWG (v := sl (some ⟨w.heap.size, 0, none⟩, len, len)) (w' := (w.alloc (.cells cells.toArray e)).freeze ⟨w.heap.size, cells.toArray.size, none⟩ 1) rfl hj (hl2 _) hnj hG (fun n' a hf hg' => ?_) rfl rfl hn2 (fun _ => ?_) (fun h0 => by rw [hg] at h0; cases h0)
    · have ho : Opd ((d, g, sl (some ⟨w.heap.size, 0, none⟩, len, len)) :: E) g (.tmp d) (sl (some ⟨w.heap.size, 0, none⟩, len, len)) := Opd.g (hself _) id
      simp only [execOp, ho n' a hf hg', sl]
      rw [Sem.run_bind, run_convB hh ht he]
      rfl
    · have hE : Ext w ((w.alloc (.cells cells.toArray e)).freeze ⟨w.heap.size, cells.toArray.size, none⟩ 1) := by
        refine ⟨f2.os, f2.tape, f2.output, by rw [f3]; simp, fun b hb => ?_⟩
        rw [f2.block b (by simp; omega) (by simp; omega)]
        exact heap_alloc_old w _ hb
      have hA' := (hA hg).mv (hE.mv _)
      have hcl : cells.length = xs.length * 1 := hA'.1
      have hf : SRd (RI .u8) Γ.M ((w.alloc (.cells cells.toArray e)).freeze ⟨w.heap.size, cells.toArray.size, none⟩ 1) (sl (some ⟨w.heap.size, 0, none⟩, len, len)) xs := by
        subst hl
        refine .inr ⟨w.heap.size, 0, xs.length, cells.toArray, e, _, rfl, fun hm => by have := hs.lt hm; omega, f1, Nat.le_refl _, by simp [RI]; omega, ?_⟩
        have : (cells.drop 0).take (xs.length * (RI .u8).n) = cells := by
          rw [List.drop_zero]
          exact List.take_of_length_le (by show cells.length ≤ xs.length * 1; omega)
        rw [this]
        exact hA'
      exact h _ _ ((hs.ext hE).addSG (fun _ => hf))
  · refine WL_opWG (v := sl (some ⟨w.heap.size, 0, none⟩, len, len)) (w' := w) rfl hj (hl2 _) hnj hG (fun n' a hf hg' => by rw [hg] at hg'; cases hg') rfl rfl hn2 (fun hg' => by rw [hg] at hg'; cases hg') (fun _ => h _ _ (sat_addG0 hs hg))
end

/-! a store of a whole element of an own slice -/
section
variable {P : Program} {ρ : Option Nat} {Q : Post} {n : Nat} {D : List Deferred} {E : Env} {w : World} {ops : Array Oper} {rest : List Oper} {Γ : Ctx}
variable {ty : TypeId} {pos : String} {af : Array Edge}
theorem idx_of_inB {α : Type} {xs : List α} {j : Int} (h : inB j xs.length = true) : ∃ x, idx xs j = some x := by
  obtain ⟨h0, h1⟩ := inB_iff.1 h
  have hlt : j.toNat < xs.length := by omega
  exact ⟨xs[j.toNat], by simp [idx, h0, List.getElem?_eq_getElem hlt]⟩
theorem WS_storeElA {α : Type} {A : Rep α} {t e : TypeId} {x y : Operand} {j : Int} {sv v : Value} {xs : List α} {R : List Nat} {u : α} {us : List Value} {size bytes : Nat} {z : Value} (hs : Sat Γ w) (i : Nat) (hi : Γ[i]? = some (osl A e sv xs R)) (hti : TI P t size bytes z)
    (hj : inB j xs.length = true) (hx : Opd E true x (.pointer (some (elA sv j A.n)))) (hy : Opd E true y v) (hv : v.cells = us.toArray) (hsz : us.length = size) (hn : us.length = A.n) (h1c : us.all Value.oneCell' = true) (hu : A.rd Γ.M w us u)
    (h : ∀ w', Sat (Γ.set i (osl A e sv (xs.set j.toNat u) R)) w' → WL P ρ ops Q n D rest E w') :
    WL P ρ ops Q n D (⟨none, .store t x y, ty, pos, af, none⟩ :: rest) E w := by
  obtain ⟨u0, hu0⟩ := idx_of_inB hj
  obtain ⟨_, vs, hC, hr⟩ := (hs.own hi).atA hu0
  have hvl : vs.length = A.n := A.len hr
  have hset : setSeg vs 0 us = us := by
    unfold setSeg
    simp only [List.take_zero, List.nil_append, Nat.zero_add]
    rw [List.drop_eq_nil_of_le (by omega), List.append_nil]
  exact WS_storeEl (k := 0) (us := us) (vs := vs) (vs' := us) hs i hi hti hu0 hx hy hv hsz h1c hC hvl (Nat.ble_eq_true_of_le (by omega)) hset hu h
end
end Go.Proofs.Ytjappdgehmjomaa
