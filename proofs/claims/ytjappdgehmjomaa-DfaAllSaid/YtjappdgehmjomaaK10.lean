/-
  Own framework, part 10: maps.
-/
import Derived.Test.YtjappdgehmjomaaK9
namespace Go.Proofs.Ytjappdgehmjomaa

/-- keys of a type that are compared at once -/
structure MapK (P : Program) (kt : TypeId) {κ : Type} [BEq κ] (ke : κ → Value) : Prop where
  ut : ∃ d, P.underlying kt = some d ∧ ∀ a b, Instr.sameNow d (ke a) (ke b) = some (a == b)
  bits : ∀ a b, (a == b) = true → a = b ∧ Instr.sameBits 10000 (ke b) (ke a) = true
  check : ∀ (em : Bool) (a : κ) (w : World), (Instr.checkKey em 10000 kt (ke a)).run P w = .ok () w

theorem MapK.int {P : Program} {kt : TypeId} {k : IntKind} (h : P.underlying kt = some (.int k)) : MapK P kt (Value.int k) where
  ut := ⟨_, h, fun a b => by simp [Instr.sameNow]⟩
  bits a b h := by
    have : a = b := by simpa using h
    subst this
    exact ⟨rfl, by simp [Instr.sameBits]⟩
  check em a w := by
    show (Instr.checkKey em (9999 + 1) kt _).run P w = _
    unfold Instr.checkKey
    simp [run_underlying h]
theorem beq_S (a b : Str) : ((⟨a.toArray⟩ : ByteArray) == (⟨b.toArray⟩ : ByteArray)) = (a == b) := by
  rw [Bool.eq_iff_iff, MapKept.bytes_beq, beq_iff_eq]
  constructor
  · intro h
    have := congrArg ByteArray.toList h
    rwa [toList_S, toList_S] at this
  · intro h; rw [h]
theorem MapK.str {P : Program} {kt : TypeId} (h : P.underlying kt = some .string) : MapK P kt S where
  ut := ⟨_, h, fun a b => by simp only [Instr.sameNow, S, beq_S]⟩
  bits a b h := by
    have : a = b := by simpa using h
    subst this
    exact ⟨rfl, by simp only [Instr.sameBits, S, beq_S, h]⟩
  check em a w := by
    show (Instr.checkKey em (9999 + 1) kt _).run P w = _
    unfold Instr.checkKey
    simp [run_underlying h, S]

def mget {κ ν : Type} [BEq κ] (l : List (κ × ν)) (k : κ) : Option ν := match l with
  | [] => none
  | p :: l => bif k == p.1 then some p.2 else mget l k
def mset {κ ν : Type} [BEq κ] (l : List (κ × ν)) (k : κ) (v : ν) : List (κ × ν) := match l with
  | [] => [(k, v)]
  | p :: l => bif k == p.1 then (k, v) :: l else p :: mset l k v

section
variable {κ ν : Type} [BEq κ] {ke : κ → Value} {vi : ν → Value}

def kvs (ke : κ → Value) (vi : ν → Value) (es : List MapEntry) (l : List (κ × ν)) : Prop := es.map (fun e => (e.key, e.val)) = l.map fun p => (ke p.1, vi p.2)

/-- a map's value that reads as this: nil, or rows of keys and values -/
def OMap (ke : κ → Value) (vi : ν → Value) (w : World) (v : Value) (d : Option (List (κ × ν))) : Prop :=
  (v = .map none ∧ d = none) ∨ ∃ b es clock l, v = .map (some b) ∧ d = some l ∧ w.heap[b]? = some (.map es clock) ∧ kvs ke vi es.toList l
def blkM : Value → List Nat
  | .map (some b) => [b]
  | _ => []
omit [BEq κ] in
theorem OMap.nil {w : World} : OMap ke vi w (.map none) none := .inl ⟨rfl, rfl⟩
omit [BEq κ] in
theorem OMap.lt {w : World} {v : Value} {d : Option (List (κ × ν))} (h : OMap ke vi w v d) : ∀ b ∈ blkM v, b < w.heap.size := fun b hb => by
  rcases h with ⟨rfl, _⟩ | ⟨b', es, clock, l, rfl, _, hh, _⟩
  · cases hb
  · simp [blkM] at hb; subst hb; exact (Array.getElem?_eq_some_iff.1 hh).1
omit [BEq κ] in
theorem OMap.keep {w w' : World} {v : Value} {d : Option (List (κ × ν))} (h : OMap ke vi w v d) (k : ∀ b ∈ blkM v, w'.heap[b]? = w.heap[b]?) : OMap ke vi w' v d := by
  rcases h with h | ⟨b, es, clock, l, rfl, hd, hh, hk⟩
  · exact .inl h
  · exact .inr ⟨b, es, clock, l, rfl, hd, by rw [k b (by simp [blkM])]; exact hh, hk⟩
omit [BEq κ] in
theorem OMap.ext {w w' : World} {v : Value} {d : Option (List (κ × ν))} (h : OMap ke vi w v d) (x : Ext w w') : OMap ke vi w' v d := h.keep fun b hb => x.block b (h.lt b hb)

theorem findNow_kvs {d : TypeDesc} (hn : ∀ a b : κ, Instr.sameNow d (ke a) (ke b) = some (a == b)) (k : κ) : ∀ (es : List MapEntry) (l : List (κ × ν)) (i : Nat), kvs ke vi es l →
    (mget l k = none ∧ (l.any fun p => k == p.1) = false ∧ Instr.findNow d (ke k) es i = some none) ∨
    ∃ j v, mget l k = some v ∧ Instr.findNow d (ke k) es i = some (some (i + j, vi v)) ∧ j < es.length ∧ (∃ p, l[j]? = some p ∧ (k == p.1) = true ∧ ∀ q, mset l k q = l.set j (k, q))
  | [], [], i, _ => .inl ⟨rfl, rfl, rfl⟩
  | [], _ :: _, _, h => by simp [kvs] at h
  | _ :: _, [], _, h => by simp [kvs] at h
  | e :: es, p :: l, i, h => by
    simp only [kvs, List.map_cons, List.cons.injEq, Prod.mk.injEq] at h
    obtain ⟨⟨h1, h2⟩, h3⟩ := h
    cases hk : (k == p.1)
    · rcases findNow_kvs hn k es l (i + 1) h3 with ⟨a, b, c⟩ | ⟨j, v, a, b, c, q, hq, hq1, hq2⟩
      · exact .inl ⟨by simp [mget, hk, a], by simp [hk, b], by simp [Instr.findNow, h1, hn, hk, c]⟩
      · refine .inr ⟨j + 1, v, by simp [mget, hk, a], ?_, by simpa using c, q, by simpa using hq, hq1, fun u => by simp [mset, hk, hq2]⟩
        simp only [Instr.findNow, h1, hn, hk, b]
        congr 3; omega
    · exact .inr ⟨0, p.2, by simp [mget, hk], by simp [Instr.findNow, h1, hn, hk, h2], by simp, p, by simp, hk, fun u => by simp [mset, hk]⟩
theorem mset_none {l : List (κ × ν)} {k : κ} {v : ν} (h : (l.any fun p => k == p.1) = false) : mset l k v = l ++ [(k, v)] := by
  induction l with
  | nil => rfl
  | cons p l ih =>
    simp only [List.any_cons, Bool.or_eq_false_iff] at h
    simp [mset, h.1, ih h.2]

end


/-- a map of the call's own -/
def omap {κ ν : Type} (ke : κ → Value) (vi : ν → Value) (v : Value) (d : Option (List (κ × ν))) : Item where
  own := blkM v
  P _ w := OMap ke vi w v d
  lt h := h.lt
  keep h _ k _ := h.keep k
  pers := false
  hp h := by cases h
section
variable {κ ν : Type} {ke : κ → Value} {vi : ν → Value} {Γ : Ctx} {w : World} {i : Nat}
theorem Sat.omap (h : Sat Γ w) {v : Value} {d : Option (List (κ × ν))} (hi : Γ[i]? = some (Go.Proofs.Ytjappdgehmjomaa.omap ke vi v d)) : OMap ke vi w v d := h.at_ hi
theorem Sat.addNilM (h : Sat Γ w) (ke : κ → Value) (vi : ν → Value) : Sat (Go.Proofs.Ytjappdgehmjomaa.omap ke vi (.map none) none :: Γ) w := h.add rfl OMap.nil
theorem Sat.dupS {α : Type} {A : Rep α} (h : Sat Γ w) {g : Bool} {v : Value} {xs : List α} (hi : Γ[i]? = some (Go.Proofs.Ytjappdgehmjomaa.immG g (RSl A) [v] xs)) (hg : g = true) : Sat (Go.Proofs.Ytjappdgehmjomaa.imm (RSl A) [v] xs :: Γ) w := h.addS (h.slG hi hg)
theorem OMap.isNone {v : Option Nat} {d : Option (List (κ × ν))} (h : OMap ke vi w (.map v) d) : v.isNone = d.isNone := by
  rcases h with ⟨h1, rfl⟩ | ⟨b, es, clock, l, h1, rfl, _⟩ <;> cases h1 <;> rfl
end

section
variable {κ ν : Type} [BEq κ] {ke : κ → Value} {vi : ν → Value}
variable {P : Program} {E : Env} {w : World} {g : Bool}
variable {dst : Option Tmp} {ty : TypeId} {pos : String} {af : Array Edge} {gd : Option (Nat × Bool)}

/-- what stands in a map, or the zero value -/
def mgetD (d : Option (List (κ × ν))) (k : κ) (z : ν) : ν := ((d.getD []) |> fun l => mget l k).getD z
def mhas (d : Option (List (κ × ν))) (k : κ) : Bool := (mget (d.getD []) k).isSome

theorem run_lookup {kt et t : TypeId} (hk : MapK P kt ke) (ht : P.underlying t = some (.map kt et)) {z : ν} (hz : (zeroValue et).run P w = .ok (vi z) w) {v : Value} {d : Option (List (κ × ν))} (h : OMap ke vi w v d) (k : κ) (ok : Bool) :
    (Instr.lookup t v (ke k) ok).run P w = .ok (bif ok then .tuple #[vi (mgetD d k z), .bool (mhas d k)] else vi (mgetD d k z)) w := by
  obtain ⟨de, hde, hn⟩ := hk.ut
  rcases h with ⟨rfl, rfl⟩ | ⟨b, es, clock, l, rfl, rfl, hh, hkv⟩
  · have : Instr.findNow de (ke k) [] 0 = some none := rfl
    cases ok <;> simp [Instr.lookup, run_underlying ht, hk.check, Instr.findKey, run_underlying hde, this, hz, mgetD, mhas, mget, Result.andThen]
  · rcases findNow_kvs hn k es.toList l 0 hkv with ⟨a, _, c⟩ | ⟨j, u, a, c, _⟩
    · cases ok <;> simp [Instr.lookup, run_underlying ht, MapKept.run_getObj_map hh, hk.check, Instr.findKey, run_underlying hde, c, hz, mgetD, mhas, a, Result.andThen]
    · cases ok <;> simp [Instr.lookup, run_underlying ht, MapKept.run_getObj_map hh, hk.check, Instr.findKey, run_underlying hde, c, mgetD, mhas, a, Result.andThen]
theorem Run_lookup {x y : Operand} {kt et t : TypeId} (hk : MapK P kt ke) (ht : P.underlying t = some (.map kt et)) {z : ν} (hz : (zeroValue et).run P w = .ok (vi z) w) {v : Value} {d : Option (List (κ × ν))} {k : κ} (hx : Opd E g x v) (hy : Opd E g y (ke k)) (h : g = true → OMap ke vi w v d) :
    Run P E g ⟨dst, .lookup t x y false, ty, pos, af, gd⟩ w (vi (mgetD d k z)) := fun n a hf hg => by
  simp [execOp, hx n a hf hg, hy n a hf hg, run_lookup hk ht hz (h hg) k false]
theorem Run_lookupOk {x y : Operand} {kt et t : TypeId} (hk : MapK P kt ke) (ht : P.underlying t = some (.map kt et)) {z : ν} (hz : (zeroValue et).run P w = .ok (vi z) w) {v : Value} {d : Option (List (κ × ν))} {k : κ} (hx : Opd E g x v) (hy : Opd E g y (ke k)) (h : g = true → OMap ke vi w v d) :
    Run P E g ⟨dst, .lookup t x y true, ty, pos, af, gd⟩ w (.tuple #[vi (mgetD d k z), .bool (mhas d k)]) := fun n a hf hg => by
  simp [execOp, hx n a hf hg, hy n a hf hg, run_lookup hk ht hz (h hg) k true]
end

section
variable {κ ν : Type} {ke : κ → Value} {vi : ν → Value}
variable {P : Program} {ρ : Option Nat} {Q : Post} {n : Nat} {D : List Deferred} {E : Env} {w : World} {ops : Array Oper} {rest : List Oper} {Γ : Ctx} {i : Nat}
variable {d : Tmp} {ty : TypeId} {pos : String} {af : Array Edge}

theorem WS_makeMap {t : TypeId} (ke : κ → Value) (vi : ν → Value) (hs : Sat Γ w) (hn : Nat.blt d n = true)
    (h : ∀ b w', Sat (omap ke vi (.map (some b)) (some []) :: Γ) w' → WL P ρ ops Q n D rest ((d, true, .map (some b)) :: E) w') :
    WL P ρ ops Q n D (⟨some d, .makeMap t none, ty, pos, af, none⟩ :: rest) E w :=
  WL_opW (v := .map (some w.heap.size)) (w' := w.alloc (.map #[] 0)) (fun n a hf => by simp [execOp, Instr.makeMap]) rfl rfl rfl hn (h _ _ (hs.push (ext_alloc _ _) (fun b hb => by
    have : b = w.heap.size := by simpa [omap, blkM] using hb
    subst this
    exact ⟨by show _ < (w.heap.push _).size; simp, Nat.le_refl _⟩) (fun M' m => .inr ⟨_, #[], 0, [], rfl, rfl, by show (w.heap.push _)[w.heap.size]? = _; simp, rfl⟩)))

variable [BEq κ]
omit [BEq κ] in
theorem kvs_set {es : List MapEntry} {l : List (κ × ν)} (h : kvs ke vi es l) {j : Nat} (f : MapEntry → MapEntry) {k : κ} {u : ν} (hf : ∀ e, es[j]? = some e → ((f e).key, (f e).val) = (ke k, vi u)) : kvs ke vi (es.modify j f) (l.set j (k, u)) := by
  unfold kvs at *
  have hl : es.length = l.length := by simpa using congrArg List.length h
  apply List.ext_getElem?
  intro i
  have hi : (es.map fun e => (e.key, e.val))[i]? = (l.map fun p => (ke p.1, vi p.2))[i]? := by rw [h]
  rw [List.getElem?_map, List.getElem?_map] at hi ⊢
  rw [List.getElem?_modify, List.getElem?_set]
  by_cases hij : j = i
  · subst hij
    by_cases hlt : j < es.length
    · have h2 : j < l.length := by omega
      have h3 := hf _ (List.getElem?_eq_getElem hlt)
      simp [List.getElem?_eq_getElem hlt, h2, Prod.mk.injEq] at h3 ⊢
      exact h3
    · rw [List.getElem?_eq_none (by omega)]
      simp; omega
  · simp only [hij, if_false]
    simpa using hi
theorem RunS_mapUpdate {x y z : Operand} {kt et t : TypeId} {v : Option Nat} {l : List (κ × ν)} {k : κ} {u : ν} (hk : MapK P kt ke) (ht : P.underlying t = some (.map kt et)) (hx : Opd E true x (.map v)) (hy : Opd E true y (ke k)) (hz : Opd E true z (vi u)) (hm : OMap ke vi w (.map v) (some l)) :
    ∃ w', RunS P E ⟨none, .mapUpdate t x y z, ty, pos, af, none⟩ w w' ∧ Chg (blkM (.map v)) w w' ∧ w'.heap.size = w.heap.size ∧ OMap ke vi w' (.map v) (some (mset l k u)) := by
  obtain ⟨de, hde, hn⟩ := hk.ut
  rcases hm with ⟨h1, h2⟩ | ⟨b, es, clock, l', h1, h2, hh, hkv⟩
  · cases h2
  cases h1; cases h2
  have hsz := (Array.getElem?_eq_some_iff.1 hh).1
  have fin : ∀ (es' : Array MapEntry) (clock' : Nat), kvs ke vi es'.toList (mset l k u) → RunS P E ⟨none, .mapUpdate t x y z, ty, pos, af, none⟩ w { w with heap := w.heap.setIfInBounds b (.map es' clock') } →
      ∃ w', RunS P E ⟨none, .mapUpdate t x y z, ty, pos, af, none⟩ w w' ∧ Chg (blkM (.map (some b))) w w' ∧ w'.heap.size = w.heap.size ∧ OMap ke vi w' (.map (some b)) (some (mset l k u)) := fun es' clock' hkv' hrun => by
    refine ⟨_, hrun, ⟨rfl, rfl, rfl, by simp, fun c _ hcb => ?_⟩, by simp, .inr ⟨b, es', clock', _, rfl, rfl, ?_, hkv'⟩⟩
    · exact Array.getElem?_setIfInBounds_ne (fun e => hcb (by simp [blkM, e]))
    · simp [hsz]
  rcases findNow_kvs hn k es.toList l 0 hkv with ⟨_, a2, c⟩ | ⟨j, u0, _, c, hj, p, hp, hp1, hp2⟩
  · refine fin (es.push { key := ke k, val := vi u, born := clock }) (clock + 1) ?_ ?_
    · rw [mset_none a2]
      unfold kvs at *
      simp [hkv]
    · intro n a hf
      simp [execOp, hx n a hf rfl, hy n a hf rfl, hz n a hf rfl, Instr.mapUpdate, run_underlying ht, MapKept.run_getObj_map hh, hk.check, Instr.findKey, run_underlying hde, c, MapKept.run_setObj_map _ hh, Result.andThen]
  · obtain ⟨rfl, hb2⟩ := hk.bits k p.1 hp1
    have hej : ∃ e, es.toList[j]? = some e ∧ e.key = ke p.1 := by
      have h3 : (es.toList.map fun e => (e.key, e.val))[j]? = (l.map fun p => (ke p.1, vi p.2))[j]? := by rw [hkv]
      rw [List.getElem?_map, List.getElem?_map, hp, List.getElem?_eq_getElem hj] at h3
      simp only [Option.map_some, Option.some.injEq, Prod.mk.injEq] at h3
      exact ⟨_, List.getElem?_eq_getElem hj, h3.1⟩
    obtain ⟨e, he, hek⟩ := hej
    have he' : es[j]? = some e := by simpa using he
    refine fin (es.modify j fun e => { e with key := ke p.1, val := vi u }) clock ?_ ?_
    · rw [hp2, Array.toList_modify]
      exact kvs_set hkv _ (fun e _ => rfl)
    · have hbits : Instr.sameBits 10000 e.key (ke p.1) = true := by rw [hek]; exact hb2
      intro n a hf
      simp [execOp, hx n a hf rfl, hy n a hf rfl, hz n a hf rfl, Instr.mapUpdate, run_underlying ht, MapKept.run_getObj_map hh, hk.check, Instr.findKey, run_underlying hde, c, MapKept.run_setObj_map _ hh, Result.andThen, he', Instr.keyThatStays, hbits]
theorem WS_mapUpdate {x y z : Operand} {kt et t : TypeId} {v : Option Nat} {d' : Option (List (κ × ν))} {l : List (κ × ν)} {k : κ} {u : ν} (hs : Sat Γ w) (i : Nat) (hi : Γ[i]? = some (omap ke vi (.map v) d')) (hd : d' = some l) (hk : MapK P kt ke) (ht : P.underlying t = some (.map kt et))
    (hx : Opd E true x (.map v)) (hy : Opd E true y (ke k)) (hz : Opd E true z (vi u))
    (h : ∀ w', Sat (Γ.set i (omap ke vi (.map v) (some (mset l k u)))) w' → WL P ρ ops Q n D rest E w') :
    WL P ρ ops Q n D (⟨none, .mapUpdate t x y z, ty, pos, af, none⟩ :: rest) E w := by
  subst hd
  obtain ⟨w', hr, hC, hsz, hm⟩ := RunS_mapUpdate (P := P) (E := E) (w := w) (ty := ty) (pos := pos) (af := af) hk ht hx hy hz (hs.omap hi)
  exact WL_opS hr rfl rfl rfl (h _ (hs.upd hi hC (fun b hb => ⟨hm.lt b hb, .inl hb⟩) (fun M' m _ => hm)))
end
end Go.Proofs.Ytjappdgehmjomaa
