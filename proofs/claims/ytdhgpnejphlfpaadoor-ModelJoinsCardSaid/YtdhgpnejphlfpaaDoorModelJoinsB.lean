/-
  Own texts for the statement ModelJoins, cut down to what it needs: K12, K13, K14, K15, K16, KEx, B1, B2, B3, B4, B5, B6, B7, B8, B9, B10. (cut and joined by a program)
-/
import Derived.Test.YtdhgpnejphlfpaaDoorModelJoinsA
import Derived.Lib.AppendZerosOnto
import Derived.Lib.Overlaps
import Derived.Lib.AppendStr
import Derived.Lib.UnsafeStr
import Derived.Lib.Builder
import Derived.Laws.Externs
import Derived.RecoverIn
namespace Go.Proofs.YtdhgpnejphlfpaaDoor
def Lq {α : Type} (xs : List α) (i : Int) (ys : List α) : List α := xs.take i.toNat ++ ys ++ xs.drop i.toNat
section
variable {P : Program} {E : Env} {w : World} {g : Bool}
variable {dst : Option Tmp} {ty : TypeId} {pos : String} {af : Array Edge} {gd : Option (Nat × Bool)}
end
/-! rows of cells -/
section
variable {w : World}
theorem Chg.trans {C : List Nat} {a b c : World} (h : Chg C a b) (k : Chg C b c) : Chg C a c := ⟨k.os.trans h.os, k.tape.trans h.tape, k.output.trans h.output, Nat.le_trans h.size k.size, fun i hi hn => (k.block i (Nat.lt_of_lt_of_le hi h.size) hn).trans (h.block i hi hn)⟩
theorem row_shift {l vs : List Value} {a b n c : Nat} (ha : a ≤ n) (hb : vs.length = b) (hc : n + b ≤ c) (hl : l.length = c) :
  let r1 := l.take (a + b) ++ (l.drop a).take (n - a) ++ l.drop (a + b + ((l.drop a).take (n - a)).length)
  let r2 := r1.take a ++ vs ++ r1.drop (a + vs.length)
  r1.length = c ∧ r2.length = c ∧ r2.take (n + b) = (l.take n).take a ++ vs ++ (l.take n).drop a := by
 intro r1 r2
 have e0 : ((l.drop a).take (n - a)).length = n - a := by rw [List.length_take, List.length_drop]; omega
 have h1 : r1.length = c := by
  simp only [r1, List.length_append, List.length_take, List.length_drop, e0]; omega
 have h2 : r2.length = c := by
  simp only [r2, List.length_append, List.length_take, List.length_drop, h1]; omega
 refine ⟨h1, h2, ?_⟩
 have t1 : r1.take a = (l.take n).take a := by
  simp only [r1]
  rw [List.append_assoc, List.take_append_of_le_length (by rw [List.length_take]; omega), List.take_take, List.take_take, Nat.min_eq_left (by omega), Nat.min_eq_left ha]
 have t2 : (r1.drop (a + vs.length)).take (n - a) = (l.take n).drop a := by
  simp only [r1]
  rw [List.append_assoc, List.drop_append, hb]
  rw [List.drop_eq_nil_of_le (by rw [List.length_take]; omega), List.nil_append, List.length_take, Nat.min_eq_left (by omega), Nat.sub_self, List.drop_zero, List.take_append_of_le_length (by omega), List.take_of_length_le (by omega), List.drop_take]
 simp only [r2]
 rw [t1]
 have l1 : ((l.take n).take a ++ vs).length = a + b := by rw [List.length_append, List.length_take, List.length_take]; omega
 rw [List.take_append, List.take_of_length_le (by omega), l1, show n + b - (a + b) = n - a by omega, t2]
theorem row_grow {l vs z : List Value} {a b n : Nat} (ha : a ≤ n) (hb : vs.length = b) (hl : l.length = n) (hz : n + b ≤ a + z.length) :
  let r0 := l.take a ++ z
  let r1 := r0.take a ++ vs ++ r0.drop (a + vs.length)
  let r2 := r1.take (a + b) ++ l.drop a ++ r1.drop (a + b + (l.drop a).length)
  r1.length = r0.length ∧ r2.length = r0.length ∧ r2.take (n + b) = l.take a ++ vs ++ l.drop a := by
 intro r0 r1 r2
 have h0 : r0.length = a + z.length := by simp only [r0, List.length_append, List.length_take]; omega
 have hd : (l.drop a).length = n - a := by rw [List.length_drop, hl]
 have h1 : r1.length = r0.length := by
  simp only [r1, List.length_append, List.length_take, List.length_drop]; omega
 have h2 : r2.length = r0.length := by
  simp only [r2, List.length_append, List.length_take, hd, List.length_drop]; omega
 refine ⟨h1, h2, ?_⟩
 have t0 : r0.take a = l.take a := by
  simp only [r0]
  rw [List.take_append_of_le_length (by rw [List.length_take]; omega), List.take_take, Nat.min_self]
 have t1 : r1.take (a + b) = l.take a ++ vs := by
  simp only [r1]
  rw [t0]
  have : (l.take a ++ vs).length = a + b := by rw [List.length_append, List.length_take]; omega
  rw [List.take_append_of_le_length (by omega), List.take_of_length_le (by omega)]
 simp only [r2]
 rw [t1]
 have : (l.take a ++ vs ++ l.drop a).length = n + b := by rw [List.length_append, List.length_append, List.length_take, hd]; omega
 rw [List.take_append_of_le_length (by omega), List.take_of_length_le (by omega)]
end
section
variable {P : Program} {w : World}
theorem Own.shape {α : Type} {A : Rep α} {M : Nat → Prop} {v : Value} {e : TypeId} {xs : List α} {R : List Nat} (h : Own A e M w v xs R) : ∃ p c, v = .slice p xs.length c ∧ xs.length ≤ c := by
 rcases h with ⟨_, cells, ⟨_, h2⟩, _⟩ | ⟨_, rfl, ⟨a, rfl⟩, _⟩
 ·rcases h2 with ⟨rfl, h0⟩ | ⟨g, cap, cur, rfl, _, _, hc, _⟩
  ·exact ⟨none, 0, by rw [h0], by omega⟩
  ·exact ⟨_, _, rfl, hc⟩
 ·exact ⟨a, 0, rfl, Nat.le_refl _⟩
theorem Own.row {α : Type} {A : Rep α} {M : Nat → Prop} {v : Value} {e : TypeId} {xs : List α} {R : List Nat} (h : Own A e M w v xs R) (hx : xs ≠ []) :
  ∃ b c cur, v = .slice (some ⟨b, 0, none⟩) xs.length c ∧ R = [b] ∧ w.heap[b]? = some (.cells cur e (0, 0)) ∧ xs.length ≤ c ∧ c ≤ maxLen ∧ cur.size = c * A.n ∧ ARd A M w (cur.toList.take (xs.length * A.n)) xs := by
 rcases h with ⟨hR, cells, ⟨_, h2⟩, hr⟩ | ⟨_, h, _⟩
 ·rcases h2 with ⟨_, h0⟩ | ⟨g, cap, cur, rfl, _, hh, hc, hm, hs, ht⟩
  ·exact absurd (List.eq_nil_of_length_eq_zero h0) hx
  ·exact ⟨g, cap, cur, rfl, by rw [hR]; rfl, hh, hc, hm, hs, by rw [ht]; exact hr⟩
 ·exact absurd h hx
theorem Own.mk_ {α : Type} {A : Rep α} {M : Nat → Prop} {e : TypeId} {xs : List α} {b c : Nat} {cur : Array Value} (hh : w.heap[b]? = some (.cells cur e (0, 0))) (hc : xs.length ≤ c) (hm : c ≤ maxLen) (hs : cur.size = c * A.n) (hr : ARd A M w (cur.toList.take (xs.length * A.n)) xs) :
  Own A e M w (.slice (some ⟨b, 0, none⟩) xs.length c) xs [b] := .inl ⟨rfl, _, ⟨hr.1, .inr ⟨b, c, cur, rfl, Nat.zero_le _, hh, hc, hm, hs, rfl⟩⟩, hr⟩
end
end Go.Proofs.YtdhgpnejphlfpaaDoor
namespace Go.Proofs.YtdhgpnejphlfpaaDoor
def kf (b : Nat) (o : Obj) : Item where
 own := [b]
 P _ w := w.heap[b]? = some o
 lt h c hc := by
  have : c = b := by simpa using hc
  subst this; exact (Array.getElem?_eq_some_iff.1 h).1
 bC h _ k _ := (k b (by simp)).trans h
 cC := false
 hp h := by cases h
def pack {γ : Type} (Γ : γ → Ctx) (R : List Nat) : Item where
 own := R
 P M w := (∀ b ∈ R, b < w.heap.size) ∧ ∃ g, (∀ b, (Γ g).M b ↔ b ∈ R) ∧ (∀ it, it ∈ Γ g → it.P M w) ∧
  (∀ (i j : Nat) (it jt : Item), (Γ g)[i]? = some it → (Γ g)[j]? = some jt → i ≠ j → ∀ b, b ∈ it.own → b ∉ jt.own)
 lt h := h.1
 bC {M M' w w'} h m k e := by
  obtain ⟨h1, g, h2, h3, h4⟩ := h
  exact ⟨fun b hb => Nat.lt_of_lt_of_le (h1 b hb) m.1, g, h2, fun it hi => it.bC (h3 it hi) m (fun b hb => k b ((h2 b).1 ⟨it, hi, hb⟩)) e, h4⟩
 cC := false
 hp h := by cases h
theorem Ctx.CZ {Γ Δ : Ctx} {b : Nat} : Ctx.M (Γ ++ Δ) b ↔ Γ.M b ∨ Δ.M b := by
 constructor
 ·rintro ⟨it, hi, hb⟩
  rcases List.mem_append.1 hi with h | h
  ·exact .inl ⟨it, h, hb⟩
  ·exact .inr ⟨it, h, hb⟩
 ·rintro (⟨it, hi, hb⟩ | ⟨it, hi, hb⟩)
  ·exact ⟨it, List.mem_append_left _ hi, hb⟩
  ·exact ⟨it, List.mem_append_right _ hi, hb⟩
theorem oB {α : Type} {l m : List α} {i : Nat} {x : α} (h : l[i]? = some x) : (l ++ m)[i]? = some x := by
 rw [List.getElem?_append_left (List.getElem?_eq_some_iff.1 h).1]; exact h
theorem ou {α : Type} {l m : List α} {i : Nat} : (l ++ m)[l.length + i]? = m[i]? := by
 rw [List.getElem?_append_right (Nat.le_add_right _ _)]; congr 1; omega
theorem Sat.pack {γ : Type} (Γ : γ → Ctx) (g : γ) (Δ : Ctx) {w : World} (h : Sat (Γ g ++ Δ) w) : ∃ R, Sat (Go.Proofs.YtdhgpnejphlfpaaDoor.pack Γ R :: Δ) w := by
 have hR : ∀ b, (Γ g).M b ↔ b ∈ (Γ g).flatMap Item.own := fun b => by
  simp only [List.mem_flatMap]; exact Iff.rfl
 refine ⟨(Γ g).flatMap Item.own, ?_⟩
 generalize hRe : (Γ g).flatMap Item.own = R at hR
 have hM : ∀ b, Ctx.M (Go.Proofs.YtdhgpnejphlfpaaDoor.pack Γ R :: Δ) b ↔ Ctx.M (Γ g ++ Δ) b := fun b => by
  rw [Ctx.o7, Ctx.CZ, hR]; exact Iff.rfl
 have mv : Mv (Ctx.M (Γ g ++ Δ)) w (Ctx.M (Go.Proofs.YtdhgpnejphlfpaaDoor.pack Γ R :: Δ)) w := Mv.weaken w (fun b hb => (hM b).1 hb)
 have cross : ∀ (b : Nat) (j : Nat) (jt : Item), b ∈ R → Δ[j]? = some jt → b ∉ jt.own := fun b j jt hb hj hb' => by
  obtain ⟨it, hi, hbi⟩ := (hR b).2 hb
  obtain ⟨i, hi⟩ := List.mem_iff_getElem?.1 hi
  have hlt := (List.getElem?_eq_some_iff.1 hi).1
  exact h.sep i ((Γ g).length + j) it jt (oB hi) (ou.trans hj) (by omega) b hbi hb'
 refine ⟨fun it hi => ?_, fun i j it jt hi hj hij b hb hb' => ?_⟩
 ·rcases List.mem_cons.1 hi with rfl | hi
  ·exact ⟨fun b hb => h.lt (Ctx.CZ.2 (.inl ((hR b).2 hb))), g, hR, fun it hi => it.bC (h.all it (List.mem_append_left _ hi)) mv (fun _ _ => rfl) (dF.refl w),
    fun i j it jt hi hj => h.sep i j it jt (oB hi) (oB hj)⟩
  ·exact it.bC (h.all it (List.mem_append_right _ hi)) mv (fun _ _ => rfl) (dF.refl w)
 ·cases i with
  | zero =>
   simp only [List.getElem?_cons_zero, Option.some.injEq] at hi
   subst hi
   cases j with
   | zero => exact hij rfl
   | succ j => simp only [List.getElem?_cons_succ] at hj; exact cross b j jt hb hj hb'
  | succ i =>
   simp only [List.getElem?_cons_succ] at hi
   cases j with
   | zero =>
    simp only [List.getElem?_cons_zero, Option.some.injEq] at hj
    subst hj
    exact cross b i it hb' hi hb
   | succ j =>
    simp only [List.getElem?_cons_succ] at hj
    exact h.sep ((Γ g).length + i) ((Γ g).length + j) it jt (ou.trans hi) (ou.trans hj) (by omega) b hb hb'
/-! ### the loop's record -/
structure Rec (n : Nat) (E : Env) (ps : Array Tmp) (assign body : Code) (b : Nat) (r : LoopState → Option Code → Loop) : Prop where
 ex : ∃ fn tmps, Fits n E { tmps := tmps, defers := [] } ∧ r = fun st pe => { state := st, pending := pe, fn, tmps, params := ps, assign, body, defers := b }
def stOf (c : Nat) : LoopState := match c with
 | 0 => .ready
 | _ + 1 => .done
abbrev cj (l : Nat) (r : LoopState → Option Code → Loop) (st : LoopState) (pe : Option Code) : Item := kf l (.loop (r st pe))
def mk (ds : List Nat) : List Deferred := ds.map fun b => { target := .collected b, args := #[] }
def cw (ds : List Nat) : Item where
 own := ds
 P _ w := ds.Nodup ∧ ∀ b ∈ ds, w.heap[b]? = some (.deferred (some []))
 lt h b hb := (Array.getElem?_eq_some_iff.1 (h.2 b hb)).1
 bC h _ k _ := ⟨h.1, fun b hb => (k b hb).trans (h.2 b hb)⟩
 cC := false
 hp h := by cases h
section
variable {P : Program} {n : Nat} {D : List Deferred} {E : Env} {w : World} {Γ : Ctx} {Q : aC}
theorem Sat.OL (hs : Sat Γ w) : Sat (cw [] :: Γ) w := hs.push (Ext.refl w) (fun b hb => by cases hb) (fun _ _ => ⟨List.nodup_nil, fun b hb => by cases hb⟩)
theorem Sat.dfr {b : Nat} {ds : List Nat} (hs : Sat (kf b (.deferred (some [])) :: cw ds :: Γ) w) : Sat (cw (b :: ds) :: Γ) w := by
 have h1 : w.heap[b]? = some (.deferred (some [])) := hs.at_ (i := 0) rfl
 have h2 : ds.Nodup ∧ ∀ b ∈ ds, w.heap[b]? = some (.deferred (some [])) := hs.at_ (i := 1) rfl
 have h3 : b ∉ ds := hs.sep 0 1 _ _ rfl rfl (by omega) b (by simp [kf])
 have hM : ∀ c, Ctx.M (kf b (.deferred (some [])) :: cw ds :: Γ) c ↔ Ctx.M (cw (b :: ds) :: Γ) c := fun c => by
  simp only [Ctx.o7, kf, cw, List.mem_cons, List.not_mem_nil, or_false]
  constructor
  ·rintro (h | h | h)
   ·exact .inl (.inl h)
   ·exact .inl (.inr h)
   ·exact .inr h
  ·rintro ((h | h) | h)
   ·exact .inl h
   ·exact .inr (.inl h)
   ·exact .inr (.inr h)
 have mv : Mv (Ctx.M (kf b (.deferred (some [])) :: cw ds :: Γ)) w (Ctx.M (cw (b :: ds) :: Γ)) w := Mv.weaken w (fun c hc => (hM c).2 hc)
 have cross : ∀ (j : Nat) (jt : Item) (c : Nat), Γ[j]? = some jt → c ∈ b :: ds → c ∉ jt.own := fun j jt c hj hc => by
  rcases List.mem_cons.1 hc with rfl | hc
  ·exact hs.sep 0 (j + 2) _ jt rfl (by simpa using hj) (by omega) c (by simp [kf])
  ·exact hs.sep 1 (j + 2) _ jt rfl (by simpa using hj) (by omega) c hc
 refine ⟨fun it hi => ?_, fun i j it jt hi hj hij c hc hc' => ?_⟩
 ·rcases List.mem_cons.1 hi with rfl | hi
  ·refine ⟨List.nodup_cons.2 ⟨h3, h2.1⟩, fun c hc => ?_⟩
   rcases List.mem_cons.1 hc with rfl | hc
   ·exact h1
   ·exact h2.2 c hc
  ·exact it.bC (hs.all it (List.mem_cons_of_mem _ (List.mem_cons_of_mem _ hi))) mv (fun _ _ => rfl) (dF.refl w)
 ·cases i with
  | zero =>
   simp only [List.getElem?_cons_zero, Option.some.injEq] at hi
   subst hi
   cases j with
   | zero => exact hij rfl
   | succ j => simp only [List.getElem?_cons_succ] at hj; exact cross j jt c hj hc hc'
  | succ i =>
   simp only [List.getElem?_cons_succ] at hi
   cases j with
   | zero =>
    simp only [List.getElem?_cons_zero, Option.some.injEq] at hj
    subst hj
    exact cross i it c hi hc' hc
   | succ j =>
    simp only [List.getElem?_cons_succ] at hj
    exact hs.sep (i + 2) (j + 2) it jt (by simpa using hi) (by simpa using hj) (by omega) c hc hc'
theorem Sat.putObj {i b : Nat} {o o' : Obj} (hs : Sat Γ w) (hi : Γ[i]? = some (kf b o)) : Sat (Γ.set i (kf b o')) (w.putObj b o') := by
 have hb : w.heap[b]? = some o := hs.at_ hi
 have hlt := (Array.getElem?_eq_some_iff.1 hb).1
 have hb' : (w.putObj b o').heap[b]? = some o' := World.putObj_heap_same hlt
 refine hs.upd hi ⟨rfl, rfl, rfl, by simp, fun c _ hcb => World.putObj_heap_other (by simpa [kf] using hcb)⟩ (fun c hc => ?_) (fun _ _ _ => hb')
 have : c = b := by simpa [kf] using hc
 subst this
 exact ⟨by simpa using hlt, .inl (by simp [kf])⟩
def gJ (P : Program) (ρ : Option Nat) (l n : Nat) (D : List Deferred) (Q : aC) (E : Env) (_v : Value) (w : World) : Prop :=
 ∃ j w', (Instr.endLoop l).run P w = .ok j w' ∧ match j with
  | none => At Q .normal n D E w'
  | some c => WC P ρ c Q n D E w'
theorem gJ.go {l b : Nat} {r : LoopState → Option Code → Loop} {ps : Array Tmp} {assign body : Code} {v : Value} {E' : Env} (hr : Rec n E' ps assign body b r) (hs : Sat (cj l r .ready none :: Γ) w)
  (h : ∀ w', Sat Γ w' → At Q .normal n D E w') : gJ P none l n D Q E v w := by
 obtain ⟨fn, tmps, _, rfl⟩ := hr.ex
 have h0 : w.heap[l]? = some _ := hs.at_ (i := 0) rfl
 refine ⟨_, _, run_endLoop h0 (by simp), ?_⟩
 refine h _ ((hs.putObj (i := 0) rfl).re 1 [] rfl)
theorem gJ.jump {l b : Nat} {r : LoopState → Option Code → Loop} {ps : Array Tmp} {assign body : Code} {v : Value} {E' : Env} {c : Code} (hr : Rec n E' ps assign body b r) (hs : Sat (cj l r .done (some c) :: Γ) w)
  (h : ∀ w', Sat Γ w' → WC P none c Q n D E w') : gJ P none l n D Q E v w := by
 obtain ⟨fn, tmps, _, rfl⟩ := hr.ex
 have h0 : w.heap[l]? = some _ := hs.at_ (i := 0) rfl
 refine ⟨_, _, run_endLoop h0 (by simp), ?_⟩
 exact h _ ((hs.putObj (i := 0) rfl).re 1 [] rfl)
theorem WC_rangeFunc {g : Operand} {ps : Array Tmp} {assign body : Code} {f : FuncId} {first cap : List Value} (ds : List Nat)
  (he : fH P f) (hg : Opd E true g (.func (.func f) first.toArray cap.toArray)) (hs : Sat (cw ds :: Γ) w)
  (h : ∀ (l b : Nat) (r : LoopState → Option Code → Loop) w1, Rec n E ps assign body b r → Sat (cj l r .ready none :: cw (b :: ds) :: Γ) w1 →
   nH P f (first ++ [Value.func (.yield l) #[] #[]] ++ cap) w1 (gJ P none l n (mk (b :: ds)) Q E)) :
  WC P none (.rangeFunc g ps assign body) Q n (mk ds) E w := fun a hf hd => by
 refine wpIn_rangeFunc fun fn hfn => ?_
 obtain ⟨r, hr⟩ : ∃ r : LoopState → Option Code → Loop, r = fun st pe => { state := st, pending := pe, fn, tmps := a.tmps, params := ps, assign, body, defers := w.heap.size } := ⟨_, rfl⟩
 obtain ⟨W1, hW1⟩ : ∃ W1, (w.alloc (.deferred (some []))).alloc (.loop (r .ready none)) = W1 := ⟨_, rfl⟩
 have hs1 : Sat (kf w.heap.size (.deferred (some [])) :: cw ds :: Γ) (w.alloc (.deferred (some []))) := hs.push (dO _ _) (fun b hb => by
  have : b = w.heap.size := by simpa [kf] using hb
  subst this; simp) (fun _ _ => World.alloc_heap_new w _)
 have hs2 : Sat (cj (w.heap.size + 1) r .ready none :: cw (w.heap.size :: ds) :: Γ) W1 := by
  rw [← hW1]
  have := hs1.dfr.push (new := cj (w.alloc (.deferred (some []))).heap.size r .ready none) (dO _ _) (fun b hb => by
   have : b = (w.alloc (.deferred (some []))).heap.size := by simpa [kf] using hb
   subst this; simp) (fun _ _ => World.alloc_heap_new (w.alloc (.deferred (some []))) (.loop (r .ready none)))
  rwa [World.size_alloc] at this
 have hrec : Rec n E ps assign body w.heap.size r := ⟨fn, a.tmps, ⟨hf.size, hf.at_⟩, hr⟩
 have hev : a.eval g = Value.func (.func f) first.toArray cap.toArray := hg n a hf rfl
 refine ⟨w.heap.size + 1, [{ target := .collected w.heap.size, args := #[] }], W1, { target := .fn (.func f) cap.toArray, args := first.toArray ++ #[Value.func (.yield (w.heap.size + 1)) #[] #[]] }, W1, f,
  (first ++ [Value.func (.yield (w.heap.size + 1)) #[] #[]] ++ cap).toArray, W1, ?_, ?_, fun _ _ => trivial, ?_, rF, ?_⟩
 ·rw [← hW1, hr]; exact run_enterLoop_outer _ _ _ _ _
 ·simp only [resolve, hev, Deferred.ofValue]
  simp [Act.eval]
 ·have := he (first ++ [Value.func (.yield (w.heap.size + 1)) #[] #[]] ++ cap).toArray W1
  simp only [invoke]
  simpa using this
 ·refine ui (Calls.mono (h (w.heap.size + 1) w.heap.size r W1 hrec hs2) fun e w' he => ?_)
  cases e with
  | returned v =>
   obtain ⟨j, w'', h1, h2⟩ := he
   refine ⟨j, w'', h1, ?_⟩
   have hf' : Fits n E { a with defers := [{ target := .collected w.heap.size, args := #[] }] ++ a.defers } := ⟨hf.size, hf.at_⟩
   cases j with
   | none => exact h2 _ hf' (by simp [hd, mk])
   | some c => exact h2 _ hf' (by simp [hd, mk])
  | panicked c => exact he.elim
  | outgrown => exact he.elim
/-! ### a round -/
def Yld (P : Program) (l : Nat) (vs : List Value) (w : World) (S : Value → World → Prop) : Prop :=
 ∃ fn tmps assign body, (Instr.yield l vs.toArray).run P w = .ok (.round l fn tmps assign body) w ∧ RoundIn (FW none) 0 P l fn tmps assign body w (RE S (fun _ _ => False))
theorem Yld.mono {l : Nat} {vs : List Value} {S S' : Value → World → Prop} (h : Yld P l vs w S) (hs : ∀ v w', S v w' → S' v w') : Yld P l vs w S' := by
 obtain ⟨fn, tmps, assign, body, h1, h2⟩ := h
 refine ⟨fn, tmps, assign, body, h1, h2.mono fun e w' he => ?_⟩
 cases e with
 | returned v => exact hs _ _ he
 | panicked c => exact he
 | outgrown => exact he
def Dq : List Tmp → List Value → Env → Env
 | p :: ps, v :: vs, E => Dq ps vs ((p, true, v) :: E)
 | _, _, E => E
theorem Dn : ∀ (ps : List Tmp) (vs : List Value) {E : Env} {tmps : Array Value}, ps.all (fun p => Nat.blt p n) = true → Fits n E { tmps := tmps, defers := [] } →
  Fits n (Dq ps vs E) { tmps := (ps.zip vs).foldl (fun t (p, v) => t.setIfInBounds p v) tmps, defers := [] }
 | [], _, _, _, _, h => h
 | _ :: _, [], _, _, _, h => h
 | p :: ps, v :: vs, E, tmps, hp, h => by
  simp only [List.all_cons, Bool.and_eq_true] at hp
  have := h.put (g := true) (v := v) hp.1
  exact Dn ps vs hp.2 this
def Jy (P : Program) (l : Nat) (body : Code) (Q : aC) : Act → World → Prop := fun a w => ∃ w', (Instr.beginRound l).run P w = .ok () w' ∧ body.wpIn (FW (some l)) 0 P Q a w'
theorem OU {l b : Nat} {r : LoopState → Option Code → Loop} {ps : List Tmp} {assign body : Code} {vs : List Value} {S : Value → World → Prop}
  (hr : Rec n E ps.toArray assign body b r) (hs : Sat (cj l r .ready none :: Γ) w) (hl : Nat.beq vs.length ps.length = true) (hp : ps.all (fun p => Nat.blt p n) = true)
  (h : WC P (some l) assign (Exit.then (Jy P l body (roundPost P l (RE S (fun _ _ => False)))) (fun _ _ _ => False)) n [] (Dq ps vs E) w) : Yld P l vs w S := by
 obtain ⟨fn, tmps, hf, rfl⟩ := hr.ex
 have h0 : w.heap[l]? = some _ := hs.at_ (i := 0) rfl
 have hl' : vs.length = ps.length := Nat.eq_of_beq_eq_true hl
 refine ⟨fn, _, assign, body, run_yield h0 (by simp [hl']), roundIn_of_wpIn trivial ?_⟩
 have hz := Dn ps vs hp hf
 have e : ((ps.toArray.zip vs.toArray).foldl (fun tmps (t, a) => tmps.setIfInBounds t a) tmps) = ((ps.zip vs).foldl (fun t (p, v) => t.setIfInBounds p v) tmps) := by
  simp
 have := h _ hz rfl
 rw [← e] at this
 exact this
theorem Kz {l b i : Nat} {r : LoopState → Option Code → Loop} {ps : Array Tmp} {assign body : Code} {E' : Env} (hr : Rec n E' ps assign body b r) (hs : Sat Γ w) (hi : Γ[i]? = some (cj l r .ready none))
  (h : ∀ w', Sat (Γ.set i (cj l r .busy none)) w' → WC P (some l) body Q n D E w') : At (Exit.then (Jy P l body Q) (fun _ _ _ => False)) .normal n D E w := fun a hf hd => by
 obtain ⟨fn, tmps, _, rfl⟩ := hr.ex
 have h0 : w.heap[l]? = some _ := hs.at_ hi
 exact ⟨_, run_beginRound h0 rfl, h _ (hs.putObj hi) a hf hd⟩
theorem Ld {l b i : Nat} {r : LoopState → Option Code → Loop} {ps : Array Tmp} {assign body : Code} {E' : Env} {S : Value → World → Prop} {Sp : List PanicEntry → World → Prop} (hr : Rec n E' ps assign body b r) (hs : Sat Γ w) (hi : Γ[i]? = some (cj l r .busy none))
  (h : ∀ w', Sat (Γ.set i (cj l r .ready none)) w' → S (.bool true) w') : At (roundPost P l (RE S Sp)) .normal n D E w := fun a hf hd => by
 obtain ⟨fn, tmps, _, rfl⟩ := hr.ex
 have h0 : w.heap[l]? = some _ := hs.at_ hi
 exact ⟨_, _, run_endRound none h0, h _ (hs.putObj hi)⟩
theorem DJ {l b i : Nat} {r : LoopState → Option Code → Loop} {ps : Array Tmp} {assign body : Code} {E' : Env} {S : Value → World → Prop} {Sp : List PanicEntry → World → Prop} (hr : Rec n E' ps assign body b r) (hs : Sat Γ w) (hi : Γ[i]? = some (cj l r .busy none))
  (h : ∀ w', Sat (Γ.set i (cj l r .done (some .ret))) w' → S (.bool false) w') : At (roundPost P l (RE S Sp)) .ret n D E w := fun a hf hd => by
 obtain ⟨fn, tmps, _, rfl⟩ := hr.ex
 have h0 : w.heap[l]? = some _ := hs.at_ hi
 exact ⟨_, _, run_endRound (some .ret) h0, h _ (hs.putObj hi)⟩
theorem B7 {l b i k : Nat} {r : LoopState → Option Code → Loop} {ps : Array Tmp} {assign body : Code} {E' : Env} {S : Value → World → Prop} {Sp : List PanicEntry → World → Prop} (hr : Rec n E' ps assign body b r) (hs : Sat Γ w) (hi : Γ[i]? = some (cj l r .busy none))
  (h : ∀ w', Sat (Γ.set i (cj l r .done (some (.exit k)))) w' → S (.bool false) w') : At (roundPost P l (RE S Sp)) (.exit k) n D E w := fun a hf hd => by
 obtain ⟨fn, tmps, _, rfl⟩ := hr.ex
 have h0 : w.heap[l]? = some _ := hs.at_ hi
 exact ⟨_, _, run_endRound (some (.exit k)) h0, h _ (hs.putObj hi)⟩
theorem Cd {l b i k : Nat} {r : LoopState → Option Code → Loop} {ps : Array Tmp} {assign body : Code} {E' : Env} {S : Value → World → Prop} {Sp : List PanicEntry → World → Prop} (hr : Rec n E' ps assign body b r) (hs : Sat Γ w) (hi : Γ[i]? = some (cj l r .busy none))
  (h : ∀ w', Sat (Γ.set i (cj l r .done (some (.goto k)))) w' → S (.bool false) w') : At (roundPost P l (RE S Sp)) (.goto k) n D E w := fun a hf hd => by
 obtain ⟨fn, tmps, _, rfl⟩ := hr.ex
 have h0 : w.heap[l]? = some _ := hs.at_ hi
 exact ⟨_, _, run_endRound (some (.goto k)) h0, h _ (hs.putObj hi)⟩
end
section
variable {P : Program} {ρ : Option Nat} {Q : aC} {n : Nat} {D : List Deferred} {E : Env} {w : World} {ops : Array Oper} {rest : List Oper} {Γ : Ctx}
theorem LK {l : Nat} {fo : Operand} {xs : List Operand} {vs : List Value} {tys : Array TypeId} {d : Tmp} {ty : TypeId} {pos : String} {af : Array Edge} {S : Value → World → Prop}
  (hfo : Opd E true fo (.func (.yield l) #[] #[])) (hxs : kD E true xs vs) (hn : Nat.blt d n = true) (hy : Yld P l vs w S)
  (h : ∀ v w', S v w' → WL P ρ ops Q n D rest ((d, true, v) :: E) w') : WL P ρ ops Q n D (⟨some d, .call ⟨.value fo, xs.toArray, tys⟩, ty, pos, af, none⟩ :: rest) E w := fun a hf hD =>
 wpListIn_plain rfl fun K hK => ie rfl (by
  obtain ⟨fn, tmps, assign, body, h1, h2⟩ := hy
  have e1 : (Array.map a.eval xs.toArray) = vs.toArray := by simp [hxs.map hf rfl]
  have e2 : (execOp a.eval ⟨some d, .call ⟨.value fo, xs.toArray, tys⟩, ty, pos, af, none⟩).run P w = .ok (.round l fn tmps assign body) w := by
   simp only [execOp, resolve, hfo n a hf rfl, Deferred.ofValue, e1, Sem.run_bind, Sem.run_pure, Result.andThen_ok, invoke]
   simpa using h1
  rw [e2, Oper.uponIn_round]
  refine ⟨rF, RoundIn.mono (F := FW ρ) h2 fun e w' he => ?_⟩
  cases e with
  | returned v => exact hK _ _ (h v w' he _ (hf.put hn) hD)
  | panicked c => exact he.elim
  | outgrown => exact he.elim)
theorem yv {fn : Func} {S : Value → World → Prop} {Sp : List PanicEntry → World → Prop} : ∀ (ds : List Nat) {w : World}, Sat (cw ds :: Γ) w →
  (∀ w', Sat Γ w' → At (BP P fn S Sp) .ret n [] E w') → At (BP P fn S Sp) .ret n (mk ds) E w
 | [], w, hs, h => h w (hs.re 1 [] rfl)
 | b :: ds, w, hs, h => fun a hf hd => by
  have h0 : (b :: ds).Nodup ∧ ∀ c ∈ b :: ds, w.heap[c]? = some (.deferred (some [])) := hs.at_ (i := 0) rfl
  have hb := h0.2 b (List.mem_cons_self ..)
  have hnb : b ∉ ds := (List.nodup_cons.1 h0.1).1
  have hlt := (Array.getElem?_eq_some_iff.1 hb).1
  have hs' : Sat ((cw (b :: ds) :: Γ).set 0 (cw ds)) (w.putObj b (.deferred none)) := by
   refine hs.upd (i := 0) rfl ⟨rfl, rfl, rfl, by simp, fun c _ hcb => World.putObj_heap_other (fun e => hcb (by subst e; exact List.mem_cons_self ..))⟩ (fun c hc => ⟨?_, .inl (List.mem_cons_of_mem _ hc)⟩) (fun _ _ _ => ?_)
   ·have := (Array.getElem?_eq_some_iff.1 (h0.2 c (List.mem_cons_of_mem _ hc))).1
    simpa using this
   ·exact ⟨(List.nodup_cons.1 h0.1).2, fun c hc => (World.putObj_heap_other (fun e => hnb (by subst e; exact hc))).trans (h0.2 c (List.mem_cons_of_mem _ hc))⟩
  have h1 := yv ds hs' h { a with defers := mk ds } ⟨hf.size, hf.at_⟩ rfl
  show LeavesInM (FW none) 0 P fn a.tmps (RE S Sp) a.defers .returning w
  rw [hd]
  exact ⟨by simp, .inl ⟨b, _, rfl, run_takeDeferred hb, h1⟩⟩
theorem Db {fn : Func} {S : Value → World → Prop} {Sp : List PanicEntry → World → Prop} (ds : List Nat) (hs : Sat (cw ds :: Γ) w)
  (h : ∀ w', Sat Γ w' → At (BP P fn S Sp) .normal n [] E w') : At (BP P fn S Sp) .normal n (mk ds) E w := yv (fn := fn) (S := S) (Sp := Sp) ds hs h
def AgainD {σ γ τ : Type} (again : σ → Option τ) (r : τ) (J : σ → γ → World → Prop) (Es : σ → γ → Env) (n : Nat) (Ds : γ → List Nat) (a : Act) (w : World) : Prop :=
 ∃ s g, again s = some r ∧ J s g w ∧ Fits n (Es s g) a ∧ a.defers = mk (Ds g)
end
end Go.Proofs.YtdhgpnejphlfpaaDoor
namespace Go.Proofs.YtdhgpnejphlfpaaDoor
section
variable {P : Program} {E : Env} {w : World} {g : Bool}
variable {dst : Option Tmp} {ty : TypeId} {pos : String} {af : Array Edge} {gd : Option (Nat × Bool)}
abbrev pY (f : Bool) (b : Nat) : Value := .pointer (bif f then some ⟨b, 0, none⟩ else none)
theorem GG {x y : Operand} {t t' e : TypeId} {f : Bool} {b : Nat} (ht : P.underlying t = some (.pointer e)) (hx : Opd E g x (pY f b)) (hy : Opd E g y (.pointer none)) :
  Run P E g ⟨dst, .binOp .eql t x y t', ty, pos, af, gd⟩ w (.bool (!f)) :=
 bA (P := P) hx hy (by
  rw [Sem.run_bind, db rfl, Result.andThen_ok]
  have h : ∀ d : Nat, (Op.equalIn (d + 1) t (pY f b) (.pointer none)).run P w = .ok (!f) w := fun d => by
   cases f <;> simp [Op.equalIn, run_underlying ht, pY]
  simp only [binOp]
  simp [Op.equal, Op.maxDepth, h 9999])
theorem GY {x y : Operand} {t t' e : TypeId} {f : Bool} {b n bytes : Nat} {z : Value} (ht : P.underlying t = some (.pointer e)) (hti : TI P e n bytes z) (hx : Opd E g x (pY f b)) (hy : Opd E g y (.pointer (some ⟨b, 0, none⟩))) :
  Run P E g ⟨dst, .binOp .neq t x y t', ty, pos, af, gd⟩ w (.bool (!f)) :=
 bA (P := P) hx hy (by
  rw [Sem.run_bind, db rfl, Result.andThen_ok]
  obtain ⟨j, hj, _⟩ := hti.out
  cases f
  ·have h : ∀ d : Nat, (Op.equalIn (d + 1) t (.pointer none) (.pointer (some ⟨b, 0, none⟩))).run P w = .ok false w := fun d => by
    simp [Op.equalIn, run_underlying ht]
   show (binOp .neq t (.pointer none) (.pointer (some ⟨b, 0, none⟩))).run P w = _
   simp only [binOp]
   simp [Op.equal, Op.maxDepth, h 9999]
  ·exact Lib.run_neq_ptr_same w _ ht hj)
theorem zf {κ ν : Type} {ke : κ → Value} {vi : ν → Value} {x y : Operand} {t t' kt et : TypeId} {o : Option Nat} {dd : Option (List (κ × ν))} (ht : P.underlying t = some (.map kt et)) (hx : Opd E g x (.map o)) (hy : Opd E g y (.map none)) (hm : gM ke vi w (.map o) dd) :
  Run P E g ⟨dst, .binOp .eql t x y t', ty, pos, af, gd⟩ w (.bool (Option.isNone dd)) :=
 bA (P := P) hx hy (by
  rw [Sem.run_bind, db rfl, Result.andThen_ok]
  rcases hm with ⟨e, rfl⟩ | ⟨b, es, clock, l, e, rfl, _, _⟩
  ·cases e
   have h : ∀ d : Nat, (Op.equalIn (d + 1) t (.map none) (.map none)).run P w = .ok true w := fun d => by simp [Op.equalIn, run_underlying ht]
   simp only [binOp]
   simp [Op.equal, Op.maxDepth, h 9999]
  ·cases e
   have h : ∀ d : Nat, (Op.equalIn (d + 1) t (.map (some b)) (.map none)).run P w = .ok false w := fun d => by simp [Op.equalIn, run_underlying ht]
   simp only [binOp]
   simp [Op.equal, Op.maxDepth, h 9999])
theorem Ah {κ ν : Type} {ke : κ → Value} {vi : ν → Value} {x y : Operand} {t t' kt et : TypeId} {o : Option Nat} {dd : Option (List (κ × ν))} (ht : P.underlying t = some (.map kt et)) (hx : Opd E g x (.map o)) (hy : Opd E g y (.map none)) (hm : gM ke vi w (.map o) dd) :
  Run P E g ⟨dst, .binOp .neq t x y t', ty, pos, af, gd⟩ w (.bool (!(Option.isNone dd))) :=
 bA (P := P) hx hy (by
  rw [Sem.run_bind, db rfl, Result.andThen_ok]
  rcases hm with ⟨e, rfl⟩ | ⟨b, es, clock, l, e, rfl, _, _⟩
  ·cases e
   have h : ∀ d : Nat, (Op.equalIn (d + 1) t (.map none) (.map none)).run P w = .ok true w := fun d => by simp [Op.equalIn, run_underlying ht]
   simp only [binOp]
   simp [Op.equal, Op.maxDepth, h 9999]
  ·cases e
   have h : ∀ d : Nat, (Op.equalIn (d + 1) t (.map (some b)) (.map none)).run P w = .ok false w := fun d => by simp [Op.equalIn, run_underlying ht]
   simp only [binOp]
   simp [Op.equal, Op.maxDepth, h 9999])
theorem EX {x y : Operand} {t t' kt et : TypeId} (ht : P.underlying t = some (.map kt et)) (hx : Opd E g x (.map none)) (hy : Opd E g y (.map none)) :
  Run P E g ⟨dst, .binOp .eql t x y t', ty, pos, af, gd⟩ w (.bool true) := zf (κ := Unit) (ν := Unit) (ke := fun _ => undef) (vi := fun _ => undef) (dd := none) ht hx hy (.inl ⟨rfl, rfl⟩)
theorem Fi {x y : Operand} {t t' kt et : TypeId} (ht : P.underlying t = some (.map kt et)) (hx : Opd E g x (.map none)) (hy : Opd E g y (.map none)) :
  Run P E g ⟨dst, .binOp .neq t x y t', ty, pos, af, gd⟩ w (.bool false) := Ah (κ := Unit) (ν := Unit) (ke := fun _ => undef) (vi := fun _ => undef) (dd := none) ht hx hy (.inl ⟨rfl, rfl⟩)
theorem EL {x : Operand} {s d e e' : TypeId} {b n bytes : Nat} {z : Value} {vs : List Value} (hs : P.underlying s = some (.pointer e)) (hd : P.underlying d = some .unsafePointer) (hti : TI P e n bytes z) (hn : Nat.blt 0 n = true)
  (hx : Opd E g x (.pointer (some ⟨b, 0, none⟩))) (hb : cY w b e' vs) (hv : Nat.blt 0 vs.length = true) : Run P E g ⟨dst, .convert s d x, ty, pos, af, gd⟩ w (.pointer (some ⟨b, 0, none⟩)) :=
 fun n' a hf hg => by
  obtain ⟨j, hj, hjs, _⟩ := hti.out
  have hsh : w.shape? b = some (e', vs.toArray.size) := by unfold World.shape?; rw [show w.heap[b]? = _ from hb]
  have h0 : 0 < n := by simpa using hn
  have h1 : 0 < vs.length := by simpa using hv
  have := Lib.run_to_unsafe (P := P) w (cells := vs.toArray.size) (⟨b, 0, none⟩ : Addr) hs hd hj (by omega) hsh (by simpa using h1)
  simp [execOp, hx n' a hf hg, this]
theorem Bh {x : Operand} {s d e e' : TypeId} {b n bytes : Nat} {z : Value} {vs : List Value} (hs : P.underlying s = some .unsafePointer) (hd : P.underlying d = some (.pointer e)) (hti : TI P e n bytes z)
  (hx : Opd E g x (.pointer (some ⟨b, 0, none⟩))) (hb : cY w b e' vs) (hl : liesAt P P.depth e' (vs.length / P.cellsOf e') 0 e 1 = true) : Run P E g ⟨dst, .convert s d x, ty, pos, af, gd⟩ w (.pointer (some ⟨b, 0, none⟩)) :=
 fun n' a hf hg => by
  obtain ⟨j, hj, hjs, _⟩ := hti.out
  have hsh : w.shape? b = some (e', vs.length) := by unfold World.shape?; rw [show w.heap[b]? = _ from hb]; simp
  have := Lib.run_from_unsafe (P := P) w (⟨b, 0, none⟩ : Addr) hs hd hj hsh hl
  simp [execOp, hx n' a hf hg, this]
def PL (P : Program) (f : FuncId) : Prop := ∀ (v : Value) (w : World), (callFunc f #[v]).run P w = .ok (.value v) w
theorem Mx {f : FuncId} {x : Operand} {v : Value} {tys : Array TypeId} (hS : PL P f) (hx : Opd E g x v) : Run P E g ⟨dst, .call ⟨.value (.func f), #[x], tys⟩, ty, pos, af, gd⟩ w v :=
 fun n' a hf hg => by
  have := hS v w
  have e : a.eval (.func f) = .func (.func f) #[] #[] := rfl
  simp only [execOp, resolve, e, Deferred.ofValue, Sem.run_bind, Sem.run_pure, Result.andThen_ok, invoke]
  simpa [hx n' a hf hg] using this
end
/-! bytes of a string appended -/
theorem G3 (s : Str) : Lib.strCells ⟨s.toArray⟩ = s.map fun b => Value.int .u8 (b.toNat : Int) := by simp [Lib.strCells]
theorem vx {M : Nat → Prop} {w : World} : ∀ s : Str, ARd (RI .u8) M w (Lib.strCells ⟨s.toArray⟩) (bytesOf s) := fun s => by
 rw [G3]; exact wC s
theorem dG (s : Str) : (bytesOf s).length = s.length := by simp [bytesOf]
section
variable {P : Program} {w : World} {M : Nat → Prop}
theorem sq (t u ty' e : TypeId) (ht : P.underlying t = some (.slice e)) (hu : P.underlying u = some .string) (hti : TI P e 1 1 (.int .u8 0))
  {v : Value} {xs : List Int} {s : Str} (ho : OSl (RI .u8) e M w v xs) (hM : ∀ b ∈ blk v, M b) (hroom : aM (xs.length + s.length) 1 = true) :
  ∃ v' w', (Builtin.append_ #[t, u] ty' #[v, S s]).run P w = .ok v' w' ∧ Chg (blk v) w w' ∧ (∀ b ∈ blk v', b < w'.heap.size ∧ (b ∈ blk v ∨ w.heap.size ≤ b)) ∧
   (∀ M', Mv M w M' w' → OSl (RI .u8) e M' w' v' (xs ++ bytesOf s)) := by
 obtain ⟨i, hi, hsz, hby, hz⟩ := hti.out
 simp only [aM, Bool.and_eq_true, Nat.mul_one] at hroom
 have hb1 := Nat.le_of_ble_eq_true hroom.1
 have hb2 := Nat.le_of_ble_eq_true hroom.2
 have hss : (⟨s.toArray⟩ : ByteArray).size = s.length := iD s
 obtain ⟨cells, hown, hA⟩ := ho
 have hnA : ARd (RI .u8) M w (Lib.strCells ⟨s.toArray⟩) (bytesOf s) := vx s
 have hA' := hA.append hnA
 have hn1 : (RI .u8).n = 1 := rfl
 have hcl : cells.length = xs.length := by have := hA.1; rw [hn1] at this; omega
 have hsl : (Lib.strCells ⟨s.toArray⟩).length = s.length := by rw [Lib.strCells_length, hss]
 have hlen : (cells ++ Lib.strCells ⟨s.toArray⟩).length = (xs ++ bytesOf s).length * 1 := by simp [hcl, hsl, dG]
 have grown : ∀ (old : Nat), old < xs.length + s.length →
   (w.drew.alloc (.cells (cells.toArray ++ (Lib.strCells ⟨s.toArray⟩).toArray ++ Builtin.zeroCells (Value.int .u8 0).cells (grownCap w (xs.length + s.length) old e - (xs.length + s.length))) e)).ownsRow 0 e 1
    (.slice (some ⟨w.heap.size, 0, none⟩) (xs.length + s.length) (grownCap w (xs.length + s.length) old e)) (xs ++ bytesOf s).length (cells ++ Lib.strCells ⟨s.toArray⟩) := by
  intro old hold
  have hge := grownCap_ge w (xs.length + s.length) old e
  have hcm : grownCap w (xs.length + s.length) old e ≤ maxLen := grownCap_le_maxLen w (xs.length + s.length) old e (by simpa [maxLen] using hb2)
  refine ⟨hlen, .inr ⟨w.heap.size, _, _, by simp [dG], Nat.zero_le _, heap_alloc_new w.drew _, by simpa [dG] using hge, hcm, ?_, ?_⟩⟩
  ·have hz1 : (Value.int IntKind.u8 0).cells.size = 1 := rfl
   simp only [Array.size_append, List.size_toArray, size_zeroCells, hz1, hcl, hsl]
   omega
  ·simp only [Array.toList_append, List.append_assoc]
   rw [← List.append_assoc, ← hlen]
   exact List.take_left
 have hchg : ∀ o C, Chg C w (w.drew.alloc o) := fun o C => ⟨rfl, rfl, rfl, by simp, fun b hb _ => heap_alloc_old w.drew o hb⟩
 have hnew : ∀ (n cap : Nat) (o : Obj), ∀ b ∈ blk (.slice (some ⟨w.heap.size, 0, none⟩) n cap), b < (w.drew.alloc o).heap.size ∧ (b ∈ blk v ∨ w.heap.size ≤ b) := fun n cap o b hb => by
  have : b = w.heap.size := by simpa [blk, Value.ownBlock] using hb
  subst this
  exact ⟨by simp, .inr (Nat.le_refl _)⟩
 by_cases hm : s.length = 0
 ·have hs0 : s = [] := List.eq_nil_of_length_eq_zero hm
  subst hs0
  refine ⟨v, w, ?_, (Ext.refl w).chg _, fun b hb => ⟨(hown.lt b (by simpa [blk] using hb)).2, .inl hb⟩, fun M' m => ⟨cells, by simpa [bytesOf] using hown, by simpa [bytesOf] using hA.mv m⟩⟩
  rcases hown.2 with ⟨rfl, h0⟩ | ⟨g, cap, cur, rfl, _, hg, hcap, hcm, hcs, _⟩
  ·have hf := Lib.run_firstCells_string (P := P) w 1 ⟨#[]⟩
   have e0 : (⟨#[]⟩ : ByteArray).size = 0 := rfl
   rw [e0] at hf
   simp [S, Builtin.append_, run_underlying ht, run_underlying hu, sizeOf, typeInfo, hi, hsz, Builtin.lenOf, hf, ByteArray.size]
  ·have hf := Lib.run_firstCells_string (P := P) w 1 ⟨#[]⟩
   have e0 : (⟨#[]⟩ : ByteArray).size = 0 := rfl
   rw [e0] at hf
   simp [S, Builtin.append_, run_underlying ht, run_underlying hu, sizeOf, typeInfo, hi, hsz, Builtin.lenOf, hf, ByteArray.size, storeCells, Lib.strCells, hcap]
 ·rcases hown.2 with ⟨rfl, h0⟩ | ⟨g, cap, cur, rfl, _, hg, hcap, hcm, hcs, htake⟩
  ·have hx0 : xs = [] := List.eq_nil_of_length_eq_zero h0
   subst hx0
   have hc0 : cells = [] := List.eq_nil_of_length_eq_zero (by simpa using hcl)
   subst hc0
   have hr := run_append_nil_string (P := P) w t u ty' e i (.int .u8 0) ht hu hi hz ⟨s.toArray⟩ (by rw [hss]; omega) (by rw [hss]; simp at hb2; omega) (by rw [hss, hby]; simp at hb1; omega)
   have hgr := grown 0 (by simp; omega)
   have e1 : ((⟨s.toArray⟩ : ByteArray).data.map fun b => Value.int .u8 b.toNat) = (Lib.strCells ⟨s.toArray⟩).toArray := by
    apply Array.ext'; simp [Lib.strCells]
   rw [e1, hss] at hr
   simp only [List.length_nil, Nat.zero_add, List.nil_append, Array.empty_append] at hgr
   exact ⟨_, _, hr, hchg _ _, hnew _ _ _, fun M' m => ⟨_, by simpa [hn1] using hgr, by simpa using hnA.mv m⟩⟩
  ·by_cases hroom' : xs.length + s.length ≤ cap
   ·have hcs' : cur.size = cap := by simpa [hn1] using hcs
    have hr := Lib.run_append_room_string (P := P) w t u ty' e i ht hu hi hsz g xs.length cap cur hg ⟨s.toArray⟩ (by rw [hss]; exact hroom') (by rw [hss, hcs']; exact hroom')
    refine ⟨_, _, hr, ⟨rfl, rfl, rfl, by simp, fun b hb hbg => setRow_other w g b _ (by simpa [blk, Value.ownBlock] using hbg)⟩, fun b hb => ?_, fun M' m => ⟨cells ++ Lib.strCells ⟨s.toArray⟩, ⟨hlen, .inr ⟨g, cap, _, by simp [dG, hss], Nat.zero_le _, setRow_heap w g cur _ e _ hg, by simpa [dG] using hroom', hcm, ?_, ?_⟩⟩, hA'.mv m⟩⟩
    ·have : b = g := by simpa [blk, Value.ownBlock] using hb
     subst this
     exact ⟨by simpa using (Array.getElem?_eq_some_iff.1 hg).1, .inl (by simp [blk, Value.ownBlock])⟩
    ·simp only [List.size_toArray, List.length_append, List.length_take, List.length_drop, Array.length_toList, hsl, hss, hn1]
     omega
    ·have ht' : cur.toList.take xs.length = cells := by simpa [hn1] using htake
     have e : ∀ (l : List Value), l.toArray.toList = l := fun l => by simp
     rw [e, ht', hn1, ← hlen]
     exact List.take_left
   ·have holds : ∀ j x, cells[j]? = some x → w.cell? ((⟨g, 0, none⟩ : Addr).add j) = some x := hown.cells (g := g) rfl
    have hr := Lib.run_append_grow_string (P := P) w t u ty' e i (.int .u8 0) ht hu hi hz ⟨g, 0, none⟩ xs.length cap cells (by rw [hsz]; omega) holds ⟨s.toArray⟩ (by rw [hss]; omega) (by rw [hss]; omega)
     (by rw [hss, hby]; exact growslice_fits (by omega) (by omega))
    have hgr := grown cap (by omega)
    rw [hss] at hr
    exact ⟨_, _, hr, hchg _ _, hnew _ _ _, fun M' m => ⟨_, by simpa [hn1] using hgr, hA'.mv m⟩⟩
theorem xV (t u ty' e : TypeId) (ht : P.underlying t = some (.slice e)) (hu : P.underlying u = some .string) (hti : TI P e 1 1 (.int .u8 0))
  {a0 : Option Addr} {s : Str} (hroom : aM s.length 1 = true) :
  ((Builtin.append_ #[t, u] ty' #[.slice a0 0 0, S s]).run P w = .ok (.slice a0 0 0) w ∧ s = []) ∨
  ∃ v' w', (Builtin.append_ #[t, u] ty' #[.slice a0 0 0, S s]).run P w = .ok v' w' ∧ Ext w w' ∧ (∀ b ∈ blk v', b < w'.heap.size ∧ w.heap.size ≤ b) ∧ (∀ M', Mv M w M' w' → OSl (RI .u8) e M' w' v' (bytesOf s)) := by
 obtain ⟨i, hi, hsz, hby, hz⟩ := hti.out
 by_cases hm : s = []
 ·subst hm
  refine .inl ⟨?_, rfl⟩
  have hf := Lib.run_firstCells_string (P := P) w 1 ⟨#[]⟩
  have e0 : (⟨#[]⟩ : ByteArray).size = 0 := rfl
  rw [e0] at hf
  cases a0 <;> simp [S, Builtin.append_, run_underlying ht, run_underlying hu, sizeOf, typeInfo, hi, hsz, Builtin.lenOf, hf, ByteArray.size, storeCells, Lib.strCells]
 ·refine .inr ?_
  cases a0 with
  | none =>
   obtain ⟨v', w', hr, hC, hR, hO⟩ := sq (M := M) (w := w) t u ty' e ht hu hti (OSl.nil) (s := s) (fun b hb => by simp [blk, Value.ownBlock] at hb) (by simpa using hroom)
   refine ⟨v', w', hr, ⟨hC.os, hC.tape, hC.output, hC.size, fun b hb => hC.block b hb (by simp [blk, Value.ownBlock])⟩, fun b hb => ⟨(hR b hb).1, ?_⟩, fun M' m => by simpa using hO M' m⟩
   rcases (hR b hb).2 with h | h
   ·simp [blk, Value.ownBlock] at h
   ·exact h
  | some ad =>
   have hss : (⟨s.toArray⟩ : ByteArray).size = s.length := iD s
   simp only [aM, Bool.and_eq_true, Nat.mul_one] at hroom
   have hb1 := Nat.le_of_ble_eq_true hroom.1
   have hb2 := Nat.le_of_ble_eq_true hroom.2
   have h0 : 0 < s.length := List.length_pos_iff.2 hm
   have hr := Lib.run_append_grow_string (P := P) w t u ty' e i (.int .u8 0) ht hu hi hz ad 0 0 [] (by simp) (by intro j v hj; simp at hj) ⟨s.toArray⟩ (by rw [hss]; omega) (by rw [hss]; omega) (by rw [hss, hby]; exact growslice_fits (by omega) (by omega))
   rw [hss] at hr
   simp only [Nat.zero_add] at hr
   have hr2 : (Builtin.append_ #[t, u] ty' #[.slice (some ad) 0 0, S s]).run P w = _ := hr
   have hge := grownCap_ge w s.length 0 e
   have hcm : grownCap w s.length 0 e ≤ maxLen := grownCap_le_maxLen w s.length 0 e (by simpa [maxLen] using hb2)
   have hsl : (Lib.strCells ⟨s.toArray⟩).length = s.length := by rw [Lib.strCells_length, hss]
   refine ⟨_, _, hr2, ⟨rfl, rfl, rfl, by simp, fun b hb => heap_alloc_old w.drew _ hb⟩, fun b hb => ?_, fun M' m => ⟨Lib.strCells ⟨s.toArray⟩, ⟨by simp [hsl, dG, RI], .inr ⟨w.heap.size, _, _, by simp [dG], Nat.zero_le _, heap_alloc_new w.drew _, by simpa [dG] using hge, hcm, ?_, ?_⟩⟩, (vx s)⟩⟩
   ·have : b = w.heap.size := by simpa [blk, Value.ownBlock] using hb
    subst this
    exact ⟨by simp, Nat.le_refl _⟩
   ·have hz1 : (Value.int IntKind.u8 0).cells.size = 1 := rfl
    simp only [Array.size_append, List.size_toArray, size_zeroCells, hz1, hsl, List.length_nil]
    show _ = _ * 1
    omega
   ·have e1 : (bytesOf s).length * (RI .u8).n = (Lib.strCells ⟨s.toArray⟩).length := by simp [dG, hsl, RI]
    rw [e1]
    simp
end
section
variable {P : Program} {ρ : Option Nat} {Q : aC} {n : Nat} {D : List Deferred} {E : Env} {w : World} {ops : Array Oper} {rest : List Oper} {Γ : Ctx} {i : Nat}
variable {d : Tmp} {ty : TypeId} {pos : String} {af : Array Edge}
/-! the bytes taken for a string -/
def Roomy (v : Value) : Prop := ∃ g len cap, v = .slice (some ⟨g, 0, none⟩) len (cap + 1)
theorem Jw {g : Bool} {dst : Option Tmp} {gd : Option (Nat × Bool)} {x : Operand} {v : SLV} {ts : Array TypeId} (hx : Opd E g x (sl v)) (hv : g = true → Roomy (sl v)) : Run P E g ⟨dst, .call ⟨.builtin .unsafeSliceData, #[x], ts⟩, ty, pos, af, gd⟩ w (.pointer v.1) :=
 fun n a hf hg => by
  obtain ⟨b, len, cap, e⟩ := hv hg
  obtain ⟨v1, v2, v3⟩ := v
  simp only [sl, Value.slice.injEq] at e
  obtain ⟨rfl, rfl, rfl⟩ := e
  have := Lib.run_unsafeSliceData_row (P := P) w ts ty ⟨b, 0, none⟩ v2 (cap + 1) (by omega)
  simp [execOp, resolve, invoke, builtin, hx n a hf hg, sl, this]
theorem tv {P : Program} {w : World} : ∀ (l : List Int) (a : Addr) (acc : ByteArray), (∀ (j : Nat) (x : Int), l[j]? = some x → w.cell? (a.add j) = some (.int .u8 x)) →
  (loadBytes a acc l.length).run P w = .ok ⟨acc.data ++ (strOf l).toArray⟩ w
 | [], a, acc, _ => by simp [loadBytes, strOf]
 | x :: l, a, acc, h => by
  have h0 : w.cell? a = some (.int .u8 x) := by
   have := h 0 x rfl
   simpa [Addr.add] using this
  have ih := tv (P := P) l (a.add 1) (acc.push (UInt8.ofNat x.toNat)) (fun j y hy => by
   have := h (j + 1) y (by simpa using hy)
   have e : (a.add 1).add j = a.add (j + 1) := by
    unfold Addr.add
    by_cases hj : j = 0
    ·subst hj; simp
    ·simp [hj]; omega
   rw [e]; exact this)
  simp only [List.length_cons, loadBytes, Sem.run_bind, run_load, h0, Result.andThen]
  have e2 : (x.toNat).toUInt8 = UInt8.ofNat x.toNat := rfl
  rw [e2, ih]
  congr 1
  apply ByteArray.ext
  simp [ByteArray.push, strOf]
end
end Go.Proofs.YtdhgpnejphlfpaaDoor
namespace Go.Proofs.YtdhgpnejphlfpaaDoor
open Go.Lib
theorem O {E : Env} {g : Bool} {t : Tmp} {v : Value} (h : look E t = some (true, v)) : Opd E g (.tmp t) v := Opd.t h
section
variable {P : Program} {ρ : Option Nat} {Q : aC} {n : Nat} {D : List Deferred} {E : Env} {w : World} {ops : Array Oper} {rest : List Oper}
end
theorem Sat.m (Γ : Ctx) {Δ : Ctx} {w : World} (h : Sat Δ w) (e : Δ = Γ) : Sat Γ w := e ▸ h
end Go.Proofs.YtdhgpnejphlfpaaDoor
namespace Go.Proofs.YtdhgpnejphlfpaaDoor
open Go.Lib
/-! models of functions that may panic -/
def bU {E A B : Type} (m : Option (Except E A)) (k : A → Option (Except E B)) : Option (Except E B) := m.bind fun a => match a with
 | .error p => some (.error p)
 | .ok x => k x
def Hy {E A B : Type} (m : Option (Except E A)) (kp : E → Option B) (k : A → Option B) : Option B := m.bind fun a => match a with
 | .error p => kp p
 | .ok x => k x
theorem Hz {E A B : Type} {m : Option (Except E A)} {kp : E → Option B} {k : A → Option B} {r : B} (h : Hy m kp k = some r) : (∃ p, m = some (.error p) ∧ kp p = some r) ∨ ∃ x, m = some (.ok x) ∧ k x = some r := by
 cases m with
 | none => cases h
 | some a =>
  cases a with
  | error p => exact .inl ⟨p, rfl, h⟩
  | ok x => exact .inr ⟨x, rfl, h⟩
abbrev pan (v : Value) : List PanicEntry := [{ v := v, recovered := false }]
abbrev CallsE (P : Program) (f : FuncId) (args : List Value) (w : World) {E A : Type} (r : Except E A) (enc : E → Value) (Φ : Ctx) (S : A → Value → World → Prop) : Prop :=
 iA P f args w (fun v w' => ∃ x, r = .ok x ∧ S x v w') (fun ps w' => ∃ p, r = .error p ∧ ps = pan (enc p) ∧ Sat Φ w')
section
variable {P : Program} {ρ : Option Nat} {Q : aC} {n : Nat} {D : List Deferred} {E : Env} {w : World} {ops : Array Oper} {rest : List Oper} {Φ : Ctx}
theorem J4 {x : Operand} {t : TypeId} {v : Value} {dst : Option Tmp} {ty : TypeId} {pos : String} {af : Array Edge} (hx : Opd E true x (.iface t v))
  (h : At Q (.panic (pan (.iface t v))) n D E w) : WL P ρ ops Q n D (⟨dst, .panic x, ty, pos, af, none⟩ :: rest) E w := fun a hf hD =>
 wpListIn_plain rfl fun K hK => ie rfl (by
  have e : (execOp a.eval (⟨dst, .panic x, ty, pos, af, none⟩ : Oper)).run P w = .halt (.panic (.iface t v)) w := by
   simp only [execOp, hx n a hf rfl]
   rfl
  rw [e]
  exact h a hf hD)
theorem M3 {fn : Func} {S : Value → World → Prop} {Sp : List PanicEntry → World → Prop} {ps : List PanicEntry} (h : Sp ps w) : AtP (BP P fn S Sp) ps [] w := fun a hd => by
 show LeavesInM _ _ _ _ _ _ a.defers _ _
 rw [hd]
 exact h
variable {g : Bool} {dst : Option Tmp} {ty : TypeId} {pos : String} {af : Array Edge} {gd : Option (Nat × Bool)}
theorem Ca {x : Operand} {v : Value} {s t : TypeId} {dd : TypeDesc} (ht : P.underlying t = some dd) (hd : jV dd = false) (hx : Opd E g x (.iface t v)) : Run P E g ⟨dst, .typeAssert x s t true, ty, pos, af, gd⟩ w (.tuple #[v, .bool true]) :=
 fun n a hf hg => by
  simp only [execOp, hx n a hf hg, Instr.typeAssert, Sem.run_bind, run_underlying ht, Result.andThen_ok]
  cases dd <;> first | (dsimp only; rw [if_pos rfl]; rfl) | (simp [jV] at hd)
theorem B5 {x : Operand} {z : Value} {s t : TypeId} {size bytes : Nat} {dd : TypeDesc} (ht : P.underlying t = some dd) (hd : jV dd = false) (hz : TI P t size bytes z) (hx : Opd E g x .nilIface) : Run P E g ⟨dst, .typeAssert x s t true, ty, pos, af, gd⟩ w (.tuple #[z, .bool false]) :=
 fun n a hf hg => by
  simp only [execOp, hx n a hf hg, Instr.typeAssert, Sem.run_bind, run_underlying ht, Result.andThen_ok]
  cases dd <;> first | (simp [jV] at hd; done) | (simp only [Sem.run_bind, hz.zero w, Result.andThen_ok, if_true]; rfl)
/-! a deferred call -/
def vJ (P : Program) (f : FuncId) (args : List Value) (u : FrameMode) (w : World) (R : FrameMode → World → Prop) : Prop :=
 CallsDIn (FW none) 0 P f args.toArray u w fun e u' w' => e = .returned (.tuple #[]) ∧ R u' w'
abbrev dfr (f : FuncId) (cap : List Value) : Deferred := { target := .fn (.func f) cap.toArray, args := #[] }
theorem Mi {f : FuncId} {fo : Operand} {cap : List Value} {tys : Array TypeId} {ty : TypeId} {pos : String} {af : Array Edge} (hfo : Opd E true fo (.func (.func f) #[] cap.toArray))
  (h : WL P none ops Q n (dfr f cap :: D) rest E w) : WL P none ops Q n D (⟨none, .defer ⟨.value fo, #[], tys⟩, ty, pos, af, none⟩ :: rest) E w := fun a hf hD =>
 wpListIn_plain rfl fun K hK => by
  refine ⟨fun _ _ => trivial, ?_⟩
  have e : ((⟨none, .defer ⟨.value fo, #[], tys⟩, ty, pos, af, none⟩ : Oper).semAt (FW none).round a.eval).run P w = .ok (.defer (dfr f cap)) w := by
   show (execOp a.eval (⟨none, .defer ⟨.value fo, #[], tys⟩, ty, pos, af, none⟩ : Oper)).run P w = _
   simp only [execOp, resolve, hfo n a hf rfl, Deferred.ofValue, Sem.run_bind, Sem.run_pure, Result.andThen_ok]
   rw [show (#[] ++ Array.map a.eval #[] : Array Value) = #[] by simp]
  rw [e, Oper.uponIn_defer]
  refine hK _ _ (h _ ⟨hf.size, hf.at_⟩ ?_)
  show dfr f cap :: a.defers = _
  rw [hD]
theorem yk {a : Act} (h : Fits n E a) (ds : List Deferred) : Fits n E { a with defers := ds } := ⟨h.size, h.at_⟩
theorem zl {fn : Func} {f : FuncId} {cap : List Value} {tmps : Array Value} {R : Ending → World → Prop} {u : FrameMode} {ds : List Deferred} (hu : u ≠ .run) (he : fH P f)
  (hc : vJ P f cap u w fun u' w' => LeavesInM (FW none) 0 P fn tmps R ds (settle u') w') : LeavesInM (FW none) 0 P fn tmps R (dfr f cap :: ds) u w := by
 refine ⟨hu, .inr ⟨rF, .func f, cap.toArray, f, cap.toArray, rfl, ?_, fun _ _ => trivial, ?_⟩⟩
 ·have := he cap.toArray w
  simpa [dfr, invoke] using this
 ·refine CallsDIn.mono hc fun e u' w' h => ?_
  obtain ⟨rfl, h⟩ := h
  exact h
theorem JU {fn : Func} {S : Value → World → Prop} {Sp : List PanicEntry → World → Prop} {f : FuncId} {cap : List Value} {T : World → Prop} (he : fH P f)
  (hc : vJ P f cap .returning w fun u' w' => u' = .returning ∧ T w') (h : ∀ w', T w' → At (BP P fn S Sp) .ret n [] E w') : At (BP P fn S Sp) .ret n [dfr f cap] E w := fun a hf hd => by
 show LeavesInM _ _ _ _ _ _ a.defers _ _
 rw [hd]
 refine zl (by simp) he (CallsDIn.mono hc fun e u' w' hx => ?_)
 obtain ⟨he', rfl, hT⟩ := hx
 exact ⟨he', h w' hT { a with defers := [] } (yk hf []) rfl⟩
theorem Nl {fn : Func} {S : Value → World → Prop} {Sp : List PanicEntry → World → Prop} {f : FuncId} {cap : List Value} {T : World → Prop} {v : Value} (he : fH P f)
  (hc : vJ P f cap (.panicking (pan v)) w fun u' w' => u' = .panicking [{ v := v, recovered := true }] ∧ T w') (h : ∀ w', T w' → At (BP P fn S Sp) .ret n [] E w') : At (BP P fn S Sp) (.panic (pan v)) n [dfr f cap] E w := fun a hf hd => by
 show LeavesInM _ _ _ _ _ _ a.defers _ _
 rw [hd]
 refine zl (by simp) he (CallsDIn.mono hc fun e u' w' hx => ?_)
 obtain ⟨he', rfl, hT⟩ := hx
 exact ⟨he', h w' hT { a with defers := [] } (yk hf []) rfl⟩
/-! the closure -/
def QB (T : World → Prop) : aC := fun e a w => match e with
 | .normal => a.defers = [] ∧ T w
 | .ret => a.defers = [] ∧ T w
 | _ => False
theorem P3 {T : World → Prop} (h : T w) : At (QB T) .normal n [] E w := fun _ _ hd => ⟨hd, h⟩
theorem PE {T : World → Prop} (h : T w) : At (QB T) .ret n [] E w := fun _ _ hd => ⟨hd, h⟩
def Co (o : Oper) : Bool := match o.op with
 | .move _ => true
 | .assign _ => true
 | .alloc _ => true
 | .extract _ _ => true
 | .store _ _ _ => true
 | .typeAssert _ _ _ _ => true
 | _ => false
def Dp : Result Next → Prop
 | .ok (.value _) _ => True
 | .ok .skip _ => True
 | .halt _ _ => True
 | _ => False
theorem Pu {m : Sem Value} {w : World} : Dp ((do pure (Next.value (← m)) : Sem Next).run P w) := by
 rw [Sem.run_bind]
 cases m.run P w <;> trivial
theorem O4 {m : Sem Unit} {w : World} : Dp ((do m; pure Next.skip : Sem Next).run P w) := by
 rw [Sem.run_bind]
 cases m.run P w <;> trivial
theorem Lz {o : Oper} (h : Co o = true) (ev : Operand → Value) (w : World) : Dp ((execOp ev o).run P w) := by
 obtain ⟨dst, op, ty, pos, af, g⟩ := o
 cases op <;> first | (cases h; done) | exact Pu | exact O4 | trivial
theorem Ew {ops : Array Oper} {Q' : aC} {QS : Exit → Act → List Frame → World → Prop} {cs : List Frame} (hQ : ∀ e a w, Q' e a w → QS e a cs w) : ∀ (l : List Oper) (k : Nat), l.all Co = true → (∀ j, l[j]? = ops[k + j]?) → ∀ (a : Act) (w : World), wpListIn (FW none) 0 P ops Q' l a w →
  wpOpsSIn (FW none) 0 P ops QS (List.range' k l.length) a cs w
 | [], k, _, _, a, w, h => hQ _ _ _ h
 | o :: l, k, hc, hk, a, w, h => by
  have h0 : ops[k]? = some o := by simpa using (hk 0).symm
  rw [List.all_cons, Bool.and_eq_true] at hc
  have ih := Ew (ops := ops) hQ l (k + 1) hc.2 (fun j => by have := hk (j + 1); simpa [Nat.add_assoc, Nat.add_comm 1 j] using this)
  rw [List.length_cons, List.range'_succ]
  simp only [wpOpsSIn, h0]
  simp only [wpListIn] at h
  refine ⟨fun _ _ => trivial, ?_⟩
  split at h
  ·rename_i hw
   rw [if_pos hw]
   have h2 := h.2
   have hcalm := Lz (P := P) hc.1 a.eval w
   rw [show (o.semAt (FW none).round a.eval) = execOp a.eval o from rfl] at h2
   generalize (execOp a.eval o).run P w = r at h2 hcalm
   cases r with
   | ok x w' =>
    cases x <;> first | exact hcalm.elim | exact ih _ _ h2
   | halt hh w' =>
    cases hh <;> first | exact hQ _ _ _ h2 | exact h2.elim
  ·rename_i hw
   rw [if_neg hw]
   exact ih _ _ h.2
theorem PD {fn : Func} {c₀ : Frame} {cs : List Frame} {T : World → Prop} {u' : FrameMode} (hres : fn.results = #[]) {e : Exit} {a : Act} {w : World} (h : QB T e a w) :
  bodyPostS P fn c₀ cs (fun e u2 w' => e = .returned (.tuple #[]) ∧ u2 = u' ∧ T w') e a ({ c₀ with mode := u' } :: cs) w := by
 have hr : (results fn a.tmps).run P w = .ok (.tuple #[]) w := by
  rw [zv, hres]; simp
 cases e <;> first | exact ⟨h.1, u', rfl, _, hr, rfl, rfl, h.2⟩ | exact h.elim
theorem AK {f : FuncId} {fn : Func} {id : Nat} {ops : Array Oper} {l : List Oper} {y : Code} {d : Tmp} {ty : TypeId} {pos : String} {af : Array Edge} {tys : Array TypeId} {cap : List Value} {u u' : FrameMode} {v : Value} {T : World → Prop}
  (hf : P.funcs[f]? = some fn) (hb : fn.body = some (.seq (.region id ops false) y)) (hops : ops.toList = ⟨some d, .call ⟨.builtin .recover, #[], tys⟩, ty, pos, af, none⟩ :: l) (hcalm : l.all Co = true) (hres : fn.results = #[]) (hn : fn.ntmps = n) (hl : Nat.ble cap.length n = true) (hd : Nat.blt d n = true)
  (hu : (u = .returning ∧ u' = .returning ∧ v = .nilIface) ∨ (u = .panicking (pan v) ∧ u' = .panicking [{ v := v, recovered := true }]))
  (h : WL P none ops (Exit.then (y.wpIn (FW none) 0 P (QB T)) (QB T)) n [] l ((d, true, v) :: iota 0 cap) w) : vJ P f cap u w fun u2 w' => u2 = u' ∧ T w' := by
 refine callsDIn_of_wpSIn hf hb trivial fun c₀ cs hc => ?_
 have hfits : Fits n (iota 0 cap) { tmps := cap.toArray ++ Array.replicate (fn.ntmps - cap.toArray.size) undef, defers := [] } := by
  refine ⟨?_, fun t g v ht => ?_⟩
  ·have : cap.length ≤ n := by simpa using hl
   simp [hn]; omega
  ·obtain ⟨j, rfl, hv, rfl⟩ := wj cap 0 t g v ht
   have hj : j < cap.length := by
    rcases Nat.lt_or_ge j cap.length with h | h
    ·exact h
    ·rw [List.getElem?_eq_none h] at hv; cases hv
   simp only [pK, cond_true, Nat.zero_add, Array.getD_eq_getD_getElem?]
   rw [Array.getElem?_append_left (by simpa using hj)]
   simp [hv]
 have hd0 : ({ tmps := cap.toArray ++ Array.replicate (fn.ntmps - cap.toArray.size) undef, defers := [] } : Act).defers = [] := rfl
 generalize ({ tmps := cap.toArray ++ Array.replicate (fn.ntmps - cap.toArray.size) undef, defers := [] } : Act) = a0 at hfits hd0
 refine wpSIn_seq (wpSIn_region ?_)
 have hsz : ops.size = l.length + 1 := by rw [← Array.length_toList, hops]; rfl
 rw [hsz, List.range_eq_range', List.range'_succ]
 have h0 : ops[0]? = some ⟨some d, .call ⟨.builtin .recover, #[], tys⟩, ty, pos, af, none⟩ := by
  rw [← Array.getElem?_toList, hops]; rfl
 have hj : ∀ j, l[j]? = ops[1 + j]? := fun j => by
  rw [← Array.getElem?_toList, hops, Nat.add_comm 1 j]; rfl
 have hrun : (execOp a0.eval (⟨some d, .call ⟨.builtin .recover, #[], tys⟩, ty, pos, af, none⟩ : Oper)).run P w = .ok .recover w := by
  simp [execOp, resolve, invoke, builtin]
 have hput : Fits n ((d, true, v) :: iota 0 cap) (a0.put (some d) v) := hfits.put (g := true) (v := v) hd
 have hfin := Ew (cs := { c₀ with mode := u' } :: cs) (QS := Exit.thenS (y.wpSIn (FW none) 0 P (bodyPostS P fn c₀ cs fun e u2 w' => e = .returned (.tuple #[]) ∧ u2 = u' ∧ T w')) (bodyPostS P fn c₀ cs fun e u2 w' => e = .returned (.tuple #[]) ∧ u2 = u' ∧ T w'))
  (fun e a w hq => by
   cases e with
   | normal => exact wpSIn_of_wpIn rfl (Code.wpIn_mono (fun e a w hq => PD hres hq) hq)
   | exit i => exact False.elim hq
   | goto i => exact False.elim hq
   | ret => exact PD (P := P) (c₀ := c₀) (cs := cs) (u' := u') (T := T) (e := .ret) hres hq
   | panic i => exact False.elim hq
   | outgrown => exact False.elim hq) l 1 hcalm hj _ _ (h _ hput hd0)
 simp only [wpOpsSIn, h0]
 refine ⟨fun _ _ => trivial, ?_⟩
 rw [if_pos (by simp [Region.wanted]), hrun]
 rcases hu with ⟨h1, h2, h3⟩ | ⟨h1, h2⟩
 ·have hrec : recoverD (c₀ :: cs) = none := by simp [recoverD, hc, h1]
  have hce : ({ c₀ with mode := u' } : Frame) = c₀ := by rw [h2, ← h1, ← hc]
  simp only [hrec]
  rw [hce, h3] at hfin
  exact hfin
 ·have hrec : recoverD (c₀ :: cs) = some (v, { c₀ with mode := u' } :: cs) := by simp [recoverD, hc, h1, h2, pan]
  simp only [hrec]
  exact hfin
end
end Go.Proofs.YtdhgpnejphlfpaaDoor
namespace Go.Proofs.YtdhgpnejphlfpaaDoor
inductive Ex where
 | mk (op n at_ : Int) (l : List Ex)
instance : Inhabited Ex := ⟨.mk 0 0 0 []⟩
def Ex.op : Ex → Int
 | .mk o _ _ _ => o
def Ex.n : Ex → Int
 | .mk _ n _ _ => n
def Ex.at_ : Ex → Int
 | .mk _ _ a _ => a
def Ex.l : Ex → List Ex
 | .mk _ _ _ l => l
mutual
def Ex.sz : Ex → Nat
 | .mk _ _ _ l => szL l + 1
def szL : List Ex → Nat
 | [] => 0
 | x :: r => Ex.sz x + szL r
end
theorem Ex.KW (e : Ex) : e.sz = szL e.l + 1 := by cases e; simp only [Ex.sz, Ex.l]
inductive nt (M : Nat → Prop) (w : World) : List Value → Ex → Prop
 | nil (op n a : Int) (ad : Option Addr) : nt M w [.int .i64 op, .int .i64 n, .int .i64 a, sl (ad, 0, 0)] (.mk op n a [])
 | some (op n a : Int) (l : List Ex) (b off cap : Nat) (cs : Array Value) (e : TypeId) (fr : Nat × Nat) (hM : ¬ M b) (hb : w.heap[b]? = some (.cells cs e fr)) (hc : l.length ≤ cap) (ho : off + cap * 4 ≤ cs.size)
   (hl : ((cs.toList.drop off).take (l.length * 4)).length = l.length * 4) (h : ∀ i (hi : i < l.length), nt M w ((((cs.toList.drop off).take (l.length * 4)).drop (i * 4)).take 4) l[i]) :
   nt M w [.int .i64 op, .int .i64 n, .int .i64 a, sl (some ⟨b, off, none⟩, l.length, cap)] (.mk op n a l)
theorem nt.len {M : Nat → Prop} {w : World} {vs : List Value} {x : Ex} (h : nt M w vs x) : vs.length = 4 := by cases h <;> rfl
theorem nt.mv {M M' : Nat → Prop} {w w' : World} {vs : List Value} {x : Ex} (h : nt M w vs x) (m : Mv M w M' w') : nt M' w' vs x := by
 induction h with
 | nil op n a ad => exact .nil op n a ad
 | some op n a l b off cap cs e fr hM hb hc ho hl _ ih =>
  obtain ⟨h1, h2⟩ := m.2 b (Array.getElem?_eq_some_iff.1 hb).1 hM
  exact .some op n a l b off cap cs e fr h1 (by rw [h2]; exact hb) hc ho hl ih
def uy : Rep Ex where
 n := 4
 rd := nt
 len := nt.len
 one h := by cases h <;> simp [Value.oneCell', sl]
 mv := nt.mv
theorem uF {M : Nat → Prop} {w : World} {vs : List Value} {x : Ex} (h : uy.rd M w vs x) : ∃ v : SLV, vs = [(.int .i64 x.op), (.int .i64 x.n), (.int .i64 x.at_), (sl v)] ∧ SRd uy M w (sl v) x.l := by
 cases h with
 | nil op n a ad => exact ⟨_, rfl, .inl ⟨⟨_, rfl⟩, rfl⟩⟩
 | some op n a l b off cap cs e fr hM hb hc ho hl h => exact ⟨_, rfl, .inr ⟨b, off, cap, cs, e, fr, rfl, hM, hb, hc, ho, hl, h⟩⟩
theorem x6 {M : Nat → Prop} {w : World} {op n a : Int} {v : Value} {l : List Ex} (h : (RSl uy).rd M w [v] l) : uy.rd M w [(.int .i64 op), (.int .i64 n), (.int .i64 a), v] (.mk op n a l) := by
 obtain ⟨p, hp, h⟩ := h
 have hv : v = sl p := by simpa using hp
 subst hv
 rcases h with ⟨⟨ad, h⟩, rfl⟩ | ⟨b, off, cap, cs, e, fr, h, hM, hb, hc, ho, hl, hr⟩
 ·rw [h]; exact .nil op n a ad
 ·rw [h]; exact .some op n a l b off cap cs e fr hM hb hc ho hl hr
theorem Ex.eta (x : Ex) : Ex.mk x.op x.n x.at_ x.l = x := by cases x; rfl
end Go.Proofs.YtdhgpnejphlfpaaDoor
namespace Go.Proofs.YtdhgpnejphlfpaaDoor
open Go.Lib
abbrev ifS {α : Type} (c : Bool) (a b : α) : α := match c with
 | true => a
 | false => b
inductive Ty where
 | i (k : IntKind)
 | bo
 | s
 | un
 | n
 | p (x y : Ty)
 | l (x : Ty)
 | mp (k v : Ty)
 | ex
 deriving DecidableEq
def Ty.T : Ty → Type
 | .i _ => Int
 | .bo => Bool
 | .s => Str
 | .un => Unit
 | .n => Nat
 | .p x y => x.T × y.T
 | .l x => List x.T
 | .mp k v => Option (List (k.T × v.T))
 | .ex => Ex
def RNo (α : Type) : Rep α where
 n := 0
 rd _ _ _ _ := False
 len h := h.elim
 one h := h.elim
 mv h _ := h.elim
def Ty.rep : (t : Ty) → Rep t.T
 | .i k => RI k
 | .bo => RB
 | .s => RS
 | .un => RU
 | .n => RNo _
 | .p x y => RP x.rep y.rep
 | .l x => RSl x.rep
 | .mp _ _ => RNo _
 | .ex => uy
structure Dyn where
 t : Ty
 x : t.T
def Dyn.as (t : Ty) (d : Dyn) : Option t.T := if h : d.t = t then some (h ▸ d.x) else none
theorem Dyn.xw {t : Ty} {d : Dyn} {x : t.T} (h : d.as t = some x) : d = ⟨t, x⟩ := by
 unfold Dyn.as at h
 split at h
 ·rename_i e
  obtain ⟨t', y⟩ := d
  simp only at e
  subst e
  cases h; rfl
 ·cases h
theorem Dyn.NP {t : Ty} {x : t.T} : Dyn.as t ⟨t, x⟩ = some x := by simp [Dyn.as]
inductive AV where
 | int (k : IntKind) (x : Int)
 | bool (x : Bool)
 | str (x : Str)
 | agg (l : List AV)
 | tuple (l : List AV)
 | ptr (id off : Nat)
 | sl (id : Nat)
 | adr (id off : Nat)
 | fn (f : FuncId) (a b : List AV)
 | ifc (t : TypeId) (v : AV)
 | mp (id : Nat)
 | gp (b : Nat)
 | nv (id : Nat)
 | sfp (id : Nat) (f : Bool)
 | raw (v : Value)
structure Nm where
 b : Nat
 v : SLV
 a : Addr
 m : Option Nat
 x : Value
 y : Dyn
abbrev Nms := Nat → Nm
def nm0 : Nm := ⟨0, (none, 0, 0), ⟨0, 0, none⟩, none, .bool false, ⟨.un, ()⟩⟩
mutual
def AV.val (ρ : Nms) : AV → Value
 | .int k x => .int k x
 | .bool x => .bool x
 | .str x => S x
 | .agg l => .agg (AV.ae ρ l).toArray
 | .tuple l => .tuple (AV.ae ρ l).toArray
 | .ptr id off => .pointer (some ⟨(ρ id).b, off, none⟩)
 | .sl id => Go.Proofs.YtdhgpnejphlfpaaDoor.sl (ρ id).v
 | .adr id off => .pointer (some ((ρ id).a.add off))
 | .fn f a b => .func (.func f) (AV.ae ρ a).toArray (AV.ae ρ b).toArray
 | .ifc t v => .iface t (v.val ρ)
 | .mp id => .map (ρ id).m
 | .gp b => .pointer (some ⟨b, 0, none⟩)
 | .nv id => (ρ id).x
 | .sfp id f => pY f (ρ id).b
 | .raw v => v
def AV.ae (ρ : Nms) : List AV → List Value
 | [] => []
 | v :: l => v.val ρ :: AV.ae ρ l
end
mutual
def AV.low (c : Nat) : AV → Bool
 | .agg l | .tuple l => AV.aY c l
 | .fn _ a b => AV.aY c a && AV.aY c b
 | .ifc _ v => v.low c
 | .ptr id _ | .sl id | .adr id _ | .mp id | .nv id | .sfp id _ => Nat.blt id c
 | _ => true
def AV.aY (c : Nat) : List AV → Bool
 | [] => true
 | v :: l => v.low c && AV.aY c l
end
def ax (c : Nat) (ρ ρ' : Nms) : Prop := ∀ j, j < c → ρ' j = ρ j
theorem ax.refl {c : Nat} {ρ : Nms} : ax c ρ ρ := fun _ _ => rfl
theorem ax.trans {c d : Nat} {a b e : Nms} (h : ax c a b) (k : ax d b e) (hcd : c ≤ d) : ax c a e := fun j hj => (k j (Nat.lt_of_lt_of_le hj hcd)).trans (h j hj)
theorem ax.less {c d : Nat} {a b : Nms} (h : ax d a b) (hcd : c ≤ d) : ax c a b := fun j hj => h j (Nat.lt_of_lt_of_le hj hcd)
mutual
theorem AV.iF {ρ ρ' : Nms} {c : Nat} (ha : ax c ρ ρ') : (v : AV) → v.low c = true → v.val ρ' = v.val ρ
 | .int _ _, _ | .bool _, _ | .str _, _ | .raw _, _ | .gp _, _ => by simp only [AV.val]
 | .agg l, h => by simp only [AV.val]; rw [AV.aX ha l (by simpa only [AV.low] using h)]
 | .tuple l, h => by simp only [AV.val]; rw [AV.aX ha l (by simpa only [AV.low] using h)]
 | .fn _ a b, h => by
  simp only [AV.low, Bool.and_eq_true] at h
  simp only [AV.val]; rw [AV.aX ha a h.1, AV.aX ha b h.2]
 | .ifc _ v, h => by simp only [AV.val]; rw [AV.iF ha v (by simpa only [AV.low] using h)]
 | .ptr _ _, h => by simp only [AV.val]; rw [ha _ (by simpa only [AV.low, Nat.blt_eq] using h)]
 | .sl _, h => by simp only [AV.val]; rw [ha _ (by simpa only [AV.low, Nat.blt_eq] using h)]
 | .adr _ _, h => by simp only [AV.val]; rw [ha _ (by simpa only [AV.low, Nat.blt_eq] using h)]
 | .mp _, h => by simp only [AV.val]; rw [ha _ (by simpa only [AV.low, Nat.blt_eq] using h)]
 | .nv _, h => by simp only [AV.val]; rw [ha _ (by simpa only [AV.low, Nat.blt_eq] using h)]
 | .sfp _ _, h => by simp only [AV.val]; rw [ha _ (by simpa only [AV.low, Nat.blt_eq] using h)]
theorem AV.aX {ρ ρ' : Nms} {c : Nat} (ha : ax c ρ ρ') : (l : List AV) → AV.aY c l = true → AV.ae ρ' l = AV.ae ρ l
 | [], _ => by simp only [AV.ae]
 | v :: l, h => by
  simp only [AV.aY, Bool.and_eq_true] at h
  simp only [AV.ae]
  rw [AV.iF ha v h.1, AV.aX ha l h.2]
end
mutual
theorem AV.dK {c d : Nat} (hcd : c ≤ d) : (v : AV) → v.low c = true → v.low d = true
 | .int _ _, _ | .bool _, _ | .str _, _ | .raw _, _ | .gp _, _ => by simp only [AV.low]
 | .agg l, h => by simp only [AV.low] at h ⊢; exact AV.gI hcd l h
 | .tuple l, h => by simp only [AV.low] at h ⊢; exact AV.gI hcd l h
 | .fn _ a b, h => by simp only [AV.low, Bool.and_eq_true] at h ⊢; exact ⟨AV.gI hcd a h.1, AV.gI hcd b h.2⟩
 | .ifc _ v, h => by simp only [AV.low] at h ⊢; exact AV.dK hcd v h
 | .ptr _ _, h => by simp only [AV.low, Nat.blt_eq] at h ⊢; omega
 | .sl _, h => by simp only [AV.low, Nat.blt_eq] at h ⊢; omega
 | .adr _ _, h => by simp only [AV.low, Nat.blt_eq] at h ⊢; omega
 | .mp _, h => by simp only [AV.low, Nat.blt_eq] at h ⊢; omega
 | .nv _, h => by simp only [AV.low, Nat.blt_eq] at h ⊢; omega
 | .sfp _ _, h => by simp only [AV.low, Nat.blt_eq] at h ⊢; omega
theorem AV.gI {c d : Nat} (hcd : c ≤ d) : (l : List AV) → AV.aY c l = true → AV.aY d l = true
 | [], _ => by simp only [AV.aY]
 | v :: l, h => by
  simp only [AV.aY, Bool.and_eq_true] at h ⊢
  exact ⟨AV.dK hcd v h.1, AV.gI hcd l h.2⟩
end
theorem yb {c : Nat} : {l m : List AV} → AV.aY c l = true → AV.aY c m = true → AV.aY c (l ++ m) = true
 | [], m, _, h => h
 | v :: l, m, h, k => by
  simp only [List.cons_append, AV.aY, Bool.and_eq_true] at h ⊢
  exact ⟨h.1, yb h.2 k⟩
theorem AV.El {ρ : Nms} {l : List AV} {i : Nat} {v : AV} (h : l[i]? = some v) : (AV.ae ρ l)[i]? = some (v.val ρ) := by
 induction l generalizing i with
 | nil => simp at h
 | cons u l ih =>
  cases i with
  | zero => simp at h; subst h; simp [AV.ae]
  | succ i => simp only [AV.ae, List.getElem?_cons_succ] at h ⊢; exact ih h
theorem AV.eP {ρ : Nms} : {l : List AV} → {k : Nat} → AV.ae ρ (l.drop k) = (AV.ae ρ l).drop k
 | l, 0 => by simp
 | [], k + 1 => by simp [AV.ae]
 | v :: l, k + 1 => by simp only [AV.ae, List.drop_succ_cons]; exact AV.eP
theorem AV.iE {ρ : Nms} : {l : List AV} → {k : Nat} → AV.ae ρ (l.take k) = (AV.ae ρ l).take k
 | l, 0 => by simp [AV.ae]
 | [], k + 1 => by simp [AV.ae]
 | v :: l, k + 1 => by simp only [AV.ae, List.take_succ_cons]; rw [AV.iE]
theorem AV.aK {ρ : Nms} : {l : List AV} → (AV.ae ρ l).length = l.length
 | [] => by simp [AV.ae]
 | v :: l => by simp [AV.ae, AV.aK]
theorem cE {ρ : Nms} : {l m : List AV} → AV.ae ρ (l ++ m) = AV.ae ρ l ++ AV.ae ρ m
 | [], m => by simp [AV.ae]
 | v :: l, m => by simp only [List.cons_append, AV.ae]; rw [cE]
abbrev GK := Option (Nat × Bool)
inductive Row where
 | box (id : Nat) (t : TypeId) (vs : List AV)
 | sli (g : GK) (id : Nat) (t : Ty) (l : List t.T) (clip : Bool)
 | own (id : Nat) (t : Ty) (e : TypeId) (l : List t.T) (ver : Nat)
 | kn (g : GK) (q id ver : Nat) (t : Ty) (i : Int) (x : t.T)
 | elm (g : GK) (id : Nat) (vs : List AV)
 | mp (id : Nat) (k v : Ty) (d : Option (List (k.T × v.T)))
 | it (id : Nat) (s : Str) (p : Nat)
 | eq (id : Nat) (v : AV)
 | gone
inductive Pt where
 | int (k : IntKind) | bool | str
 | sli (t : Ty)
 | own (t : Ty) (e : TypeId) (m : Bool)
 | slr (n : Nat)
 | bx (t : TypeId) (off : Nat) (m : Bool) (vs : List Pt)
 | ptr (n off : Nat)
 | mp (k v : Ty) (m : Bool)
 | it
 | agg (l : List Pt) | tup (l : List Pt)
 | fn (f : FuncId) (a b : List Pt)
 | ifc (t : TypeId) (p : Pt)
 | cst (v : AV)
 | dat (t : Ty) (o : List (Option TypeId))
 | sfp
 | same
abbrev aj := List (Nat × GK × AV)
structure Tm where
 vs : List (Bool × Nat × Pt)
 th : List Nat
inductive HT where
 | o
 | c (a b : HT)
 | l (t : Tm) (a : HT)
 | j (t : Tm) (a b : HT)
 | s (a : HT)
 | n (k : Nat) (a : HT)
 | r (th : List Nat) (a : HT)
structure StB where
 c : Nat
 E : aj
 G : List Row
 h : HT
structure Fr where
 F : aj
 H : List Row
 n : Nat
inductive XE where
 | nrm | ret
 | ext (i : Nat)
 | gto (l : Nat)
 | pan (v : AV)
 | panE (v : AV)
/-! what rows say -/
def AN : Bool → Bool → Bool
 | true, b => b
 | false, b => !b
theorem Fl : {a b : Bool} → AN a b = true → a = b
 | true, _, h => h.symm
 | false, b, h => by cases b <;> simp_all [AN]
theorem Ji : (a : Bool) → AN a a = true
 | true => rfl
 | false => rfl
def GK.eq : GK → GK → Bool
 | none, none => true
 | some (j, p), some (k, q) => Nat.beq j k && AN p q
 | _, _ => false
theorem GK.eq_eq : {a b : GK} → a.eq b = true → a = b
 | none, none, _ => rfl
 | some (j, p), some (k, q), h => by
  simp only [GK.eq, Bool.and_eq_true] at h
  rw [Nat.eq_of_beq_eq_true h.1, Fl h.2]
abbrev Tbl := List ((Nat × Bool) × GK × Nat × Bool)
def oD (p b : Bool) : Bool := match p with
 | true => b
 | false => !b
theorem xr (p b : Bool) : oD p b = (b == p) := by cases p <;> cases b <;> rfl
def Tbl.get : Tbl → GK → Bool
 | _, none => true
 | [], some _ => false
 | (k, par, _, b) :: T, some k' => ifS ( GK.eq (some k) (some k') ) ( (Tbl.get T par && oD k.2 b) ) <| Tbl.get T (some k')
@[simp] theorem Tbl.get_none {T : Tbl} : T.get none = true := by cases T <;> rfl
theorem Tbl.ym {k : Nat × Bool} {par : GK} {rj : Nat} {b : Bool} {T : Tbl} {x : GK} (h : (!(GK.eq (some k) x)) = true) : Tbl.get ((k, par, rj, b) :: T) x = T.get x := by
 cases x with
 | none => simp
 | some k' =>
  simp only [Tbl.get]
  cases hb : GK.eq (some k) (some k')
  ·rfl
  ·rw [hb] at h; cases h
theorem GK.Fq : (k : Nat × Bool) → GK.eq (some k) (some k) = true := fun k => by simp [GK.eq, Ji]
theorem Tbl.Kw {k : Nat × Bool} {par : GK} {rj : Nat} {b : Bool} {T : Tbl} : Tbl.get ((k, par, rj, b) :: T) (some k) = (T.get par && oD k.2 b) := by
 simp only [Tbl.get, GK.Fq]
def slR (p : SLV) : List Nat := match p.2.2 with
 | 0 => []
 | _ + 1 => blk (sl p)
section
variable {α : Type} {A : Rep α} {e : TypeId} {M M' : Nat → Prop} {w w' : World}
theorem Own.canon {p : SLV} {xs : List α} {R : List Nat} (h : Own A e M w (sl p) xs R) : (∀ b ∈ slR p, b ∈ R) ∧ ∀ (M' : Nat → Prop) (w' : World), Own A e M' w' (sl p) xs R → Own A e M' w' (sl p) xs (slR p) := by
 obtain ⟨a, n, cap⟩ := p
 cases cap with
 | zero =>
  refine ⟨fun b hb => (by cases hb), fun M' w' h' => ?_⟩
  have hx : xs = [] := by
   rcases h' with ⟨_, h'⟩ | ⟨_, h', _⟩
   ·obtain ⟨cells, ⟨_, h2⟩, _⟩ := h'
    rcases h2 with ⟨_, h0⟩ | ⟨g, c, cur, hv, hg, hh, hc, r⟩
    ·exact List.eq_nil_of_length_eq_zero h0
    ·simp only [sl, Value.slice.injEq] at hv
     exact List.eq_nil_of_length_eq_zero (by omega)
   ·exact h'
  obtain ⟨a', c', hl⟩ := h'.len
  simp only [sl, Value.slice.injEq] at hl
  have hn : n = 0 := by rw [hl.2.1, hx]; rfl
  subst hn
  exact .inr ⟨rfl, hx, ⟨a, rfl⟩, SRd.emp⟩
 | succ c =>
  have key : ∀ (M' : Nat → Prop) (w' : World), Own A e M' w' (sl (a, n, c + 1)) xs R → R = blk (sl (a, n, c + 1)) := fun M' w' h' => by
   rcases h' with ⟨h', _⟩ | ⟨_, _, ⟨a', h'⟩, _⟩
   ·exact h'
   ·simp only [sl, Value.slice.injEq] at h'; omega
  have hR := key _ _ h
  subst hR
  exact ⟨fun b hb => hb, fun M' w' h' => h'⟩
theorem Own.wm {p : SLV} {xs : List α} {R : List Nat} (h : Own A e M w (sl p) xs R) : Own A e M w (sl p) xs (slR p) := h.canon.2 _ _ h
def qI (A : Rep α) (e : TypeId) (p : SLV) (l : List α) (q : Prop) : Item where
 own := slR p
 P M w := Own A e M w (sl p) l (slR p) ∧ q
 lt h := h.1.lt
 bC h m k _ := ⟨h.1.bC k m, h.2⟩
 cC := false
 hp h := by cases h
def vQ (g : Bool) (A : Rep α) (p : SLV) (l : List α) (clip : Bool) : Item where
 own := []
 P M w := g = true → SRd A M w (sl p) l ∧ (clip = true → p.2.2 = l.length)
 lt _ b hb := by cases hb
 bC h m _ _ := fun hg => ⟨(h hg).1.mv m, (h hg).2⟩
 cC := true
 hp _ := rfl
def Ci (p : Prop) : Item where
 own := []
 P _ _ := p
 lt _ b hb := by cases hb
 bC h _ _ _ := h
 cC := true
 hp _ := rfl
end
def ta : (t : Ty) → t.T → Value
 | .i k, x => .int k x
 | .s, x => S x
 | .bo, x => .bool x
 | _, _ => .bool false
def Row.item (ρ : Nms) (T : Tbl) : Row → Item
 | .box id t vs => Go.Proofs.YtdhgpnejphlfpaaDoor.box (ρ id).b t (AV.ae ρ vs)
 | .sli g id t l b => vQ (T.get g) t.rep (ρ id).v l b
 | .own id t e l ver => qI t.rep e (ρ id).v l ((ρ ver).y = ⟨.l t, l⟩)
 | .kn g q id ver t i x => Ci (T.get g = true → ∃ l : List t.T, (ρ ver).y = ⟨.l t, l⟩ ∧ idx l i = some x ∧ (ρ q).a = elA (Go.Proofs.YtdhgpnejphlfpaaDoor.sl (ρ id).v) i t.rep.n)
 | .elm g id vs => elem (T.get g) (ρ id).a (AV.ae ρ vs)
 | .mp id k v d => omap (ta k) (ta v) (.map (ρ id).m) d
 | .it id s p => iter (ρ id).b s p
 | .eq id v => Ci ((ρ id).x = v.val ρ)
 | .gone => Ci True
abbrev items (ρ : Nms) (T : Tbl) (G : List Row) : Ctx := G.map (Row.item ρ T)
def Row.low (c : Nat) : Row → Bool
 | .box id _ vs => Nat.blt id c && AV.aY c vs
 | .sli _ id _ _ _ | .mp id _ _ _ | .it id _ _ => Nat.blt id c
 | .own id _ _ _ ver => Nat.blt id c && Nat.blt ver c
 | .kn _ q id ver _ _ _ => Nat.blt q c && Nat.blt id c && Nat.blt ver c
 | .elm _ id vs => Nat.blt id c && AV.aY c vs
 | .eq id v => Nat.blt id c && v.low c
 | .gone => true
def aO (c : Nat) : List Row → Bool
 | [] => true
 | r :: G => r.low c && aO c G
theorem Row.qe {ρ ρ' : Nms} {T : Tbl} {c : Nat} (ha : ax c ρ ρ') {r : Row} (h : r.low c = true) : r.item ρ' T = r.item ρ T := by
 cases r <;> simp only [Row.low, Bool.and_eq_true, Nat.blt_eq] at h
 ·simp only [Row.item]; rw [ha _ h.1, AV.aX ha _ h.2]
 ·simp only [Row.item]; rw [ha _ h]
 ·simp only [Row.item]; rw [ha _ h.1, ha _ h.2]
 ·simp only [Row.item]; rw [ha _ h.1.1, ha _ h.1.2, ha _ h.2]
 ·simp only [Row.item]; rw [ha _ h.1, AV.aX ha _ h.2]
 ·simp only [Row.item]; rw [ha _ h]
 ·simp only [Row.item]; rw [ha _ h]
 ·simp only [Row.item]; rw [ha _ h.1, AV.iF ha _ h.2]
 ·simp only [Row.item]
theorem aE {ρ ρ' : Nms} {T : Tbl} {c : Nat} (ha : ax c ρ ρ') : {G : List Row} → aO c G = true → items ρ' T G = items ρ T G
 | [], _ => rfl
 | r :: G, h => by
  simp only [aO, Bool.and_eq_true] at h
  simp only [items, List.map_cons]
  rw [Row.qe ha h.1]
  have := aE (T := T) ha h.2
  simp only [items] at this
  rw [this]
def aj.env (ρ : Nms) (T : Tbl) : aj → Env
 | [] => []
 | (t, g, v) :: E => (t, T.get g, v.val ρ) :: aj.env ρ T E
def aj.low (c : Nat) : aj → Bool
 | [] => true
 | x :: E => x.2.2.low c && aj.low c E
theorem kU {ρ ρ' : Nms} {T : Tbl} {c : Nat} (ha : ax c ρ ρ') : {E : aj} → E.low c = true → aj.env ρ' T E = aj.env ρ T E
 | [], _ => rfl
 | (t, g, v) :: E, h => by
  simp only [aj.low, Bool.and_eq_true] at h
  simp only [aj.env]
  rw [AV.iF ha v h.1, kU ha h.2]
def StB.low (fr : Fr) (st : StB) : Bool := aj.low st.c st.E && aj.low st.c fr.F && aO st.c st.G && aO st.c fr.H
def Nms.set (ρ : Nms) (j : Nat) (x : Nm) : Nms := fun i => ifS (Nat.beq i j) x (ρ i)
theorem Nms.aV {ρ : Nms} {j : Nat} {x : Nm} : ρ.set j x j = x := by simp [Nms.set]
theorem Nms.aF {ρ : Nms} {j : Nat} {x : Nm} : ax j ρ (ρ.set j x) := fun i hi => by
 unfold Nms.set
 have : Nat.beq i j = false := by
  cases hb : Nat.beq i j
  ·rfl
  ·exact absurd (Nat.eq_of_beq_eq_true hb) (Nat.ne_of_lt hi)
 rw [this]
def gB (E' E : Env) : Prop := ∀ t p, look E' t = some p → look E t = some p
theorem gB.refl {E : Env} : gB E E := fun _ _ h => h
theorem gB.trans {A B C : Env} (h : gB A B) (k : gB B C) : gB A C := fun t p hp => k t p (h t p hp)
theorem Fits.jh {n : Nat} {E E' : Env} {a : Act} (h : Fits n E a) (hs : gB E' E) : Fits n E' a := ⟨h.size, fun t g v ht => h.at_ t g v (hs t _ ht)⟩
theorem WC.jh {P : Program} {ρ : Option Nat} {c : Code} {Q : aC} {n : Nat} {D : List Deferred} {E : Env} {w : World} (E' : Env) (hs : gB E' E) (h : WC P ρ c Q n D E' w) : WC P ρ c Q n D E w :=
 fun a hf hd => h a (hf.jh hs) hd
theorem At.jh {e : Exit} {Q : aC} {n : Nat} {D : List Deferred} {E : Env} {w : World} (E' : Env) (hs : gB E' E) (h : At Q e n D E' w) : At Q e n D E w :=
 fun a hf hd => h a (hf.jh hs) hd
theorem s6 {A B : Env} {t : Nat} : look (A ++ B) t = match look A t with
  | some p => some p
  | none => look B t := by
 induction A with
 | nil => rfl
 | cons x A ih =>
  obtain ⟨r, g, v⟩ := x
  simp only [List.cons_append, look]
  cases Nat.beq r t
  ·simp only [cond_false]; exact ih
  ·rfl
theorem jQ {ρ : Nms} {T : Tbl} : {E F : aj} → aj.env ρ T (E ++ F) = aj.env ρ T E ++ aj.env ρ T F
 | [], _ => rfl
 | (t, g, v) :: E, F => by simp only [List.cons_append, aj.env]; rw [jQ]
theorem aG {ρ : Nms} {T : Tbl} {G H : List Row} : items ρ T (G ++ H) = items ρ T G ++ items ρ T H := List.map_append
end Go.Proofs.YtdhgpnejphlfpaaDoor
namespace Go.Proofs.YtdhgpnejphlfpaaDoor
open Go.Lib
theorem al {α : Type} {c : Bool} {a : Option α} {r : α} (h : ifS c a none = some r) : c = true ∧ a = some r := by
 cases c
 ·cases h
 ·exact ⟨rfl, h⟩
theorem HA {α : Type} {c : Bool} {a : Option α} {r : α} (h : ifS c none a = some r) : c = false ∧ a = some r := by
 cases c
 ·exact ⟨rfl, h⟩
 ·cases h
theorem cW {α : Type} {c : Bool} {a b : Option α} {r : α} (h : ifS c a b = some r) : (c = true ∧ a = some r) ∨ (c = false ∧ b = some r) := by
 cases c
 ·exact .inr ⟨rfl, h⟩
 ·exact .inl ⟨rfl, h⟩
def Tbl.imp : Tbl → GK → GK → Bool
 | _, _, none => true
 | [], _, some _ => false
 | _, none, some _ => false
 | (k, par, _, _) :: T, some g, some g' => GK.eq (some g) (some g') || (ifS ( GK.eq (some k) (some g) ) ( Tbl.imp T par (some g') ) <| Tbl.imp T (some g) (some g')) && !(GK.eq (some k) (some g'))
theorem Tbl.gR : {T : Tbl} → {g g' : GK} → T.imp g g' = true → T.get g = true → T.get g' = true
 | T, g, none, _, _ => by simp
 | [], g, some g', h, _ => by simp [Tbl.imp] at h
 | _ :: _, none, some g', h, _ => by simp [Tbl.imp] at h
 | (k, par, rj, b) :: T, some g, some g', h, hg => by
  simp only [Tbl.imp, Bool.or_eq_true, Bool.and_eq_true] at h
  rcases h with h | ⟨h1, h2⟩
  ·rw [← GK.eq_eq h]; exact hg
  ·rw [Tbl.ym h2]
   cases hb : GK.eq (some k) (some g)
   ·rw [hb] at h1
    rw [Tbl.ym (by rw [hb]; rfl)] at hg
    exact Tbl.gR h1 hg
   ·rw [hb] at h1
    simp only [Tbl.get, hb, Bool.and_eq_true] at hg
    exact Tbl.gR h1 hg.1
def aH : aj → Nat → Option (GK × AV)
 | [], _ => none
 | (r, g, v) :: E, t => ifS ( Nat.beq r t ) ( some (g, v) ) <| aH E t
def cN (E F : aj) (t : Nat) : Option (GK × AV) := match aH E t with
 | some x => some x
 | none => aH F t
theorem mn {ρ : Nms} {T : Tbl} {t : Nat} : {E : aj} → look (aj.env ρ T E) t = (aH E t).map fun x => (T.get x.1, x.2.val ρ)
 | [] => rfl
 | (r, g', v') :: E => by
  simp only [aH, aj.env, look]
  cases hb : Nat.beq r t
  ·simp only [cond_false]; exact mn
  ·rfl
abbrev ai (ρ : Nms) (T : Tbl) (E F : aj) : Env := aj.env ρ T E ++ aj.env ρ T F
theorem eN {ρ : Nms} {T : Tbl} {t : Nat} {E F : aj} : look (ai ρ T E F) t = (cN E F t).map fun x => (T.get x.1, x.2.val ρ) := by
 rw [s6, mn, mn]
 unfold cN
 cases aH E t <;> rfl
def cst : Value → AV
 | .int k x => .int k x
 | .bool x => .bool x
 | .string b => .str b.data.toList
 | v => .raw v
theorem FI {ρ : Nms} {v : Value} : (cst v).val ρ = v := by
 cases v <;> simp [cst, AV.val, S]
theorem jL {ρ : Nms} : {l : List Value} → AV.ae ρ (l.map cst) = l
 | [] => by simp [AV.ae]
 | v :: l => by simp only [List.map_cons, AV.ae]; rw [FI, jL]
theorem NV {c : Nat} {v : Value} : (cst v).low c = true := by
 cases v <;> simp [cst, AV.low]
theorem EE {c : Nat} : {l : List Value} → AV.aY c (l.map cst) = true
 | [] => by simp [AV.aY]
 | v :: l => by simp only [List.map_cons, AV.aY]; rw [NV, EE]; rfl
def opA (T : Tbl) (E F : aj) (g : GK) : Operand → Option AV
 | .tmp t => match cN E F t with
  | some x => ifS ( T.imp g x.1 ) ( some x.2 ) <| none
  | none => none
 | .const v => some (cst v)
 | .func f => some (.fn f [] [])
 | .global f => some (.gp f)
theorem ay {ρ : Nms} {T : Tbl} {E F : aj} {g : GK} {x : Operand} {v : AV} (h : opA T E F g x = some v) : Opd (ai ρ T E F) (T.get g) x (v.val ρ) := by
 cases x with
 | tmp t =>
  unfold opA at h
  dsimp only at h
  cases hl : cN E F t with
  | none => rw [hl] at h; cases h
  | some x =>
   rw [hl] at h
   obtain ⟨h1, h2⟩ := al h
   cases h2
   exact Opd.g (g' := T.get x.1) (by rw [eN, hl]; rfl) (Tbl.gR h1)
 | const u => cases h; rw [FI]; exact Opd.c
 | func f => cases h; simp only [AV.val, AV.ae]; exact Opd.f
 | global f => cases h; simp only [AV.val]; exact Opd.gl
theorem bp {ρ : Nms} {T : Tbl} {E F : aj} {x : Operand} {v : AV} (h : opA T E F none x = some v) : Opd (ai ρ T E F) true x (v.val ρ) := by
 have := ay (ρ := ρ) h
 rwa [Tbl.get_none] at this
def ov (T : Tbl) (E F : aj) (g : GK) : List Operand → Option (List AV)
 | [] => some []
 | x :: l => match opA T E F g x with
  | some v => match ov T E F g l with
   | some vs => some (v :: vs)
   | none => none
  | none => none
theorem iv {ρ : Nms} {T : Tbl} {E F : aj} {g : GK} : {xs : List Operand} → {vs : List AV} → ov T E F g xs = some vs → kD (ai ρ T E F) (T.get g) xs (AV.ae ρ vs)
 | [], vs, h => by cases h; simp only [AV.ae]; exact .nil
 | x :: l, vs, h => by
  unfold ov at h
  split at h
  ·rename_i v h1
   split at h
   ·rename_i us h2
    cases h
    simp only [AV.ae]
    exact .cons (ay h1) (iv h2)
   ·cases h
  ·cases h
/-! rows -/
def lx (p : Row → Bool) : List Row → Option (Nat × Row)
 | [] => none
 | r :: G => ifS ( p r ) ( some (0, r) ) <| match lx p G with
  | some x => some (x.1 + 1, x.2)
  | none => none
theorem jz {p : Row → Bool} : {G : List Row} → {i : Nat} → {r : Row} → lx p G = some (i, r) → G[i]? = some r ∧ p r = true
 | [], _, _, h => by cases h
 | r0 :: G, i, r, h => by
  unfold lx at h
  rcases cW h with ⟨h1, h2⟩ | ⟨h1, h2⟩
  ·cases h2; exact ⟨rfl, h1⟩
  ·split at h2
   ·rename_i x hx
    cases h2
    obtain ⟨h3, h4⟩ := jz (i := x.1) (r := x.2) hx
    exact ⟨by simpa using h3, h4⟩
   ·cases h2
def j9 (id : Nat) : Row → Bool
 | .sli _ j _ _ _ | .own j _ _ _ _ => Nat.beq j id
 | _ => false
def sN (id : Nat) : Row → Bool
 | .box j _ _ => Nat.beq j id
 | _ => false
def H8 (id : Nat) : Row → Bool
 | .mp j _ _ _ => Nat.beq j id
 | _ => false
def Po (id : Nat) : Row → Bool
 | .it j _ _ => Nat.beq j id
 | _ => false
def isEq (id : Nat) : Row → Bool
 | .eq j _ => Nat.beq j id
 | _ => false
def y4 (q : Nat) : Row → Bool
 | .kn _ j _ _ _ _ _ => Nat.beq j q
 | _ => false
def P4 (id : Nat) : Row → Bool
 | .elm _ j _ => Nat.beq j id
 | _ => false
def Row.id : Row → Nat
 | .box j _ _ | .sli _ j _ _ _ | .own j _ _ _ _ | .mp j _ _ _ | .it j _ _ | .eq j _ | .elm _ j _ | .kn _ j _ _ _ _ _ => j
 | .gone => 0
def Row.cC : Row → Bool
 | .sli .. | .elm .. | .eq .. | .kn .. | .gone => true
 | _ => false
theorem fc {ρ : Nms} {T : Tbl} {G : List Row} {Φ : Ctx} {i : Nat} {r : Row} (h : G[i]? = some r) : (items ρ T G ++ Φ)[i]? = some (r.item ρ T) := by
 have hl : i < G.length := (List.getElem?_eq_some_iff.1 h).1
 rw [List.getElem?_append_left (by simpa [items] using hl)]
 simp [items, h]
theorem BC {ρ : Nms} {T : Tbl} {G H : List Row} {Φ : Ctx} {i : Nat} {r : Row} (h : H[i]? = some r) : (items ρ T G ++ (items ρ T H ++ Φ))[G.length + i]? = some (r.item ρ T) := by
 rw [List.getElem?_append_right (by simp [items])]
 have : G.length + i - (items ρ T G).length = i := by simp [items]
 rw [this]
 exact fc h
inductive Src where
 | top (i : Nat)
 | frz (i : Nat)
 | nilI (t : Ty)
 | nilO (t : Ty) (e : TypeId)
 | nilM (k v : Ty)
def cX (G H : List Row) (p : Row → Bool) : Option (Src × Row) := match lx p G with
 | some x => some (.top x.1, x.2)
 | none => match lx p H with
  | some x => some (.frz x.1, x.2)
  | none => none
def Src.at_ (G H : List Row) : Src → Row → Prop
 | .top i, r => G[i]? = some r
 | .frz i, r => H[i]? = some r
 | _, _ => False
theorem bk {p : Row → Bool} {G H : List Row} {s : Src} {r : Row} (h : cX G H p = some (s, r)) : s.at_ G H r ∧ p r = true := by
 unfold cX at h
 split at h
 ·rename_i x hx
  cases h
  exact jz hx
 ·split at h
  ·rename_i x hx
   cases h
   exact jz hx
  ·cases h
theorem Src.item {ρ : Nms} {T : Tbl} {G H : List Row} {Φ : Ctx} {s : Src} {r : Row} (h : s.at_ G H r) : ∃ i : Nat, (items ρ T G ++ (items ρ T H ++ Φ))[i]? = some (r.item ρ T) := by
 cases s with
 | top i => exact ⟨i, fc h⟩
 | frz i => exact ⟨G.length + i, BC h⟩
 | nilI => exact h.elim
 | nilO => exact h.elim
 | nilM => exact h.elim
theorem Src.holds {ρ : Nms} {T : Tbl} {G H : List Row} {Φ : Ctx} {w : World} {s : Src} {r : Row} (hs : Sat (items ρ T G ++ (items ρ T H ++ Φ)) w) (h : s.at_ G H r) : (r.item ρ T).P (Ctx.M (items ρ T G ++ (items ρ T H ++ Φ))) w := by
 obtain ⟨i, hi⟩ := Src.item (ρ := ρ) (T := T) (Φ := Φ) h
 exact hs.at_ hi
def ma (n : Nat) : List Nat → Bool
 | [] => false
 | m :: l => Nat.beq n m || ma n l
theorem DA {n : Nat} : {l : List Nat} → (ma n l = true ↔ n ∈ l)
 | [] => by simp [ma]
 | m :: l => by
  simp only [ma, Bool.or_eq_true, List.mem_cons]
  rw [DA, Nat.beq_eq]
end Go.Proofs.YtdhgpnejphlfpaaDoor
namespace Go.Proofs.YtdhgpnejphlfpaaDoor
open Go.Lib
structure Cx where
 P : Program
 tys : List (TypeId × Ty)
 gls : List (Nat × Nat × Dyn)
 ids : List FuncId
 idsOk : ∀ f, f ∈ ids → PL P f
 fl : Nat
def vd {α : Type} : List (Nat × α) → Nat → Option α
 | [], _ => none
 | x :: l, n => ifS ( Nat.beq x.1 n ) ( some x.2 ) <| vd l n
def va {ρ : Type} (c : Option Bool) (g : Option Bool) (k : Option ρ) : Option ρ := match c with
 | none => k
 | some c => match g with
  | none => chk c k
  | some g => w8 g c k
theorem kK {ρ : Type} {T : Tbl} {c : Option Bool} {g : GK} {k : Option ρ} {r : ρ} (h : va c (g.map fun _ => T.get g) k = some r) : (∀ b, c = some b → T.get g = true → b = true) ∧ k = some r := by
 unfold va at h
 split at h
 ·exact ⟨fun b hb => (by cases hb), h⟩
 ·split at h
  ·rename_i hg
   obtain ⟨h1, h2⟩ := iL h
   exact ⟨fun b hb _ => (by cases hb; exact h1), h2⟩
  ·rename_i g' hg
   cases g with
   | none => cases hg
   | some k' =>
    simp only [Option.map_some, Option.some.injEq] at hg
    subst hg
    obtain ⟨h1, h2⟩ := JL h
    exact ⟨fun b hb hT => (by cases hb; exact h1 hT), h2⟩
abbrev CV := Option (Option Bool × AV)
def pv (v : AV) : CV := some (none, v)
def eZ (a b : IntKind) : Bool := decide (a = b)
theorem ja {a b : IntKind} (h : eZ a b = true) : a = b := by simpa [eZ] using h
def HK (k k' : IntKind) (m l : Int) : BinOp → CV
 | .add => ifS ( eZ k k' ) ( pv (.int k (k.wrap (m + l))) ) none
 | .sub => ifS ( eZ k k' ) ( pv (.int k (k.wrap (m - l))) ) none
 | .mul => ifS ( eZ k k' ) ( pv (.int k (k.wrap (m * l))) ) none
 | .quo => ifS ( eZ k k' ) ( some (some (l != 0), .int k (k.wrap (m.tdiv l))) ) none
 | .rem => ifS ( eZ k k' ) ( some (some (l != 0), .int k (m.tmod l)) ) none
 | .eql => ifS ( eZ k k' ) ( pv (.bool (m == l)) ) none
 | .neq => ifS ( eZ k k' ) ( pv (.bool (m != l)) ) none
 | .lss => ifS ( eZ k k' ) ( pv (.bool (decide (m < l))) ) none
 | .leq => ifS ( eZ k k' ) ( pv (.bool (decide (m ≤ l))) ) none
 | .gtr => ifS ( eZ k k' ) ( pv (.bool (decide (l < m))) ) none
 | .geq => ifS ( eZ k k' ) ( pv (.bool (decide (l ≤ m))) ) none
 | .shr => some (some (decide (0 ≤ l)), .int k (OR k m l))
 | .shl => some (some (decide (0 ≤ l)), .int k (PX k m l))
 | .and => ifS ( eZ k k' ) ( pv (.int k (Pn k m l)) ) none
 | .or => ifS ( eZ k k' ) ( pv (.int k (orI k m l)) ) none
 | .xor => ifS ( eZ k k' ) ( pv (.int k (PQ k m l)) ) none
 | .andNot => ifS ( eZ k k' ) ( pv (.int k (Fp k m l)) ) none
def H6 (m l : Str) : BinOp → CV
 | .eql => pv (.bool (m == l))
 | .neq => pv (.bool (m != l))
 | .add => some (some (yK m l), .str (m ++ l))
 | .lss => pv (.bool (ltS m l))
 | .leq => pv (.bool (ltS m l || m == l))
 | .gtr => pv (.bool (!(ltS m l || m == l)))
 | .geq => pv (.bool (!(ltS m l)))
 | _ => none
def I4 (m l : Bool) : BinOp → CV
 | .eql => pv (.bool (m == l))
 | .neq => pv (.bool (m != l))
 | _ => none
def tyK (P : Program) (t : TypeId) : Option IntKind := match P.underlying t with
 | some (.int k) => some k
 | _ => none
theorem Ak {P : Program} {t : TypeId} {k : IntKind} (h : tyK P t = some k) : P.underlying t = some (.int k) := by
 unfold tyK at h
 split at h
 ·rename_i k' hk; cases h; exact hk
 ·cases h
def isStr (P : Program) (t : TypeId) : Bool := match P.underlying t with
 | some .string => true
 | _ => false
theorem ku {P : Program} {t : TypeId} (h : isStr P t = true) : P.underlying t = some .string := by
 unfold isStr at h
 split at h
 ·assumption
 ·cases h
def isBool (P : Program) (t : TypeId) : Bool := match P.underlying t with
 | some .bool => true
 | _ => false
theorem BY {P : Program} {t : TypeId} (h : isBool P t = true) : P.underlying t = some .bool := by
 unfold isBool at h
 split at h
 ·assumption
 ·cases h
def KA (P : Program) (t : TypeId) : Bool := match P.underlying t with
 | some _ => true
 | none => false
theorem O8 {P : Program} {t : TypeId} (h : KA P t = true) : ∃ d, P.underlying t = some d := by
 unfold KA at h
 split at h
 ·rename_i d hd; exact ⟨d, hd⟩
 ·cases h
def Hq (P : Program) (t : TypeId) (op : BinOp) : AV → AV → CV
 | .int k m, .int k' l => HK k k' m l op
 | .str m, .str l => H6 m l op
 | .bool m, .bool l => ifS ( isBool P t ) ( I4 m l op ) none
 | _, _ => none
def K8 : UnOp → AV → CV
 | .not, .bool b => pv (.bool (!b))
 | .neg, .int k m => pv (.int k (k.wrap (0 - m)))
 | _, _ => none
def MD : AV → Bool
 | .ptr _ _ | .adr _ _ | .fn _ _ _ => true
 | _ => false
def jJ (P : Program) (Ev : Env) (ρ : Nms) (g : Bool) (o : Oper) (w : World) (cv : Option Bool × AV) : Prop :=
 (∀ b, cv.1 = some b → g = true → b = true) → Run P Ev g o w (cv.2.val ρ)
section
variable {P : Program} {ρ : Nms} {g : Bool} {w : World} {dst : Option Tmp} {ty : TypeId} {pos : String} {af : Array Edge} {gd : Option (Nat × Bool)} {Ev : Env}
theorem jJ.pv {o : Oper} {v : AV} {cv : Option Bool × AV} (h : pv v = some cv) (hr : Run P Ev g o w (v.val ρ)) : jJ P Ev ρ g o w cv := by
 cases h; exact fun _ => hr
theorem Iz {x y : Operand} {t t' : TypeId} {op : BinOp} {k k' : IntKind} {m l : Int} {cv : Option Bool × AV} (hx : Opd Ev g x (.int k m)) (hy : Opd Ev g y (.int k' l)) (h : HK k k' m l op = some cv) :
  jJ P Ev ρ g ⟨dst, .binOp op t x y t', ty, pos, af, gd⟩ w cv := by
 have key : ∀ {a : CV}, ifS (eZ k k') a none = some cv → k = k' ∧ a = some cv := fun h => ⟨ja (al h).1, (al h).2⟩
 cases op <;> simp only [HK] at h
 case shr => cases h; exact fun hc => Ol hx hy (fun hg => hc _ rfl hg)
 case shl => cases h; exact fun hc => NL hx hy (fun hg => hc _ rfl hg)
 case quo =>
  obtain ⟨rfl, h9⟩ := key h
  cases h9
  exact fun hc n a hf hg => Od hx hy (by have := hc _ rfl hg; simpa using this) n a hf hg
 case rem =>
  obtain ⟨rfl, h9⟩ := key h
  cases h9
  exact fun hc n a hf hg => Oi hx hy (by have := hc _ rfl hg; simpa using this) n a hf hg
 case add => obtain ⟨rfl, h9⟩ := key h; exact .pv h9 (OF hx hy)
 case sub => obtain ⟨rfl, h9⟩ := key h; exact .pv h9 (NO hx hy)
 case mul => obtain ⟨rfl, h9⟩ := key h; exact .pv h9 (Nb hx hy)
 case eql => obtain ⟨rfl, h9⟩ := key h; exact .pv h9 (Nt hx hy)
 case neq => obtain ⟨rfl, h9⟩ := key h; exact .pv h9 (Nc hx hy)
 case lss => obtain ⟨rfl, h9⟩ := key h; exact .pv h9 (M6 hx hy)
 case leq => obtain ⟨rfl, h9⟩ := key h; exact .pv h9 (Oq hx hy)
 case gtr => obtain ⟨rfl, h9⟩ := key h; exact .pv h9 (Nf hx hy)
 case geq => obtain ⟨rfl, h9⟩ := key h; exact .pv h9 (Nh hx hy)
 case and => obtain ⟨rfl, h9⟩ := key h; exact .pv h9 (Lg hx hy)
 case or => obtain ⟨rfl, h9⟩ := key h; exact .pv h9 (NA hx hy)
 case xor => obtain ⟨rfl, h9⟩ := key h; exact .pv h9 (K9 hx hy)
 case andNot => obtain ⟨rfl, h9⟩ := key h; exact .pv h9 (E4 hx hy)
theorem JH {x y : Operand} {t t' : TypeId} {op : BinOp} {m l : Str} {cv : Option Bool × AV} (hx : Opd Ev g x (S m)) (hy : Opd Ev g y (S l)) (h : H6 m l op = some cv) :
  jJ P Ev ρ g ⟨dst, .binOp op t x y t', ty, pos, af, gd⟩ w cv := by
 unfold H6 at h
 split at h
 ·exact .pv h (No hx hy)
 ·exact .pv h (M9 hx hy)
 ·cases h; exact fun hc => Nz hx hy (fun hg => hc _ rfl hg)
 ·exact .pv h (N5 hx hy)
 ·exact .pv h (OO hx hy)
 ·exact .pv h (Nv hx hy)
 ·exact .pv h (NF hx hy)
 ·cases h
theorem JN {x y : Operand} {t t' : TypeId} {op : BinOp} {a b : AV} {cv : Option Bool × AV} (hx : Opd Ev g x (a.val ρ)) (hy : Opd Ev g y (b.val ρ)) (h : Hq P t op a b = some cv) :
  jJ P Ev ρ g ⟨dst, .binOp op t x y t', ty, pos, af, gd⟩ w cv := by
 unfold Hq at h
 split at h
 ·simp only [AV.val] at hx hy; exact Iz hx hy h
 ·simp only [AV.val] at hx hy; exact JH hx hy h
 ·simp only [AV.val] at hx hy
  obtain ⟨h1, h2⟩ := al h
  unfold I4 at h2
  split at h2
  ·exact .pv h2 (Na (BY h1) hx hy)
  ·exact .pv h2 (OI (BY h1) hx hy)
  ·cases h2
 ·cases h
theorem Mc {x : Operand} {t : TypeId} {op : UnOp} {u : AV} {cv : Option Bool × AV} (hx : Opd Ev g x (u.val ρ)) (h : K8 op u = some cv) :
  jJ P Ev ρ g ⟨dst, .unOp op t x, ty, pos, af, gd⟩ w cv := by
 unfold K8 at h
 split at h
 ·simp only [AV.val] at hx; exact .pv h (LW hx)
 ·simp only [AV.val] at hx; exact .pv h (Ny hx)
 ·cases h
theorem Ja {x : Operand} {v : AV} (hx : Opd Ev g x (v.val ρ)) (h : MD v = true) : Run P Ev g ⟨dst, .nilCheck x, ty, pos, af, gd⟩ w (v.val ρ) := by
 cases v with
 | ptr id off => simp only [AV.val] at hx ⊢; exact Eb hx
 | adr id off => simp only [AV.val] at hx ⊢; exact Eb hx
 | fn f a b => simp only [AV.val] at hx ⊢; exact KI hx
 | _ => cases h
end
def tiA (P : Program) (t : TypeId) : Option (Nat × Nat × Value) := match P.info? t with
 | some i => match i.zero with
  | some z => some (i.size, i.bytes, z)
  | none => none
 | none => none
theorem cH {P : Program} {t : TypeId} {n bytes : Nat} {z : Value} (h : tiA P t = some (n, bytes, z)) : TI P t n bytes z := by
 unfold tiA at h
 split at h
 ·rename_i i hi
  split at h
  ·rename_i z' hz
   cases h
   simp [TI, hi, hz]
  ·cases h
 ·cases h
def G9 (P : Program) (t : TypeId) (k : Nat) : Option (TypeId × Nat × Nat) := match P.underlying t with
 | some (.struct fs) => match fs.toList[k]? with
  | some f => match P.info? f.type with
   | some i => some (f.type, f.offset, i.size)
   | none => none
  | none => none
 | _ => none
theorem Gp {P : Program} {t ft : TypeId} {k off n : Nat} (h : G9 P t k = some (ft, off, n)) : ∃ fs f i, P.underlying t = some (.struct fs) ∧ fs[k]? = some f ∧ f.type = ft ∧ f.offset = off ∧ P.info? ft = some i ∧ i.size = n := by
 unfold G9 at h
 split at h
 ·rename_i fs hfs
  split at h
  ·rename_i f hf
   split at h
   ·rename_i i hi
    cases h
    exact ⟨fs, f, i, hfs, by simpa using hf, rfl, rfl, hi, rfl⟩
   ·cases h
  ·cases h
 ·cases h
def kS (P : Program) (t : TypeId) (cs : List AV) : Option AV := match P.underlying t with
 | some d => ifS ( ji d ) ( (match tiA P t with
   | some x => ifS ( Nat.ble x.1 cs.length ) ( some (.agg (cs.take x.1)) ) <| none
   | none => none)
  ) <| cs.head?
 | none => none
def bK : AV → List AV
 | .agg l => l
 | .raw v => v.cells.toList.map cst
 | v => [v]
def we : AV → Bool
 | .nv _ => false
 | _ => true
theorem oX {ρ : Nms} {v : AV} (h : we v = true) : (v.val ρ).cells = (AV.ae ρ (bK v)).toArray := by
 cases v <;> simp only [bK, AV.val, AV.ae] <;> try rfl
 ·cases h
 ·rw [jL]
def mA (vs : List AV) (k : Nat) (us : List AV) : List AV := vs.take k ++ us ++ vs.drop (k + us.length)
theorem oP {ρ : Nms} {vs us : List AV} {k : Nat} : iY (AV.ae ρ vs) k (AV.ae ρ us) = AV.ae ρ (mA vs k us) := by
 simp only [iY, mA, cE, AV.iE, AV.eP, AV.aK]
def sw (place : Nat → Option (Nat × Nat)) : List (Nat × AV) → List AV → Option (List AV)
 | [], cs => some cs
 | (i, v) :: l, cs => match place i with
  | some (off, n) => ifS ( we v && (Nat.beq (bK v).length n && Nat.ble (off + n) cs.length) ) ( sw place l (mA cs off (bK v)) ) <| none
  | none => none
theorem Bo {off : Nat} : ∀ (us : List Value) (k : Nat) (cs : List Value), off + k + us.length ≤ cs.length →
  (us.zipIdx k).foldl (fun cs (x : Value × Nat) => cs.setIfInBounds (off + x.2) x.1) cs.toArray = (iY cs (off + k) us).toArray
 | [], k, cs, _ => by simp [iY]
 | u :: us, k, cs, h => by
  simp only [List.length_cons] at h
  simp only [List.zipIdx_cons, List.foldl_cons, List.setIfInBounds_toArray]
  rw [Bo us (k + 1) (cs.set (off + k) u) (by rw [List.length_set]; omega)]
  congr 1
  simp only [iY]
  have h1 : off + k < cs.length := by omega
  have e1 : (cs.set (off + k) u).take (off + (k + 1)) = cs.take (off + k) ++ [u] := by
   rw [show off + (k + 1) = (off + k) + 1 from rfl, List.take_add_one, List.getElem?_set_self h1, List.take_set_of_le (Nat.le_refl _)]
   rfl
  have e2 : (cs.set (off + k) u).drop (off + (k + 1) + us.length) = cs.drop (off + k + (u :: us).length) := by
   rw [List.drop_set_of_lt (by omega)]
   congr 1
   simp only [List.length_cons]; omega
  rw [e1, e2]
  simp
theorem q8 {ρ : Nms} {place : Nat → Option (Nat × Nat)} : {ps : List (Nat × AV)} → {cs cs' : List AV} → sw place ps cs = some cs' →
  Instr.fill place (AV.ae ρ cs).toArray (ps.map fun p => (p.1, p.2.val ρ)) = some (AV.ae ρ cs').toArray
 | [], cs, cs', h => by cases h; rfl
 | (i, v) :: l, cs, cs', h => by
  unfold sw at h
  split at h
  ·rename_i off n hp
   obtain ⟨h1, h2⟩ := al h
   simp only [Bool.and_eq_true, Nat.ble_eq] at h1
   obtain ⟨h3, h4, h5⟩ := h1
   have h4 := Nat.eq_of_beq_eq_true h4
   have ih := q8 (ρ := ρ) h2
   simp only [List.map_cons]
   unfold Instr.fill
   simp only [hp]
   have e := oX (ρ := ρ) h3
   have e1 : ¬ (((v.val ρ).cells.size ≠ n || decide (off + (v.val ρ).cells.size > (AV.ae ρ cs).toArray.size)) = true) := by
    rw [e]
    simp only [List.size_toArray, AV.aK, h4]
    simp; omega
   rw [if_neg e1, e]
   have := Bo (off := off) (AV.ae ρ (bK v)) 0 (AV.ae ρ cs) (by rw [AV.aK, AV.aK]; omega)
   simp only [Nat.add_zero] at this
   rw [show (AV.ae ρ (bK v)).toArray.zipIdx = ((AV.ae ρ (bK v)).zipIdx 0).toArray from by simp, List.foldl_toArray, this, oP]
   exact ih
  ·cases h
end Go.Proofs.YtdhgpnejphlfpaaDoor
namespace Go.Proofs.YtdhgpnejphlfpaaDoor
open Go.Lib
def ot {α β : Type} (f : α → Option β) : List α → Option (List β)
 | [] => some []
 | x :: l => match f x with
  | some y => match ot f l with
   | some ys => some (y :: ys)
   | none => none
  | none => none
theorem Bz {P : Program} {w : World} {α β : Type} {f : α → Sem β} {g : α → Option β} (hfg : ∀ x y, g x = some y → (f x).run P w = .ok y w) : ∀ {l : List α} {ys : List β}, ot g l = some ys → (l.mapM f).run P w = .ok ys w
 | [], ys, h => by cases h; simp
 | x :: l, ys, h => by
  unfold ot at h
  split at h
  ·rename_i y hy
   split at h
   ·rename_i zs hz
    cases h
    rw [List.mapM_cons, Sem.run_bind, hfg x y hy, Result.andThen_ok, Sem.run_bind, Bz hfg hz, Result.andThen_ok, Sem.run_pure]
   ·cases h
  ·cases h
theorem zn {P : Program} {w : World} {α β : Type} {f : α → Sem β} {g : α → Option β} (hfg : ∀ x y, g x = some y → (f x).run P w = .ok y w) {l : Array α} {ys : List β} (h : ot g l.toList = some ys) : (l.mapM f).run P w = .ok ys.toArray w := by
 rw [Array.mapM_eq_mapM_toList, Sem.run_map, Bz hfg h]
 rfl
def Da (P : Program) (f : Field) : Option (Nat × Nat) := match P.info? f.type with
 | some i => some (f.offset, i.size)
 | none => none
def Dd (P : Program) (t : TypeId) (ps : List (Nat × AV)) : Option (List AV) := match tiA P t with
 | some z => (match P.underlying t with
  | some (.struct fs) => (match ot (Da P) fs.toList with
   | some pl => sw (fun i => pl[i]?) ps (z.2.2.cells.toList.map cst)
   | none => none)
  | some (.array _ e) => (match P.info? e with
   | some i => sw (fun k => some (k * i.size, i.size)) ps (z.2.2.cells.toList.map cst)
   | none => none)
  | _ => none)
 | none => none
theorem IF {P : Program} {t : TypeId} {ρ : Nms} {w : World} {ps : List (Nat × AV)} {cs : List AV} (h : Dd P t ps = some cs) :
  (Instr.build t (ps.map fun p => (p.1, p.2.val ρ)).toArray).run P w = .ok (.agg (AV.ae ρ cs).toArray) w := by
 unfold Dd at h
 split at h
 ·rename_i z hz
  obtain ⟨size, bytes, z⟩ := z
  have hti := cH hz
  have hz0 := hti.zero w
  unfold Instr.build
  simp only [Sem.run_bind, hz0, Result.andThen_ok]
  split at h
  ·rename_i fs hfs
   simp only [run_underlying hfs, Result.andThen_ok]
   split at h
   ·rename_i pl hpl
    have h1 : (fs.mapM fun f => do pure (f.offset, ← sizeOf f.type) : Sem (Array (Nat × Nat))).run P w = .ok pl.toArray w := zn (g := Da P) (fun f y hy => by
     unfold Da at hy
     split at hy
     ·rename_i i hi
      cases hy
      simp [sizeOf, typeInfo, hi]
     ·cases hy) hpl
    have h2 := q8 (ρ := ρ) h
    rw [jL] at h2
    simp only [Sem.run_bind, h1, Result.andThen_ok]
    have e : (fun (x : Nat) => pl.toArray[x]?) = fun i => pl[i]? := by funext i; simp
    rw [e]
    simp only [Array.toArray_toList] at h2
    rw [h2]
    rfl
   ·cases h
  ·rename_i k e hfs
   simp only [run_underlying hfs, Result.andThen_ok]
   split at h
   ·rename_i i hi
    have h2 := q8 (ρ := ρ) h
    rw [jL] at h2
    simp only [Array.toArray_toList] at h2
    simp only [Sem.run_bind, sizeOf, typeInfo, run_program, hi, Result.andThen_ok, Sem.run_pure]
    rw [h2]
    rfl
   ·cases h
  ·cases h
 ·cases h
theorem vg {ρ : Nms} : ∀ (is : List Nat) (vs : List AV), (is.zip vs).map (fun p => (p.1, p.2.val ρ)) = is.zip (AV.ae ρ vs)
 | [], _ => by simp
 | _ :: _, [] => by simp [AV.ae]
 | i :: is, v :: vs => by simp only [List.zip_cons_cons, List.map_cons, AV.ae]; rw [vg]
/-! what the variables that guards ask are -/
def dq (T : Tbl) (E F : aj) : Prop := ∀ x, x ∈ T → cN E F x.2.2.1 = some (x.2.1, .bool x.2.2.2) ∧ T.get (some x.1) = (T.get x.2.1 && oD x.1.2 x.2.2.2)
def keyOf (r : Nat) (pol : Bool) : Tbl → Option ((Nat × Bool) × GK × Nat × Bool)
 | [] => none
 | x :: T => ifS ( Nat.beq x.2.2.1 r && AN x.1.2 pol ) ( some x ) <| keyOf r pol T
theorem CE {r : Nat} {pol : Bool} : {T : Tbl} → {x : (Nat × Bool) × GK × Nat × Bool} → keyOf r pol T = some x → x ∈ T ∧ x.2.2.1 = r ∧ x.1.2 = pol
 | [], x, h => by cases h
 | y :: T, x, h => by
  unfold keyOf at h
  rcases cW h with ⟨h1, h2⟩ | ⟨_, h2⟩
  ·cases h2
   simp only [Bool.and_eq_true] at h1
   exact ⟨List.mem_cons_self .., Nat.eq_of_beq_eq_true h1.1, Fl h1.2⟩
  ·obtain ⟨h3, h4⟩ := CE h2
   exact ⟨List.mem_cons_of_mem _ h3, h4⟩
def MF (T : Tbl) (E F : aj) (g : GK) (c x : Operand) : Option (Bool × Bool) := match opA T E F g x with
 | some (.bool y) => (match opA T E F g c with
  | some (.bool b) => some (b, y)
  | _ => none)
 | _ => none
def MJ (T : Tbl) (E F : aj) (g : GK) (pol : Bool) (c x : Operand) : Option (Bool × Bool) := match c with
 | .tmp r => (match keyOf r pol T with
  | some k => ifS ( T.imp g k.2.1 ) ( match opA T E F (some k.1) x with
    | some (.bool y) => some (k.2.2.2, y)
    | _ => none
   ) none
  | none => none)
 | _ => none
def Cl (T : Tbl) (E F : aj) (g : GK) (pol : Bool) (c x : Operand) : Option (Bool × Bool) := match MF T E F g c x with
 | some y => some y
 | none => MJ T E F g pol c x
theorem ED {ρ : Nms} {T : Tbl} {E F : aj} {g : GK} {pol b y : Bool} {c x : Operand} (hT : dq T E F) (h : Cl T E F g pol c x = some (b, y)) :
  Opd (ai ρ T E F) (T.get g) c (.bool b) ∧ Opd (ai ρ T E F) (T.get g && oD pol b) x (.bool y) := by
 have weak : ∀ {p q : Bool} {u : Value}, Opd (ai ρ T E F) p x u → Opd (ai ρ T E F) (p && q) x u := fun h n a hf hg => h n a hf (Bool.and_eq_true _ _ ▸ hg).1
 unfold Cl at h
 split at h
 ·rename_i z hz
  cases h
  unfold MF at hz
  split at hz
  ·rename_i y' hx
   split at hz
   ·rename_i b' hc
    cases hz
    have h1 := ay (ρ := ρ) hx
    have h2 := ay (ρ := ρ) hc
    simp only [AV.val] at h1 h2
    exact ⟨h2, weak h1⟩
   ·cases hz
  ·cases hz
 ·unfold MJ at h
  split at h
  ·rename_i r
   split at h
   ·rename_i k hk
    obtain ⟨h1, h2⟩ := al h
    split at h2
    ·rename_i y' hx
     cases h2
     obtain ⟨k1, k2, k3⟩ := CE hk
     obtain ⟨k4, k5⟩ := hT _ k1
     have h3 := ay (ρ := ρ) hx
     simp only [AV.val] at h3
     rw [k2] at k4
     refine ⟨Opd.g (g' := T.get k.2.1) (by rw [eN, k4]; simp [AV.val]) (Tbl.gR h1), fun n a hf hg => h3 n a hf ?_⟩
     rw [k5, k3]
     simp only [Bool.and_eq_true] at hg ⊢
     exact ⟨Tbl.gR h1 hg.1, hg.2⟩
    ·cases h2
   ·cases h
  ·cases h
def isF : Operand → Bool
 | .const (.bool b) => !b
 | _ => false
def Kl : Operand → Bool
 | .const (.bool b) => b
 | _ => false
theorem OQ {x : Operand} (h : isF x = true) : x = .const (.bool false) := by
 unfold isF at h
 split at h
 ·rename_i b; cases b
  ·rfl
  ·cases h
 ·cases h
theorem Ns {x : Operand} (h : Kl x = true) : x = .const (.bool true) := by
 unfold Kl at h
 split at h
 ·rename_i b; cases b
  ·cases h
  ·rfl
 ·cases h
def xj (P : Program) (t : TypeId) : Bool := match P.underlying t with
 | some d => !(jV d)
 | none => false
theorem zR {P : Program} {t : TypeId} (h : xj P t = true) : ∃ d, P.underlying t = some d ∧ jV d = false := by
 unfold xj at h
 split at h
 ·rename_i d hd; exact ⟨d, hd, by simpa using h⟩
 ·cases h
def loA (T : Tbl) (E F : aj) (g : GK) : Option Operand → Option Int
 | none => some 0
 | some y => match opA T E F g y with
  | some (.int _ i) => some i
  | _ => none
def hiA (T : Tbl) (E F : aj) (g : GK) : Option Operand → Option (Option Int)
 | none => some none
 | some y => match opA T E F g y with
  | some (.int _ i) => some (some i)
  | _ => none
theorem zD {ρ : Nms} {T : Tbl} {E F : aj} {g : GK} {lo : Option Operand} {i : Int} (h : loA T E F g lo = some i) : (match (motive := Option Operand → Prop) lo with | none => i = 0 | some y => ∃ k, Opd (ai ρ T E F) (T.get g) y (.int k i)) := by
 cases lo with
 | none => cases h; rfl
 | some y =>
  unfold loA at h
  dsimp only at h
  split at h
  ·rename_i k j hy
   cases h
   have := ay (ρ := ρ) hy
   simp only [AV.val] at this
   exact ⟨k, this⟩
  ·cases h
theorem CT {ρ : Nms} {T : Tbl} {E F : aj} {g : GK} {hi : Option Operand} {j : Option Int} {len : Nat} (h : hiA T E F g hi = some j) : (match (motive := Option Operand → Prop) hi with | none => (j.getD (len : Int)) = (len : Int) | some y => ∃ k, Opd (ai ρ T E F) (T.get g) y (.int k (j.getD (len : Int)))) := by
 cases hi with
 | none => cases h; rfl
 | some y =>
  unfold hiA at h
  dsimp only at h
  split at h
  ·rename_i k j hy
   cases h
   have := ay (ρ := ρ) hy
   simp only [AV.val] at this
   exact ⟨k, this⟩
  ·cases h
def C3 (X : Cx) (T : Tbl) (E F : aj) (g : GK) (c : Callee) (xs : List Operand) (ts : List TypeId) : CV := match c, xs, ts with
 | .builtin .len, [x], [t] => ifS ( isStr X.P t ) ( (match opA T E F g x with
   | some (.str l) => pv (.int .i64 (l.length : Int))
   | _ => none)
  ) none
 | .builtin .max, [x, y], [_, _] => (match opA T E F g x, opA T E F g y with
  | some (.int k m), some (.int k' l) => ifS ( eZ k k' ) ( pv (.int k (max m l)) ) none
  | _, _ => none)
 | .builtin .min, [x, y], [_, _] => (match opA T E F g x, opA T E F g y with
  | some (.int k m), some (.int k' l) => ifS ( eZ k k' ) ( pv (.int k (min m l)) ) none
  | _, _ => none)
 | _, _, _ => none
def Lm (X : Cx) (T : Tbl) (E F : aj) (g : GK) : Op → CV
 | .move x => (match opA T E F g x with
  | some v => pv v
  | none => none)
 | .assign x => (match opA T E F g x with
  | some v => pv v
  | none => none)
 | .pick c a b => ifS ( isF b ) ( (match Cl T E F g true c a with
   | some y => pv (.bool (y.1 && y.2))
   | none => none)
  ) <| ifS ( Kl a ) ( (match Cl T E F g false c b with
   | some y => pv (.bool (y.1 || y.2))
   | none => none)
  ) none
 | .nilCheck x => (match opA T E F g x with
  | some v => ifS ( MD v ) ( pv v ) none
  | none => none)
 | .extract x i => (match opA T E F g x with
  | some (.tuple l) => (match l[i]? with
   | some v => pv v
   | none => none)
  | _ => none)
 | .unOp op _ x => (match opA T E F g x with
  | some v => K8 op v
  | none => none)
 | .binOp op t x y _ => (match opA T E F g x with
  | some u => (match opA T E F g y with
   | some v => Hq X.P t op u v
   | none => none)
  | none => none)
 | .convert s d x => (match opA T E F g x with
  | some (.int _ m) => ifS ( KA X.P s ) (match tyK X.P d with
   | some k => pv (.int k (k.wrap m))
   | none => none) none
  | _ => none)
 | .index t x y => ifS ( isStr X.P t ) ( (match opA T E F g x, opA T E F g y with
   | some (.str l), some (.int _ i) => some (some (inB i l.length), .int .u8 (gK l i))
   | _, _ => none)
  ) none
 | .slice t x lo hi none => ifS ( isStr X.P t ) ( (match opA T E F g x with
   | some (.str l) => (match loA T E F g lo with
    | some i => (match hiA T E F g hi with
     | some j => some (some (mo i (j.getD (l.length : Int)) l.length), .str (cut l i (j.getD (l.length : Int))))
     | none => none)
    | none => none)
   | _ => none)
  ) none
 | .field t x k => (match opA T E F g x with
  | some (.agg cs) => (match G9 X.P t k with
   | some f => (match kS X.P f.1 (cs.drop f.2.1) with
    | some v => pv v
    | none => none)
   | none => none)
  | _ => none)
 | .fieldAddr t x k => (match G9 X.P t k with
  | some f => ifS ( Nat.beq f.2.2 0 ) none (match opA T E F g x with
   | some (.ptr id o) => pv (.ptr id (o + f.2.1))
   | some (.adr id o) => pv (.adr id (o + f.2.1))
   | _ => none)
  | none => none)
 | .build t ps => (match ov T E F g (ps.toList.map (·.2)) with
  | some vs => (match Dd X.P t ((ps.toList.map (·.1)).zip vs) with
   | some cs => pv (.agg cs)
   | none => none)
  | none => none)
 | .makeFunc (.func f) a b => (match ov T E F g a.toList with
  | some us => (match ov T E F g b.toList with
   | some vs => pv (.fn f us vs)
   | none => none)
  | none => none)
 | .makeInterface t x => (match opA T E F g x with
  | some v => ifS ( xj X.P t ) ( pv (.ifc t v) ) none
  | none => none)
 | .typeAssert x _ t false => (match opA T E F g x with
  | some (.ifc t' v) => ifS ( Nat.beq t t' && xj X.P t ) ( pv v ) none
  | _ => none)
 | .call c => C3 X T E F g c.callee c.args.toList c.argTypes.toList
 | _ => none
theorem add_plain {b o k : Nat} : (⟨b, o, none⟩ : Addr).add k = ⟨b, o + k, none⟩ := by
 unfold Addr.add
 split
 ·rename_i h; subst h; rfl
 ·rfl
theorem add_add {a : Addr} {j k : Nat} : (a.add j).add k = a.add (j + k) := by
 by_cases hj : j = 0
 ·subst hj
  have : a.add 0 = a := by simp [Addr.add]
  rw [this, Nat.zero_add]
 ·by_cases hk : k = 0
  ·subst hk; simp [Addr.add]
  ·simp [Addr.add, hj, hk, Nat.add_assoc]
theorem K5 {α : Type} {l : List α} {v : α} (h : l.head? = some v) : l[0]? = some v := by
 cases l with
 | nil => simp at h
 | cons a l => simpa using h
section
variable {X : Cx} {ρ : Nms} {T : Tbl} {E F : aj} {g : GK} {w : World} {dst : Option Tmp} {ty : TypeId} {pos : String} {af : Array Edge} {gd : Option (Nat × Bool)}
theorem nF {t : TypeId} {off : Nat} {cs : List AV} {v : AV} (h : kS X.P t (cs.drop off) = some v) : ∃ d n bytes z, X.P.underlying t = some d ∧ (ji d = true → TI X.P t n bytes z) ∧
  (if ji d then some (.agg (((AV.ae ρ cs).drop off).take n).toArray) else (AV.ae ρ cs)[off]?) = some (v.val ρ) := by
 unfold kS at h
 split at h
 ·rename_i d hd
  rcases cW h with ⟨h1, h2⟩ | ⟨h1, h2⟩
  ·split at h2
   ·rename_i x hx
    obtain ⟨n, bytes, z⟩ := x
    obtain ⟨h3, h4⟩ := al h2
    cases h4
    refine ⟨d, n, bytes, z, hd, fun _ => cH hx, ?_⟩
    rw [if_pos h1]
    simp only [AV.val, AV.iE, AV.eP]
   ·cases h2
  ·refine ⟨d, 0, 0, .bool false, hd, (fun h => by rw [h1] at h; cases h), ?_⟩
   rw [if_neg (by rw [h1]; simp)]
   have h3 := AV.El (ρ := ρ) (K5 h2)
   rw [AV.eP, List.getElem?_drop] at h3
   simpa using h3
 ·cases h
theorem H5 {c : Callee} {xs : Array Operand} {ts : Array TypeId} {cv : Option Bool × AV} (h : C3 X T E F g c xs.toList ts.toList = some cv) :
  jJ X.P (ai ρ T E F) ρ (T.get g) ⟨dst, .call ⟨c, xs, ts⟩, ty, pos, af, gd⟩ w cv := by
 obtain ⟨xs⟩ := xs
 obtain ⟨ts⟩ := ts
 unfold C3 at h
 split at h
 ·rename_i x t e1 e2
  simp only at e1 e2; subst e1; subst e2
  obtain ⟨h1, h2⟩ := al h
  split at h2
  ·rename_i l hx
   have := ay (ρ := ρ) hx
   simp only [AV.val] at this
   exact .pv h2 (Mu (ku h1) this)
  ·cases h2
 ·rename_i x y t t' e1 e2
  simp only at e1 e2; subst e1; subst e2
  split at h
  ·rename_i k m k' l hx hy
   obtain ⟨h1, h2⟩ := al h
   have := ja h1; subst this
   have h3 := ay (ρ := ρ) hx
   have h4 := ay (ρ := ρ) hy
   simp only [AV.val] at h3 h4
   exact .pv h2 (L6 h3 h4 (Kh _ _ _ _ _))
  ·cases h
 ·rename_i x y t t' e1 e2
  simp only at e1 e2; subst e1; subst e2
  split at h
  ·rename_i k m k' l hx hy
   obtain ⟨h1, h2⟩ := al h
   have := ja h1; subst this
   have h3 := ay (ρ := ρ) hx
   have h4 := ay (ρ := ρ) hy
   simp only [AV.val] at h3 h4
   exact .pv h2 (Ms h3 h4 (J5 _ _ _ _ _))
  ·cases h
 ·cases h
theorem K6 {op : Op} {cv : Option Bool × AV} (hT : dq T E F) (h : Lm X T E F g op = some cv) :
  jJ X.P (ai ρ T E F) ρ (T.get g) ⟨dst, op, ty, pos, af, gd⟩ w cv := by
 unfold Lm at h
 split at h
 ·split at h
  ·rename_i v hv; exact .pv h (Kd (ay hv))
  ·cases h
 ·split at h
  ·rename_i v hv; exact .pv h (Hw (ay hv))
  ·cases h
 ·rename_i c a b
  rcases cW h with ⟨h1, h2⟩ | ⟨_, h2⟩
  ·have := OQ h1; subst this
   split at h2
   ·rename_i y hy
    obtain ⟨k1, k2⟩ := ED (ρ := ρ) (b := y.1) (y := y.2) hT hy
    exact .pv h2 (N4 k1 (by simpa [oD] using k2))
   ·cases h2
  ·obtain ⟨h1, h2⟩ := al h2
   have := Ns h1; subst this
   split at h2
   ·rename_i y hy
    obtain ⟨k1, k2⟩ := ED (ρ := ρ) (b := y.1) (y := y.2) hT hy
    exact .pv h2 (O5 k1 (by simpa [oD] using k2))
   ·cases h2
 ·split at h
  ·rename_i v hv
   obtain ⟨h1, h2⟩ := al h
   exact .pv h2 (Ja (ay hv) h1)
  ·cases h
 ·split at h
  ·rename_i l hv
   split at h
   ·rename_i v hl
    have h3 := ay (ρ := ρ) hv
    simp only [AV.val] at h3
    exact .pv h (EO h3 (AV.El hl))
   ·cases h
  ·cases h
 ·split at h
  ·rename_i v hv; exact Mc (ay hv) h
  ·cases h
 ·split at h
  ·rename_i u hu
   split at h
   ·rename_i v hv
    exact JN (ay hu) (ay hv) h
   ·cases h
  ·cases h
 ·split at h
  ·rename_i k' m hx
   obtain ⟨h1, h2⟩ := al h
   obtain ⟨ds, hds⟩ := O8 h1
   split at h2
   ·rename_i k hk
    have h3 := ay (ρ := ρ) hx
    simp only [AV.val] at h3
    exact .pv h2 (KO hds (Ak hk) h3)
   ·cases h2
  ·cases h
 ·obtain ⟨h1, h2⟩ := al h
  split at h2
  ·rename_i l k i hx hy
   have h3 := ay (ρ := ρ) hx
   have h4 := ay (ρ := ρ) hy
   simp only [AV.val] at h3 h4
   cases h2
   exact fun hc => LA (ku h1) h3 h4 (fun hg => hc _ rfl hg)
  ·cases h2
 ·obtain ⟨h1, h2⟩ := al h
  split at h2
  ·rename_i l hx
   split at h2
   ·rename_i i hi
    split at h2
    ·rename_i j hj
     have h3 := ay (ρ := ρ) hx
     simp only [AV.val] at h3
     cases h2
     exact fun hc => Mr (ku h1) h3 (zD hi) (CT hj) (fun hg => hc _ rfl hg)
    ·cases h2
   ·cases h2
  ·cases h2
 ·split at h
  ·rename_i cs hx
   split at h
   ·rename_i f hf
    obtain ⟨ft, off, n⟩ := f
    split at h
    ·rename_i v hv
     obtain ⟨fs, f, i, k1, k2, k3, k4, k5, k6⟩ := Gp hf
     obtain ⟨d, n', bytes, z, c1, c2, c3⟩ := nF (ρ := ρ) hv
     have h3 := ay (ρ := ρ) hx
     simp only [AV.val] at h3
     cases hd : ji d
     ·refine .pv h (fun n2 a hf hg => ?_)
      have h5 := h3 n2 a hf hg
      rw [hd] at c3
      simp only [Bool.false_eq_true, if_false] at c3
      have hp := Ic (P := X.P) (w := w) c1 hd c3
      subst k3; subst k4
      simp only [execOp, h5, Instr.field, Sem.run_bind, run_underlying k1, Result.andThen_ok, k2, asAgg, Sem.run_pure, hp]
     ·exact .pv h (JR k1 k2 k3 k4 c1 (c2 hd) h3 c3)
    ·cases h
   ·cases h
  ·cases h
 ·split at h
  ·rename_i f hf
   obtain ⟨ft, off, n⟩ := f
   obtain ⟨fs, f, i, k1, k2, k3, k4, k5, k6⟩ := Gp hf
   obtain ⟨h1, h2⟩ := HA h
   have hfo : Gs X.P _ _ off := ⟨fs, f, i, k1, k2, k4, by rw [k3]; exact k5, by rw [k6]; exact Nat.ne_of_beq_eq_false h1⟩
   split at h2
   ·rename_i id o hx
    have h3 := ay (ρ := ρ) hx
    simp only [AV.val] at h3
    refine .pv h2 ?_
    simp only [AV.val]
    have := vy (dst := dst) (ty := ty) (pos := pos) (af := af) (gd := gd) (w := w) hfo h3
    rwa [add_plain] at this
   ·rename_i id o hx
    have h3 := ay (ρ := ρ) hx
    simp only [AV.val] at h3
    refine .pv h2 ?_
    simp only [AV.val]
    have := vy (dst := dst) (ty := ty) (pos := pos) (af := af) (gd := gd) (w := w) hfo h3
    rwa [add_add] at this
   ·cases h2
  ·cases h
 ·rename_i t ps
  split at h
  ·rename_i vs hvs
   split at h
   ·rename_i cs hcs
    refine .pv h ?_
    simp only [AV.val]
    have h3 := iv (ρ := ρ) hvs
    have := Iu (P := X.P) (w := w) (dst := dst) (ty := ty) (pos := pos) (af := af) (gd := gd) (t := t) (v := .agg (AV.ae ρ cs).toArray) h3 (fun w => by
     rw [← vg]; exact IF hcs)
    simpa using this
   ·cases h
  ·cases h
 ·rename_i f a b
  split at h
  ·rename_i us hus
   split at h
   ·rename_i vs hvs
    refine .pv h ?_
    simp only [AV.val]
    have := CS (P := X.P) (w := w) (dst := dst) (ty := ty) (pos := pos) (af := af) (gd := gd) (fn := .func f) (iv (ρ := ρ) hus) (iv (ρ := ρ) hvs)
    simpa using this
   ·cases h
  ·cases h
 ·split at h
  ·rename_i v hv
   obtain ⟨h1, h2⟩ := al h
   obtain ⟨d, k1, k2⟩ := zR h1
   refine .pv h2 ?_
   simp only [AV.val]
   exact ES k1 k2 (ay hv)
  ·cases h
 ·split at h
  ·rename_i t' v hv
   obtain ⟨h1, h2⟩ := al h
   simp only [Bool.and_eq_true] at h1
   obtain ⟨d, k1, k2⟩ := zR h1.2
   have h3 := ay (ρ := ρ) hv
   simp only [AV.val] at h3
   have e := Nat.eq_of_beq_eq_true h1.1
   subst e
   exact .pv h2 (EN k1 k2 h3)
  ·cases h
 ·exact H5 h
 ·cases h
end
end Go.Proofs.YtdhgpnejphlfpaaDoor
namespace Go.Proofs.YtdhgpnejphlfpaaDoor
open Go.Lib
def nw (G H : List Row) : AV → AV
 | .nv u => (match cX G H (isEq u) with
  | some (_, .eq _ v) => v
  | _ => .nv u)
 | v => v
theorem Eu {ρ : Nms} {T : Tbl} {G H : List Row} {Φ : Ctx} {w : World} (hs : Sat (items ρ T G ++ (items ρ T H ++ Φ)) w) {v : AV} : (nw G H v).val ρ = v.val ρ := by
 unfold nw
 split
 ·rename_i u
  split
  ·rename_i s j v' h
   obtain ⟨h1, h2⟩ := bk h
   have h3 := Src.holds hs h1
   have : j = u := Nat.eq_of_beq_eq_true h2
   subst this
   simp only [AV.val]
   exact h3.symm
  ·rfl
 ·rfl
theorem wY {ρ : Nms} {T : Tbl} {G H : List Row} {Φ : Ctx} {w : World} (hs : Sat (items ρ T G ++ (items ρ T H ++ Φ)) w) : (l : List AV) → AV.ae ρ (l.map (nw G H)) = AV.ae ρ l
 | [] => rfl
 | v :: l => by simp only [List.map_cons, AV.ae]; rw [Eu hs, wY hs l]
def zz : Ty → Bool
 | .i _ | .bo | .s | .un => true
 | .p x y => zz x && zz y
 | _ => false
def pW : (t : Ty) → t.T → List AV
 | .i k, x => [.int k x]
 | .bo, x => [.bool x]
 | .s, x => [.str x]
 | .p a b, x => pW a x.1 ++ pW b x.2
 | _, _ => []
theorem yV {ρ : Nms} {M : Nat → Prop} {w : World} : (t : Ty) → (x : t.T) → (vs : List Value) → zz t = true → t.rep.rd M w vs x → vs = AV.ae ρ (pW t x)
 | .i k, x, vs, _, h => by simp only [pW, AV.ae, AV.val]; exact h
 | .bo, x, vs, _, h => by simp only [pW, AV.ae, AV.val]; exact h
 | .s, x, vs, _, h => by simp only [pW, AV.ae, AV.val]; exact h
 | .un, x, vs, _, h => by simp only [pW, AV.ae]; exact h
 | .p a b, x, vs, hf, h => by
  simp only [zz, Bool.and_eq_true] at hf
  obtain ⟨us, us', rfl, h1, h2⟩ := h
  rw [pW, cE, ← yV a x.1 us hf.1 h1, ← yV b x.2 us' hf.2 h2]
 | .l _, _, _, hf, _ => by cases hf
 | .ex, _, _, hf, _ => by cases hf
 | .n, _, _, hf, _ => by cases hf
 | .mp _ _, _, _, hf, _ => by cases hf
def C7 (T : Tbl) (G H : List Row) (g : GK) (q off : Nat) : Option (List AV) := match cX G H (y4 q) with
 | some (_, .kn g' _ id ver u _ x) => ifS ( T.imp g g' && zz u ) ( match cX G H (j9 id) with
  | some (_, .own _ _ _ _ ver') => ifS ( Nat.beq ver ver' ) ( some ((pW u x).drop off) ) none
  | _ => none ) none
 | _ => none
theorem xK {t t' : Ty} {l : List t.T} {l' : List t'.T} {y : Dyn} (h : y = ⟨.l t, l⟩) (h' : y = ⟨.l t', l'⟩) : ∃ e : t = t', e ▸ l = l' := by
 rw [h] at h'
 cases h'
 exact ⟨rfl, rfl⟩
theorem IT {ρ : Nms} {T : Tbl} {G H : List Row} {Φ : Ctx} {w : World} {g : GK} {q off : Nat} {vs : List AV} (hs : Sat (items ρ T G ++ (items ρ T H ++ Φ)) w) (h : C7 T G H g q off = some vs) (hg : T.get g = true) :
  aI w ((ρ q).a.add off) (AV.ae ρ vs) := by
 unfold C7 at h
 split at h
 ·rename_i s g' q' id ver u i xe hf
  obtain ⟨h1, h2⟩ := al h
  simp only [Bool.and_eq_true] at h1
  split at h2
  ·rename_i s2 id' u' e l ver' hf2
   obtain ⟨h3, h4⟩ := al h2
   cases h4
   obtain ⟨f1, f2⟩ := bk hf
   obtain ⟨f3, f4⟩ := bk hf2
   have e1 : q' = q := Nat.eq_of_beq_eq_true f2
   have e2 : id' = id := Nat.eq_of_beq_eq_true f4
   have e3 : ver = ver' := Nat.eq_of_beq_eq_true h3
   subst e1; subst e2; subst e3
   obtain ⟨hO, hy2⟩ := Src.holds hs f3
   obtain ⟨l0, b1, b2, b3⟩ := (Src.holds hs f1) (Tbl.gR h1.1 hg)
   obtain ⟨e4, e5⟩ := xK b1 hy2
   subst e4
   simp only at e5
   subst e5
   obtain ⟨_, us, e6, e7⟩ := hO.atA b2
   rw [yV (ρ := ρ) u xe us h1.2 e7] at e6
   rw [← b3] at e6
   refine e6.sub _ ?_
   rw [AV.eP, List.take_of_length_le (Nat.le_refl _)]
  ·cases h2
 ·cases h
def tC (T : Tbl) (G H : List Row) (g : GK) : AV → Option (List AV)
 | .ptr id off => (match cX G H (sN id) with
  | some (_, .box _ _ vs) => some ((vs.drop off).map (nw G H))
  | _ => none)
 | .adr id off => (match cX G H (P4 id) with
  | some (_, .elm g' _ vs) => ifS ( T.imp g g' ) ( some (vs.drop off) ) none
  | _ => C7 T G H g id off)
 | _ => none
theorem Bn {ρ : Nms} {T : Tbl} {G H : List Row} {Φ : Ctx} {w : World} {g : GK} {v : AV} {vs : List AV} (hs : Sat (items ρ T G ++ (items ρ T H ++ Φ)) w) (h : tC T G H g v = some vs) (hg : T.get g = true) :
  ∃ p, v.val ρ = .pointer (some p) ∧ aI w p (AV.ae ρ vs) := by
 have sub : ∀ {p : Addr} {us : List AV} {off : Nat}, aI w p (AV.ae ρ us) → aI w (p.add off) (AV.ae ρ (us.drop off)) := fun h => by
  refine h.sub _ ?_
  rw [AV.eP, List.take_of_length_le (Nat.le_refl _)]
 unfold tC at h
 split at h
 ·rename_i id off
  split at h
  ·rename_i s j t us hf
   cases h
   obtain ⟨h1, h2⟩ := bk hf
   have : j = id := Nat.eq_of_beq_eq_true h2
   subst this
   have hb : cY w (ρ j).b t (AV.ae ρ us) := Src.holds hs h1
   refine ⟨⟨(ρ j).b, off, none⟩, by simp only [AV.val], ?_⟩
   rw [wY hs, AV.eP]
   exact hb.part off (by rw [List.take_of_length_le (Nat.le_refl _)])
  ·cases h
 ·rename_i id off
  split at h
  ·rename_i s g' j us hf
   obtain ⟨h3, h4⟩ := al h
   cases h4
   obtain ⟨h1, h2⟩ := bk hf
   have : j = id := Nat.eq_of_beq_eq_true h2
   subst this
   have hb := Src.holds hs h1
   exact ⟨_, by simp only [AV.val], sub (hb (Tbl.gR h3 hg)).2⟩
  ·exact ⟨(ρ id).a.add off, by simp only [AV.val], IT hs h hg⟩
 ·cases h
def Ey (t : Ty) (v : AV) : Option t.T := match t, v with
 | .i k, .int k' x => ifS ( eZ k k' ) ( some x ) none
 | .s, .str x => some x
 | .bo, .bool x => some x
 | _, _ => none
theorem AD {ρ : Nms} {t : Ty} {v : AV} {x : t.T} (h : Ey t v = some x) : v.val ρ = ta t x := by
 unfold Ey at h
 split at h
 ·obtain ⟨h1, h2⟩ := al h
  have := ja h1; subst this
  cases h2
  simp only [AV.val]; rfl
 ·cases h; simp only [AV.val]; rfl
 ·cases h; simp only [AV.val]; rfl
 ·cases h
def HG (t : Ty) (x : t.T) : AV := match t, x with
 | .i k, x => .int k x
 | .s, x => .str x
 | .bo, x => .bool x
 | _, _ => .bool false
theorem F3 {ρ : Nms} {t : Ty} {x : t.T} : (HG t x).val ρ = ta t x := by
 cases t <;> simp only [HG, ta, AV.val]
instance keyBEq (t : Ty) : BEq t.T := match t with
 | .i _ => (inferInstance : BEq Int)
 | .s => (inferInstance : BEq Str)
 | .bo => (inferInstance : BEq Bool)
 | _ => ⟨fun _ _ => false⟩
def Ty.lh : (t : Ty) → t.T
 | .i _ => (0 : Int)
 | .bo => false
 | .s => ([] : Str)
 | .un => ()
 | .n => (0 : Nat)
 | .p x y => (x.lh, y.lh)
 | .l x => ([] : List x.T)
 | .mp k v => (none : Option (List (k.T × v.T)))
 | .ex => Ex.mk 0 0 0 []
def GQ (P : Program) (kt : TypeId) (k : Ty) : Bool := match k with
 | .i k => (match tyK P kt with
  | some k' => eZ k k'
  | none => false)
 | .s => isStr P kt
 | _ => false
theorem Au {P : Program} {kt : TypeId} {k : Ty} (h : GQ P kt k = true) : rH P kt (ta k) := by
 unfold GQ at h
 split at h
 ·split at h
  ·rename_i k' hk
   have := ja h; subst this
   exact rH.int (Ak hk)
  ·cases h
 ·exact rH.str (ku h)
 ·cases h
def HR (v : Ty) (z : Value) : Bool := match v, z with
 | .i k, .int k' x => eZ k k' && decide (x = 0)
 | .bo, .bool b => !b
 | .s, .string b => b.data.toList.isEmpty
 | _, _ => false
theorem Kr {v : Ty} {z : Value} (h : HR v z = true) : z = ta v v.lh := by
 unfold HR at h
 split at h
 ·simp only [Bool.and_eq_true, decide_eq_true_eq] at h
  have := ja h.1; subst this
  rw [h.2]; rfl
 ·rename_i b; cases b
  ·rfl
  ·cases h
 ·rename_i b
  have : b.data.toList = [] := by simpa using h
  show _ = S []
  unfold S
  rw [← this]
 ·cases h
def AT (P : Program) (t : TypeId) : Option (TypeId × TypeId) := match P.underlying t with
 | some (.map k v) => some (k, v)
 | _ => none
theorem om {P : Program} {t : TypeId} {p : TypeId × TypeId} (h : AT P t = some p) : P.underlying t = some (.map p.1 p.2) := by
 unfold AT at h
 split at h
 ·rename_i k v hk; cases h; exact hk
 ·cases h
def fF (P : Program) (t : TypeId) : Option TypeId := match P.underlying t with
 | some (.slice e) => some e
 | _ => none
theorem bw {P : Program} {t e : TypeId} (h : fF P t = some e) : P.underlying t = some (.slice e) := by
 unfold fF at h
 split at h
 ·rename_i k hk; cases h; exact hk
 ·cases h
structure SlA where
 g : GK
 t : Ty
 l : List t.T
def slA (G H : List Row) (id : Nat) : Option SlA := match cX G H (j9 id) with
 | some (_, .sli g _ t l _) => some ⟨g, t, l⟩
 | some (_, .own _ t _ l _) => some ⟨none, t, l⟩
 | _ => none
theorem Du {ρ : Nms} {T : Tbl} {G H : List Row} {Φ : Ctx} {w : World} {id : Nat} {s : SlA} (hs : Sat (items ρ T G ++ (items ρ T H ++ Φ)) w) (h : slA G H id = some s) (hg : T.get s.g = true) :
  (SRd s.t.rep (Ctx.M (items ρ T G ++ (items ρ T H ++ Φ))) w (sl (ρ id).v) s.l) ∨ ∃ e, Own s.t.rep e (Ctx.M (items ρ T G ++ (items ρ T H ++ Φ))) w (sl (ρ id).v) s.l (slR (ρ id).v) := by
 unfold slA at h
 split at h
 ·rename_i s' g j t l b hf
  cases h
  obtain ⟨h1, h2⟩ := bk hf
  have : j = id := Nat.eq_of_beq_eq_true h2
  subst this
  exact .inl ((Src.holds hs h1) hg).1
 ·rename_i s' j t e l ks hf
  cases h
  obtain ⟨h1, h2⟩ := bk hf
  have : j = id := Nat.eq_of_beq_eq_true h2
  subst this
  exact .inr ⟨e, (Src.holds hs h1).1⟩
 ·cases h
theorem AS {ρ : Nms} {T : Tbl} {G H : List Row} {Φ : Ctx} {w : World} {id : Nat} {s : SlA} (hs : Sat (items ρ T G ++ (items ρ T H ++ Φ)) w) (h : slA G H id = some s) (hg : T.get s.g = true) : Len (sl (ρ id).v) s.l.length := by
 rcases Du hs h hg with h | ⟨e, h⟩
 ·exact h.len
 ·exact h.len
theorem Oa {ρ : Nms} {T : Tbl} {G H : List Row} {Φ : Ctx} {w : World} {id : Nat} {s : SlA} (hs : Sat (items ρ T G ++ (items ρ T H ++ Φ)) w) (h : slA G H id = some s) (hg : T.get s.g = true) : SRd s.t.rep (fun _ => False) w (sl (ρ id).v) s.l := by
 rcases Du hs h hg with h | ⟨e, h⟩
 ·exact h.mv (Mv.weaken w fun _ h => h.elim)
 ·exact h.freeze (fun _ _ h => h) (Mv.weaken w fun _ h => h.elim)
def KJ (T : Tbl) (G H : List Row) (g : GK) (v : AV) : Option (List Int) := match v with
 | .sl id => (match slA G H id with
  | some ⟨g', .i .u8, l⟩ => ifS ( T.imp g g' ) ( some l ) none
  | _ => none)
 | .raw (.slice none 0 0) => some []
 | _ => none
theorem Nk {ρ : Nms} {T : Tbl} {G H : List Row} {Φ : Ctx} {w : World} {g : GK} {v : AV} {l : List Int} (hs : Sat (items ρ T G ++ (items ρ T H ++ Φ)) w) (h : KJ T G H g v = some l) (hg : T.get g = true) : SRd (RI .u8) (fun _ => False) w (v.val ρ) l := by
 unfold KJ at h
 split at h
 ·split at h
  ·rename_i g' l' hl
   obtain ⟨h1, h2⟩ := al h
   cases h2
   have := Oa hs hl (Tbl.gR h1 hg)
   simp only [AV.val]
   exact this
  ·cases h
 ·cases h; simp only [AV.val]; exact SRd.nil
 ·cases h
def CG (X : Cx) (T : Tbl) (E F : aj) (G H : List Row) (g : GK) (c : Callee) (xs : List Operand) (ts : List TypeId) : CV := match c, xs, ts with
 | .builtin .len, [x], [t] => (match fF X.P t with
  | some _ => (match opA T E F g x with
   | some (.sl id) => (match slA G H id with
    | some s => ifS ( T.imp g s.g ) ( pv (.int .i64 (s.l.length : Int)) ) none
    | none => none)
   | some (.raw (.slice none 0 0)) => pv (.int .i64 0)
   | _ => none)
  | none => none)
 | _, _, _ => none
def HW (X : Cx) (T : Tbl) (E F : aj) (G H : List Row) (g : GK) (op : BinOp) (t : TypeId) (x y : Operand) : CV := match AT X.P t with
 | some _ => (match opA T E F g y with
  | some (.raw (.map none)) => (match opA T E F g x with
   | some (.mp id) => (match cX G H (H8 id) with
    | some (_, .mp _ _ _ d) => (match op with
     | .eql => pv (.bool (Option.isNone d))
     | .neq => pv (.bool (!(Option.isNone d)))
     | _ => none)
    | _ => none)
   | some (.raw (.map none)) => (match op with
    | .eql => pv (.bool true)
    | .neq => pv (.bool false)
    | _ => none)
   | _ => none)
  | _ => none)
 | none => none
def Mw (X : Cx) (T : Tbl) (E F : aj) (G H : List Row) (g : GK) : Op → CV
 | .load t x => (match opA T E F g x with
  | some v => (match tC T G H g v with
   | some cs => (match kS X.P t cs with
    | some v => pv v
    | none => none)
   | none => none)
  | none => none)
 | .convert s d x => ifS ( isStr X.P d ) ( (match fF X.P s with
  | some e => (match tyK X.P e with
   | some .u8 => (match opA T E F g x with
    | some v => (match KJ T G H g v with
     | some l => pv (.str (strOf l))
     | none => none)
    | none => none)
   | _ => none)
  | none => none) ) none
 | .lookup t x y ok => (match AT X.P t with
  | some p => (match opA T E F g x with
   | some (.mp id) => (match opA T E F g y with
    | some kv => (match cX G H (H8 id) with
     | some (_, .mp _ k v d) => (match tiA X.P p.2 with
      | some z => ifS ( GQ X.P p.1 k && HR v z.2.2 ) ( (match Ey k kv with
       | some key => ifS ( ok ) ( pv (.tuple [HG v (qq d key v.lh), .bool (AO d key)]) ) <| pv (HG v (qq d key v.lh))
       | none => none) ) none
      | none => none)
     | _ => none)
    | none => none)
   | _ => none)
  | none => none)
 | .call c => CG X T E F G H g c.callee c.args.toList c.argTypes.toList
 | .binOp op t x y _ => HW X T E F G H g op t x y
 | _ => none
section
variable {X : Cx} {ρ : Nms} {T : Tbl} {E F : aj} {G H : List Row} {Φ : Ctx} {g : GK} {w : World} {dst : Option Tmp} {ty : TypeId} {pos : String} {af : Array Edge} {gd : Option (Nat × Bool)}
theorem HU {P : Program} {Ev : Env} {b : Bool} {o : Oper} {v : Value} (h : b = true → Run P Ev b o w v) : Run P Ev b o w v := fun n a hf hg => h hg n a hf hg
theorem K0 {x : Operand} {t : TypeId} {u v : AV} {cs : List AV} (hs : Sat (items ρ T G ++ (items ρ T H ++ Φ)) w) (hx : opA T E F g x = some u) (hc : tC T G H g u = some cs) (h : kS X.P t cs = some v) :
  Run X.P (ai ρ T E F) (T.get g) ⟨dst, .load t x, ty, pos, af, gd⟩ w (v.val ρ) := HU fun hg => by
 obtain ⟨p, hp, hc⟩ := Bn hs hc hg
 have hx' := ay (ρ := ρ) hx
 rw [hp] at hx'
 have h' : kS X.P t (cs.drop 0) = some v := by simpa using h
 obtain ⟨d, n, bytes, z, c1, c2, c3⟩ := nF (ρ := ρ) h'
 cases hd : ji d
 ·rw [hd] at c3
  simp only [Bool.false_eq_true, if_false] at c3
  refine wJ c1 hd hx' (fun _ => ?_)
  have := hc.sub (us := [v.val ρ]) 0 (by
   cases hq : AV.ae ρ cs with
   | nil => rw [hq] at c3; cases c3
   | cons a l => rw [hq] at c3; cases c3; simp)
  simpa [Addr.add] using this
 ·unfold kS at h
  rw [c1] at h
  rcases cW h with ⟨_, h2⟩ | ⟨h1, _⟩
  ·split at h2
   ·rename_i q hq
    obtain ⟨n, bytes, z⟩ := q
    obtain ⟨h3, h4⟩ := al h2
    cases h4
    have hl : n ≤ cs.length := Nat.le_of_ble_eq_true h3
    simp only [AV.val]
    refine wo c1 hd (cH hq) hx' (fun _ => ?_) ?_
    ·have := hc.sub (us := AV.ae ρ (cs.take n)) 0 (by
      rw [AV.iE, List.drop_zero, List.length_take, AV.aK, Nat.min_eq_left hl])
     simpa [Addr.add] using this
    ·rw [AV.aK, List.length_take, Nat.min_eq_left hl]
   ·cases h2
  ·rw [hd] at h1; cases h1
theorem Hl {c : Callee} {xs : Array Operand} {ts : Array TypeId} {cv : Option Bool × AV} (hs : Sat (items ρ T G ++ (items ρ T H ++ Φ)) w) (h : CG X T E F G H g c xs.toList ts.toList = some cv) :
  jJ X.P (ai ρ T E F) ρ (T.get g) ⟨dst, .call ⟨c, xs, ts⟩, ty, pos, af, gd⟩ w cv := by
 obtain ⟨xs⟩ := xs
 obtain ⟨ts⟩ := ts
 unfold CG at h
 split at h
 ·rename_i x t e1 e2
  simp only at e1 e2; subst e1; subst e2
  split at h
  ·rename_i e he
   split at h
   ·rename_i id hx
    have h3 := ay (ρ := ρ) hx
    simp only [AV.val] at h3
    split at h
    ·rename_i s hsl
     obtain ⟨h1, h2⟩ := al h
     exact .pv h2 (HU fun hg => wV (bw he) h3 (AS hs hsl (Tbl.gR h1 hg)))
    ·cases h
   ·rename_i hx
    have h3 := ay (ρ := ρ) hx
    simp only [AV.val] at h3
    exact .pv h (wV (n := 0) (bw he) h3 ⟨_, _, rfl⟩)
   ·cases h
  ·cases h
 ·cases h
theorem JT {op : BinOp} {t t' : TypeId} {x y : Operand} {cv : Option Bool × AV} (hs : Sat (items ρ T G ++ (items ρ T H ++ Φ)) w) (h : HW X T E F G H g op t x y = some cv) :
  jJ X.P (ai ρ T E F) ρ (T.get g) ⟨dst, .binOp op t x y t', ty, pos, af, gd⟩ w cv := by
 unfold HW at h
 split at h
 ·rename_i p hp
  split at h
  ·rename_i hy
   have h4 := ay (ρ := ρ) hy
   simp only [AV.val] at h4
   split at h
   ·rename_i id hx
    have h3 := ay (ρ := ρ) hx
    simp only [AV.val] at h3
    split at h
    ·rename_i s j k v d hf
     obtain ⟨f1, f2⟩ := bk hf
     have : j = id := Nat.eq_of_beq_eq_true f2
     subst this
     have hb := Src.holds hs f1
     split at h
     ·exact .pv h (zf (om hp) h3 h4 hb)
     ·exact .pv h (Ah (om hp) h3 h4 hb)
     ·cases h
    ·cases h
   ·rename_i hx
    have h3 := ay (ρ := ρ) hx
    simp only [AV.val] at h3
    split at h
    ·exact .pv h (EX (om hp) h3 h4)
    ·exact .pv h (Fi (om hp) h3 h4)
    ·cases h
   ·cases h
  ·cases h
 ·cases h
theorem Lu {op : Op} {cv : Option Bool × AV} (hs : Sat (items ρ T G ++ (items ρ T H ++ Φ)) w) (h : Mw X T E F G H g op = some cv) :
  jJ X.P (ai ρ T E F) ρ (T.get g) ⟨dst, op, ty, pos, af, gd⟩ w cv := by
 unfold Mw at h
 split at h
 ·split at h
  ·rename_i v hv
   split at h
   ·rename_i cs hcs
    split at h
    ·rename_i v' hv'
     exact .pv h (K0 hs hv hcs hv')
    ·cases h
   ·cases h
  ·cases h
 ·obtain ⟨h1, h2⟩ := al h
  split at h2
  ·rename_i e he
   split at h2
   ·rename_i hk
    split at h2
    ·rename_i v hv
     split at h2
     ·rename_i l hl
      refine .pv h2 (HU fun hg => ?_)
      have h3 := ay (ρ := ρ) hv
      simp only [AV.val]
      exact Ou (M := fun _ => False) (bw he) (Ak hk) (ku h1) h3 (fun _ => Nk hs hl hg)
     ·cases h2
    ·cases h2
   ·cases h2
  ·cases h2
 ·rename_i t x y ok
  split at h
  ·rename_i p hp
   split at h
   ·rename_i id hx
    split at h
    ·rename_i kv hy
     split at h
     ·rename_i s j k v d hf
      split at h
      ·rename_i z hz
       obtain ⟨h1, h2⟩ := al h
       simp only [Bool.and_eq_true] at h1
       split at h2
       ·rename_i key hkey
        obtain ⟨f1, f2⟩ := bk hf
        have : j = id := Nat.eq_of_beq_eq_true f2
        subst this
        have hb := Src.holds hs f1
        have h3 := ay (ρ := ρ) hx
        have h4 := ay (ρ := ρ) hy
        simp only [AV.val] at h3
        rw [AD hkey] at h4
        obtain ⟨z1, z2, z3⟩ := z
        have hz' : (zeroValue p.2).run X.P w = .ok (ta v v.lh) w := by
         rw [← Kr h1.2]; exact (cH hz).zero w
        cases ok
        ·refine .pv h2 ?_
         rw [F3]
         exact HZ (Au h1.1) (om hp) hz' h3 h4 (fun _ => hb)
        ·refine .pv h2 ?_
         simp only [AV.val, AV.ae]
         rw [F3]
         exact DO (Au h1.1) (om hp) hz' h3 h4 (fun _ => hb)
       ·cases h2
      ·cases h
     ·cases h
    ·cases h
   ·cases h
  ·cases h
 ·exact Hl hs h
 ·exact JT hs h
 ·cases h
end
def aN (P : Program) (E : Env) (o : Oper) (w : World) (R : Value → World → Prop) : Prop :=
 ∀ n a, Fits n E a → (∃ v w', (execOp a.eval o).run P w = .ok (.value v) w' ∧ R v w') ∨ (∃ w', (execOp a.eval o).run P w = .ok .skip w' ∧ R undef w') ∨
  (∃ (f : FuncId) (args : List Value), (execOp a.eval o).run P w = .ok (.enter f args.toArray) w ∧ nH P f args w R)
section
variable {P : Program} {σ : Option Nat} {Q : aC} {n : Nat} {D : List Deferred} {E : Env} {w : World} {ops : Array Oper} {rest : List Oper} {o : Oper} {R S : Value → World → Prop}
theorem aN.mono (h : aN P E o w R) (k : ∀ v w', R v w' → S v w') : aN P E o w S := fun n a hf => by
 rcases h n a hf with ⟨v, w', h1, h2⟩ | ⟨w', h1, h2⟩ | ⟨f, args, h1, h2⟩
 ·exact .inl ⟨v, w', h1, k _ _ h2⟩
 ·exact .inr (.inl ⟨w', h1, k _ _ h2⟩)
 ·exact .inr (.inr ⟨f, args, h1, h2.mono k⟩)
theorem aN.run {v : Value} (h : Run P E true o w v) (k : R v w) : aN P E o w R := fun n a hf => .inl ⟨v, w, h n a hf rfl, k⟩
theorem aN.kZ {v : Value} {w' : World} (h : ky P E o w v w') (k : R v w') : aN P E o w R := fun n a hf => .inl ⟨v, w', h n a hf, k⟩
theorem aN.Ho {w' : World} (h : vH P E o w w') (k : R undef w') : aN P E o w R := fun n a hf => .inr (.inl ⟨w', h n a hf, k⟩)
theorem aN.upon (hd : aN P E o w R) {a : Act} (hf : Fits n E a) {next : Act → World → Prop} (h : ∀ v w', R v w' → next (a.put o.dst v) w') : o.uponIn (FW σ) 0 P a next Q ((execOp a.eval o).run P w) := by
 rcases hd n a hf with ⟨v, w', h1, h2⟩ | ⟨w', h1, h2⟩ | ⟨f, args, h1, h2⟩
 ·rw [h1, Oper.uponIn_value]; exact h _ _ h2
 ·rw [h1, Oper.uponIn_skip]; exact h _ _ h2
 ·rw [h1]; exact ql h2 (fun v w' hv => h v w' hv) (fun _ _ hv => hv.elim)
def kM (dst : Option Tmp) (g : Bool) (v : Value) (E : Env) : Env := match dst with
 | some d => (d, g, v) :: E
 | none => E
def vV (n : Nat) : Option Tmp → Bool
 | some d => Nat.blt d n
 | none => true
theorem Fits.kM {E : Env} {a : Act} (h : Fits n E a) {d : Option Tmp} {g : Bool} {v : Value} (hd : vV n d = true) : Fits n (kM d g v E) (a.put d (pK g v)) := by
 cases d with
 | none => exact h
 | some d => exact h.put hd
theorem Ox (hd : aN P E o w R) (hp : gq o = true) (hg : o.guard = none) (hn : vV n o.dst = true)
  (h : ∀ v w', R v w' → WL P σ ops Q n D rest (kM o.dst true v E) w') : WL P σ ops Q n D (o :: rest) E w := fun a hf hD =>
 wpListIn_plain hg fun K hK => ie hp (hd.upon hf fun v w' hv => hK _ _ (h v w' hv _ (hf.kM hn) (by rw [fu]; exact hD)))
theorem LJ {j : Nat} {pol : Bool} {rj : Tmp} {gj bj : Bool} {g : Bool} (hd : g = true → aN P E o w R) (h0 : g = false → ∃ v, R v w) (hp : gq o = true) (hgd : o.guard = some (j, pol)) (hj : (ops[j]?).bind (·.dst) = some rj)
  (hl : look E rj = some (gj, .bool bj)) (hnj : Nat.blt rj n = true) (hG : (gj && (bj == pol)) = g) (hn : vV n o.dst = true)
  (h : ∀ v w', R v w' → WL P σ ops Q n D rest (kM o.dst g v E) w') : WL P σ ops Q n D (o :: rest) E w := fun a hf hD =>
 wpListIn_step fun K hK => by
  rw [oW hgd hj hl hf hnj, hG]
  cases g
  ·simp only [Bool.false_eq_true, if_false]
   obtain ⟨v, hv⟩ := h0 rfl
   have := hf.kM (d := o.dst) (g := false) (v := v) hn
   exact ⟨fun _ _ => trivial, hK _ _ (h _ _ hv _ this (by rw [fu]; exact hD))⟩
  ·simp only [if_true]
   exact ie hp ((hd rfl).upon hf fun v w' hv => hK _ _ (h v w' hv _ (hf.kM hn) (by rw [fu]; exact hD)))
end
end Go.Proofs.YtdhgpnejphlfpaaDoor
namespace Go.Proofs.YtdhgpnejphlfpaaDoor
open Go.Lib
abbrev Go_ (R : Type) := StB → Option R
def bT (dst : Option Tmp) (g : GK) (v : AV) (E : aj) : aj := match dst with
 | some d => (d, g, v) :: E
 | none => E
def aA {R : Type} (r : R) (K : Go_ R) (T : Tbl) (fr : Fr) (st : StB) (g : GK) (dst : Option Tmp) (ρ : Nms) (Φ : Ctx) (v : Value) (w' : World) : Prop :=
 ∃ (ρ' : Nms) (st' : StB) (av : AV), K st' = some r ∧ ax st.c ρ ρ' ∧ st.c ≤ st'.c ∧ st'.E = bT dst g av st.E ∧ av.val ρ' = v ∧ ai ρ' T st.E fr.F = ai ρ T st.E fr.F ∧
  items ρ' T fr.H = items ρ T fr.H ∧ Sat (items ρ' T st'.G ++ (items ρ' T fr.H ++ Φ)) w'
def Ok2 (P : Program) (T : Tbl) (g : GK) (Ev : Env) (o : Oper) (w : World) (O : Value → World → Prop) : Prop :=
 (T.get g = true → aN P Ev o w O) ∧ (T.get g = false → ∃ v, O v w)
section
variable {R : Type} {r : R} {K : Go_ R} {T : Tbl} {fr : Fr} {st st' : StB} {g : GK} {dst : Option Tmp} {ρ ρ' : Nms} {Φ : Ctx} {v : Value} {w w' : World}
theorem StB.bM : st.low fr = true ↔ aj.low st.c st.E = true ∧ aj.low st.c fr.F = true ∧ aO st.c st.G = true ∧ aO st.c fr.H = true := by
 simp only [StB.low, Bool.and_eq_true, and_assoc]
theorem jM (hl : st.low fr = true) (ha : ax st.c ρ ρ') : ai ρ' T st.E fr.F = ai ρ T st.E fr.F := by
 obtain ⟨h1, h2, _, _⟩ := StB.bM.1 hl
 rw [ai, kU ha h1, kU ha h2]
theorem aA.new {av : AV} (hl : st.low fr = true) (hK : K st' = some r) (ha : ax st.c ρ ρ') (hc : st.c ≤ st'.c) (hE : st'.E = bT dst g av st.E) (hv : av.val ρ' = v)
  (hs : Sat (items ρ' T st'.G ++ (items ρ T fr.H ++ Φ)) w') : aA r K T fr st g dst ρ Φ v w' := by
 have e := aE (T := T) ha (StB.bM.1 hl).2.2.2
 exact ⟨ρ', st', av, hK, ha, hc, hE, hv, jM hl ha, e, by rw [e]; exact hs⟩
theorem aA.old {av : AV} (hK : K st' = some r) (hc : st.c ≤ st'.c) (hE : st'.E = bT dst g av st.E) (hv : av.val ρ = v)
  (hs : Sat (items ρ T st'.G ++ (items ρ T fr.H ++ Φ)) w') : aA r K T fr st g dst ρ Φ v w' :=
 ⟨ρ, st', av, hK, .refl, hc, hE, hv, rfl, rfl, hs⟩
theorem aA.push {av : AV} {x : Nm} {row : Row} (hl : st.low fr = true) (hK : K { st with c := st.c + 1, E := bT dst g av st.E, G := row :: st.G } = some r) (hv : av.val (ρ.set st.c x) = v)
  (hs : Sat (row.item (ρ.set st.c x) T :: (items ρ T st.G ++ (items ρ T fr.H ++ Φ))) w') : aA r K T fr st g dst ρ Φ v w' := by
 refine aA.new hl hK Nms.aF (Nat.le_succ _) rfl hv ?_
 have e := aE (T := T) (Nms.aF (ρ := ρ) (j := st.c) (x := x)) (StB.bM.1 hl).2.2.1
 show Sat (items (ρ.set st.c x) T (row :: st.G) ++ _) w'
 rw [items, List.map_cons]
 rw [items] at e
 rw [e]
 exact hs
theorem ei {G : List Row} {row : Row} {j : Nat} {Δ : Ctx} (hj : j < G.length) : items ρ T (G.set j row) ++ Δ = (items ρ T G ++ Δ).set j (row.item ρ T) := by
 rw [List.set_append_left _ _ (by simpa [items] using hj)]
 simp only [items, List.map_set]
theorem aA.upd {av : AV} {x : Nm} {row : Row} {j : Nat} (hl : st.low fr = true) (hj : j < st.G.length) (hK : K { st with c := st.c + 1, E := bT dst g av st.E, G := st.G.set j row } = some r) (hv : av.val (ρ.set st.c x) = v)
  (hs : Sat ((items ρ T st.G ++ (items ρ T fr.H ++ Φ)).set j (row.item (ρ.set st.c x) T)) w') : aA r K T fr st g dst ρ Φ v w' := by
 refine aA.new hl hK Nms.aF (Nat.le_succ _) rfl hv ?_
 have e := aE (T := T) (Nms.aF (ρ := ρ) (j := st.c) (x := x)) (StB.bM.1 hl).2.2.1
 show Sat (items (ρ.set st.c x) T (st.G.set j row) ++ _) w'
 rw [ei hj, e]
 exact hs
end
def Okq (P : Program) (T : Tbl) (g : GK) (Ev : Env) (o : Oper) (w : World) (O : Value → World → Prop) : Prop := ∃ v, (∀ w', Run P Ev (T.get g) o w' v) ∧ O v w
theorem Okq.ok2 {P : Program} {T : Tbl} {g : GK} {Ev : Env} {o : Oper} {w : World} {O : Value → World → Prop} (h : Okq P T g Ev o w O) : Ok2 P T g Ev o w O := by
 obtain ⟨v, h1, h2⟩ := h
 exact ⟨fun hg => aN.run (by have := h1 w; rwa [hg] at this) h2, fun _ => ⟨v, h2⟩⟩
theorem aN.gd {P : Program} {E : Env} {dst : Option Tmp} {op : Op} {ty : TypeId} {pos : String} {af : Array Edge} {gd : Option (Nat × Bool)} {w : World} {R : Value → World → Prop} (h : aN P E ⟨dst, op, ty, pos, af, none⟩ w R) : aN P E ⟨dst, op, ty, pos, af, gd⟩ w R :=
 fun n a hf => h n a hf
/-! elements laid out, and read -/
def Ty.n' : Ty → Nat
 | .i _ | .bo | .s | .l _ => 1
 | .un | .n | .mp _ _ => 0
 | .p x y => x.n' + y.n'
 | .ex => 4
theorem Ty.uq : (t : Ty) → t.rep.n = t.n'
 | .i _ | .bo | .s | .l _ | .un | .n | .mp _ _ | .ex => rfl
 | .p x y => by show x.rep.n + y.rep.n = _; rw [Ty.uq x, Ty.uq y]; rfl
def mat : (t : Ty) → t.T → Nat → List AV × List Row × Nat
 | .i k, x, c => ([.int k x], [], c)
 | .bo, x, c => ([.bool x], [], c)
 | .s, x, c => ([.str x], [], c)
 | .un, _, c => ([], [], c)
 | .n, _, c => ([], [], c)
 | .mp _ _, _, c => ([], [], c)
 | .p a b, x, c => match mat a x.1 c with
  | (u, p, c) => match mat b x.2 c with
   | (v, q, c) => (u ++ v, p ++ q, c)
 | .l t, x, c => ([.sl c], [.sli none c t x false], c + 1)
 | .ex, x, c => ([.int .i64 x.op, .int .i64 x.n, .int .i64 x.at_, .sl c], [.sli none c .ex x.l false], c + 1)
structure Qd (T : Tbl) (M : Nat → Prop) (w : World) (vs : List Value) (c : Nat) (ρ ρ' : Nms) (m : List AV × List Row × Nat) : Prop where
 ag : ax c ρ ρ'
 le : c ≤ m.2.2
 lw : AV.aY m.2.2 m.1 = true
 eq : AV.ae ρ' m.1 = vs
 rl : ∀ r ∈ m.2.1, r.low m.2.2 = true
 rs : ∀ r ∈ m.2.1, ∃ j t l, r = .sli none j t l false
 rp : ∀ r ∈ m.2.1, (r.item ρ' T).P M w
theorem Row.dK {c d : Nat} (hcd : c ≤ d) {r : Row} (h : r.low c = true) : r.low d = true := by
 cases r <;> simp only [Row.low, Bool.and_eq_true, Nat.blt_eq] at h ⊢
 ·exact ⟨by omega, AV.gI hcd _ h.2⟩
 ·omega
 ·omega
 ·omega
 ·exact ⟨by omega, AV.gI hcd _ h.2⟩
 ·omega
 ·omega
 ·exact ⟨by omega, AV.dK hcd _ h.2⟩
theorem tK {T : Tbl} {M : Nat → Prop} {w : World} : (t : Ty) → (x : t.T) → (c : Nat) → (vs : List Value) → t.rep.rd M w vs x → (ρ : Nms) → ∃ ρ', Qd T M w vs c ρ ρ' (mat t x c)
 | .i k, x, c, vs, h, ρ => ⟨ρ, .refl, Nat.le_refl _, rfl, by cases h; simp [mat, AV.ae, AV.val], (fun _ h => by cases h), (fun _ h => by cases h), (fun _ h => by cases h)⟩
 | .bo, x, c, vs, h, ρ => ⟨ρ, .refl, Nat.le_refl _, rfl, by cases h; simp [mat, AV.ae, AV.val], (fun _ h => by cases h), (fun _ h => by cases h), (fun _ h => by cases h)⟩
 | .s, x, c, vs, h, ρ => ⟨ρ, .refl, Nat.le_refl _, rfl, by cases h; simp [mat, AV.ae, AV.val], (fun _ h => by cases h), (fun _ h => by cases h), (fun _ h => by cases h)⟩
 | .un, x, c, vs, h, ρ => ⟨ρ, .refl, Nat.le_refl _, rfl, by cases h; simp [mat, AV.ae], (fun _ h => by cases h), (fun _ h => by cases h), (fun _ h => by cases h)⟩
 | .n, x, c, vs, h, ρ => h.elim
 | .mp _ _, x, c, vs, h, ρ => h.elim
 | .p a b, x, c, vs, h, ρ => by
  obtain ⟨us, us', rfl, h1, h2⟩ := h
  obtain ⟨ρ1, m1⟩ := tK (T := T) a x.1 c us h1 ρ
  obtain ⟨ρ2, m2⟩ := tK (T := T) b x.2 (mat a x.1 c).2.2 us' h2 ρ1
  refine ⟨ρ2, m1.ag.trans m2.ag m1.le, Nat.le_trans m1.le m2.le, yb (AV.gI m2.le _ m1.lw) m2.lw, ?_, fun r hr => ?_, fun r hr => ?_, fun r hr => ?_⟩
  ·simp only [mat, cE]; rw [AV.aX m2.ag _ m1.lw, m1.eq, m2.eq]
  ·rcases List.mem_append.1 hr with hr | hr
   ·exact Row.dK m2.le (m1.rl r hr)
   ·exact m2.rl r hr
  ·rcases List.mem_append.1 hr with hr | hr
   ·exact m1.rs r hr
   ·exact m2.rs r hr
  ·rcases List.mem_append.1 hr with hr | hr
   ·rw [Row.qe m2.ag (m1.rl r hr)]; exact m1.rp r hr
   ·exact m2.rp r hr
 | .l t, x, c, vs, h, ρ => by
  obtain ⟨v, rfl, h⟩ := h
  refine ⟨ρ.set c { nm0 with v := v }, Nms.aF, Nat.le_succ _, by simp [mat, AV.aY, AV.low], by simp [mat, AV.ae, AV.val, Nms.aV], fun r hr => ?_, fun r hr => ?_, fun r hr => ?_⟩
  ·simp only [mat, List.mem_singleton] at hr; subst hr; simp [Row.low, mat]
  ·simp only [mat, List.mem_singleton] at hr; subst hr; exact ⟨_, _, _, rfl⟩
  ·simp only [mat, List.mem_singleton] at hr; subst hr
   simp only [Row.item, Nms.aV]
   exact fun _ => ⟨h, fun hb => by cases hb⟩
 | .ex, x, c, vs, h, ρ => by
  obtain ⟨v, rfl, hq⟩ := uF h
  refine ⟨ρ.set c { nm0 with v := v }, Nms.aF, Nat.le_succ _, by simp [mat, AV.aY, AV.low], by simp [mat, AV.ae, AV.val, Nms.aV], fun r hr => ?_, fun r hr => ?_, fun r hr => ?_⟩
  ·simp only [mat, List.mem_singleton] at hr; subst hr; simp [Row.low, mat]
  ·simp only [mat, List.mem_singleton] at hr; subst hr; exact ⟨_, _, _, rfl⟩
  ·simp only [mat, List.mem_singleton] at hr; subst hr
   simp only [Row.item, Nms.aV]
   exact fun _ => ⟨hq, fun hb => by cases hb⟩
theorem wc : (t : Ty) → (x : t.T) → (c : Nat) → c ≤ (mat t x c).2.2
 | .i _, _, _ | .bo, _, _ | .s, _, _ | .un, _, _ | .n, _, _ | .mp _ _, _, _ => Nat.le_refl _
 | .p a b, x, c => Nat.le_trans (wc a x.1 c) (wc b x.2 _)
 | .l _, _, _ | .ex, _, _ => Nat.le_succ _
theorem wB : (t : Ty) → (x : t.T) → (c : Nat) → ∀ r ∈ (mat t x c).2.1, ∃ j t l, r = .sli none j t l false
 | .i _, _, _, _, h | .bo, _, _, _, h | .s, _, _, _, h | .un, _, _, _, h | .n, _, _, _, h | .mp _ _, _, _, _, h => by cases h
 | .p a b, x, c, r, h => by
  rcases List.mem_append.1 h with h | h
  ·exact wB a x.1 c r h
  ·exact wB b x.2 _ r h
 | .l _, _, _, r, h => by
  simp only [mat, List.mem_singleton] at h; subst h; exact ⟨_, _, _, rfl⟩
 | .ex, _, _, r, h => by
  simp only [mat, List.mem_singleton] at h; subst h; exact ⟨_, _, _, rfl⟩
def m9 (g : GK) (r : Row) : Row := match g, r with
 | none, r => r
 | some g, .sli _ id t l b => .sli (some g) id t l b
 | some _, r => r
theorem mI {ρ : Nms} {T : Tbl} {g : GK} {M : Nat → Prop} {w : World} {j : Nat} {t : Ty} {l : List t.T} (h : T.get g = true → ((Row.sli none j t l false).item ρ T).P M w) :
  ((m9 g (.sli none j t l false)).item ρ T).cC = true ∧ ((m9 g (.sli none j t l false)).item ρ T).P M w := by
 cases g with
 | none => exact ⟨rfl, h (Tbl.get_none)⟩
 | some k =>
  refine ⟨rfl, fun hg => ?_⟩
  exact h hg (Tbl.get_none)
theorem qY {Γ : Ctx} {w : World} (h : Sat Γ w) : ∀ (new : List Item), (∀ it ∈ new, it.cC = true ∧ it.P Γ.M w) → Sat (new ++ Γ) w := fun new hn => by
 have key : ∀ new : List Item, (∀ it ∈ new, it.cC = true ∧ it.P Γ.M w) → new.all (·.cC) = true ∧ Kg Γ.M w new := fun new => by
  induction new with
  | nil => exact fun _ => ⟨rfl, trivial⟩
  | cons it l ih =>
   intro hn
   obtain ⟨h1, h2⟩ := ih (fun jt hj => hn jt (List.mem_cons_of_mem _ hj))
   obtain ⟨h3, h4⟩ := hn it (List.mem_cons_self ..)
   exact ⟨by simp only [List.all_cons, Bool.and_eq_true]; exact ⟨h3, h1⟩, h4, h2⟩
 exact h.PK new (key new hn).1 (key new hn).2
def ny (G H : List Row) (t : Ty) (v : AV) : Option (List t.T) := match v with
 | .sl j => (match cX G H (j9 j) with
  | some (_, .sli none _ t' l _) => Dyn.asL t ⟨.l t', l⟩
  | _ => none)
 | .raw (.slice none 0 0) => some []
 | _ => none where Dyn.asL (t : Ty) (d : Dyn) : Option (List t.T) := d.as (.l t)
theorem mu {t t' : Ty} {l : List t'.T} {l' : List t.T} (h : ny.Dyn.asL t ⟨.l t', l⟩ = some l') : ∃ e : t' = t, e ▸ l = l' := by
 have := Dyn.xw h
 cases this
 exact ⟨rfl, rfl⟩
theorem AW {ρ : Nms} {T : Tbl} {G H : List Row} {Φ : Ctx} {w : World} {t : Ty} {v : AV} {l : List t.T} (hs : Sat (items ρ T G ++ (items ρ T H ++ Φ)) w) (h : ny G H t v = some l) :
  SRd t.rep (Ctx.M (items ρ T G ++ (items ρ T H ++ Φ))) w (v.val ρ) l := by
 unfold ny at h
 split at h
 ·rename_i j
  split at h
  ·rename_i s j' t' l' b hf
   obtain ⟨h1, h2⟩ := bk hf
   have : j' = j := Nat.eq_of_beq_eq_true h2
   subst this
   obtain ⟨rfl, rfl⟩ := mu h
   simp only [AV.val]
   exact ((Src.holds hs h1) Tbl.get_none).1
  ·cases h
 ·cases h; simp only [AV.val]; exact SRd.nil
 ·cases h
def rdA (G H : List Row) : (t : Ty) → List AV → Option (t.T × List AV)
 | .i k, vs => (match vs with
  | .int k' x :: vs => ifS ( eZ k k' ) ( some (x, vs) ) none
  | _ => none)
 | .bo, vs => (match vs with
  | .bool x :: vs => some (x, vs)
  | _ => none)
 | .s, vs => (match vs with
  | .str x :: vs => some (x, vs)
  | _ => none)
 | .un, vs => some ((), vs)
 | .p a b, vs => (match rdA G H a vs with
  | some x => (match rdA G H b x.2 with
   | some y => some ((x.1, y.1), y.2)
   | none => none)
  | none => none)
 | .l t, vs => (match vs with
  | v :: vs => (match ny G H t v with
   | some l => some (l, vs)
   | none => none)
  | _ => none)
 | .ex, vs => (match vs with
  | .int .i64 a :: .int .i64 b :: .int .i64 c :: v :: vs => (match ny G H .ex v with
   | some l => some (Ex.mk a b c l, vs)
   | none => none)
  | _ => none)
 | _, _ => none
theorem zj {ρ : Nms} {T : Tbl} {G H : List Row} {Φ : Ctx} {w : World} (hs : Sat (items ρ T G ++ (items ρ T H ++ Φ)) w) : (t : Ty) → (vs : List AV) → (x : t.T × List AV) → rdA G H t vs = some x →
  ∃ us, vs = us ++ x.2 ∧ t.rep.rd (Ctx.M (items ρ T G ++ (items ρ T H ++ Φ))) w (AV.ae ρ us) x.1
 | .i k, vs, x, h => by
  unfold rdA at h
  split at h
  ·rename_i k' y us
   obtain ⟨h1, h2⟩ := al h
   have := ja h1; subst this
   cases h2
   exact ⟨[.int k y], rfl, by simp only [AV.ae, AV.val]; rfl⟩
  ·cases h
 | .bo, vs, x, h => by
  unfold rdA at h
  split at h
  ·rename_i y us
   cases h
   exact ⟨[.bool y], rfl, by simp only [AV.ae, AV.val]; rfl⟩
  ·cases h
 | .s, vs, x, h => by
  unfold rdA at h
  split at h
  ·rename_i y us
   cases h
   exact ⟨[.str y], rfl, by simp only [AV.ae, AV.val]; rfl⟩
  ·cases h
 | .un, vs, x, h => by
  unfold rdA at h
  cases h
  exact ⟨[], rfl, by simp only [AV.ae]; rfl⟩
 | .n, vs, x, h => by unfold rdA at h; cases h
 | .mp _ _, vs, x, h => by unfold rdA at h; cases h
 | .p a b, vs, x, h => by
  unfold rdA at h
  split at h
  ·rename_i y hy
   split at h
   ·rename_i z hz
    cases h
    obtain ⟨us, e1, h1⟩ := zj hs a vs y hy
    obtain ⟨us', e2, h2⟩ := zj hs b y.2 z hz
    refine ⟨us ++ us', by rw [e1, e2, List.append_assoc], ?_⟩
    rw [cE]
    exact ⟨_, _, rfl, h1, h2⟩
   ·cases h
  ·cases h
 | .l t, vs, x, h => by
  unfold rdA at h
  split at h
  ·rename_i v us
   split at h
   ·rename_i l hl
    cases h
    refine ⟨[v], rfl, ?_⟩
    simp only [AV.ae]
    exact (AW hs hl).rsl
   ·cases h
  ·cases h
 | .ex, vs, x, h => by
  unfold rdA at h
  split at h
  ·rename_i a b c v us
   split at h
   ·rename_i l hl
    cases h
    refine ⟨[.int .i64 a, .int .i64 b, .int .i64 c, v], rfl, ?_⟩
    simp only [AV.ae, AV.val]
    exact x6 (AW hs hl).rsl
   ·cases h
  ·cases h
def rd1 (G H : List Row) (t : Ty) (vs : List AV) : Option t.T := match rdA G H t vs with
 | some (x, []) => some x
 | _ => none
theorem Jd {ρ : Nms} {T : Tbl} {G H : List Row} {Φ : Ctx} {w : World} (hs : Sat (items ρ T G ++ (items ρ T H ++ Φ)) w) {t : Ty} {vs : List AV} {x : t.T} (h : rd1 G H t vs = some x) :
  t.rep.rd (Ctx.M (items ρ T G ++ (items ρ T H ++ Φ))) w (AV.ae ρ vs) x := by
 unfold rd1 at h
 split at h
 ·rename_i y hy
  cases h
  obtain ⟨us, e1, h1⟩ := zj hs t vs _ hy
  simp only [List.append_nil] at e1
  rw [e1]; exact h1
 ·cases h
def rdL (G H : List Row) (t : Ty) : Nat → List AV → Option (List t.T)
 | 0, vs => (match vs with
  | [] => some []
  | _ => none)
 | k + 1, vs => (match rdA G H t vs with
  | some x => (match rdL G H t k x.2 with
   | some l => some (x.1 :: l)
   | none => none)
  | none => none)
theorem Ee {ρ : Nms} {T : Tbl} {G H : List Row} {Φ : Ctx} {w : World} (hs : Sat (items ρ T G ++ (items ρ T H ++ Φ)) w) {t : Ty} : (k : Nat) → (vs : List AV) → (l : List t.T) → rdL G H t k vs = some l →
  l.length = k ∧ ARd t.rep (Ctx.M (items ρ T G ++ (items ρ T H ++ Φ))) w (AV.ae ρ vs) l
 | 0, vs, l, h => by
  unfold rdL at h
  split at h
  ·cases h; exact ⟨rfl, by simp only [AV.ae]; exact ARd.nil⟩
  ·cases h
 | k + 1, vs, l, h => by
  unfold rdL at h
  split at h
  ·rename_i x hx
   split at h
   ·rename_i l' hl
    cases h
    obtain ⟨us, e1, h1⟩ := zj hs t vs x hx
    obtain ⟨h2, h3⟩ := Ee hs k x.2 l' hl
    refine ⟨by simp [h2], ?_⟩
    rw [e1, cE]
    exact ARd.cons h1 h3
   ·cases h
  ·cases h
/-! freezing -/
def frz (ids : List Nat) : List Row → List Row
 | [] => []
 | r :: G => (match r with
  | .own id t e l ver => ifS ( ma id ids ) ( .sli none id t l false ) <| .own id t e l ver
  | r => r) :: frz ids G
theorem FE {ρ : Nms} {T : Tbl} {ids : List Nat} {w : World} : {G : List Row} → {A B : Ctx} → Sat (A ++ (items ρ T G ++ B)) w → Sat (A ++ (items ρ T (frz ids G) ++ B)) w
 | [], _, _, h => h
 | r :: G, A, B, h => by
  have step : ∀ r' : Row, Sat (A ++ (items ρ T (r' :: G) ++ B)) w → Sat (A ++ (items ρ T (r' :: frz ids G) ++ B)) w := fun r' h => by
   have h' : Sat ((A ++ [r'.item ρ T]) ++ (items ρ T G ++ B)) w := by simpa [items] using h
   have := FE (ids := ids) h'
   simpa [items] using this
  unfold frz
  split
  ·rename_i id t e l ver
   cases hm : ma id ids
   ·exact step _ h
   ·refine step _ ?_
    have hi : (A ++ (items ρ T (Row.own id t e l ver :: G) ++ B))[A.length]? = some (qI t.rep e (ρ id).v l ((ρ ver).y = ⟨.l t, l⟩)) := by
     rw [List.getElem?_append_right (Nat.le_refl _)]
     simp [items, Row.item]
    have h2 := h.upd hi (new := (Row.sli none id t l false).item ρ T) ((Ext.refl w).chg _) (fun b hb => by cases hb) (fun M' m hn => fun _ => ⟨(h.at_ hi).1.freeze (fun b hb => hn b hb (fun hb => by cases hb)) m, fun hb => by cases hb⟩)
    rw [List.set_append_right _ _ (Nat.le_refl _)] at h2
    simpa [items] using h2
  ·exact step _ h
theorem mX {c : Nat} {ids : List Nat} : {G : List Row} → aO c G = true → aO c (frz ids G) = true
 | [], _ => rfl
 | r :: G, h => by
  simp only [aO, Bool.and_eq_true] at h
  unfold frz
  simp only [aO, Bool.and_eq_true]
  refine ⟨?_, mX h.2⟩
  split
  ·rename_i id t e l ver
   have h1 := h.1
   simp only [Row.low, Bool.and_eq_true] at h1
   cases ma id ids
   ·simp only [Row.low, Bool.and_eq_true]; exact h1
   ·simp only [Row.low]; exact h1.1
  ·exact h.1
theorem gf {ρ : Nms} {T : Tbl} {ids : List Nat} {w : World} {G : List Row} {B : Ctx} (h : Sat (items ρ T G ++ B) w) : Sat (items ρ T (frz ids G) ++ B) w := FE (A := []) h
def AV.sls : AV → List Nat
 | .sl id => [id]
 | .agg l => sls0 l
 | _ => [] where sls0 : List AV → List Nat
 | [] => []
 | .sl id :: l => id :: sls0 l
 | _ :: l => sls0 l
end Go.Proofs.YtdhgpnejphlfpaaDoor
namespace Go.Proofs.YtdhgpnejphlfpaaDoor
open Go.Lib
section
variable {X : Cx} {R : Type} {r : R} {K : Go_ R} {T : Tbl} {fr : Fr} {st : StB} {g : GK} {d : Tmp} {ρ : Nms} {Φ : Ctx} {w : World} {ty : TypeId} {pos : String} {af : Array Edge} {gd : Option (Nat × Bool)}
theorem Ok2.none_ {P : Program} {Ev : Env} {o : Oper} {O : Value → World → Prop} (h : aN P Ev o w O) : Ok2 P T none Ev o w O := ⟨fun _ => h, fun hg => by rw [Tbl.get_none] at hg; cases hg⟩
/-! new blocks -/
def Ct (P : Program) (t : TypeId) : Option (List AV) := match tiA P t with
 | some z => some (z.2.2.cells.toList.map cst)
 | none => none
def Hj (st : StB) (d : Tmp) (t : TypeId) (cs : List AV) (K : Go_ R) : Option R := K { st with c := st.c + 1, E := bT (some d) none (.ptr st.c 0) st.E, G := .box st.c t cs :: st.G }
theorem CF {t : TypeId} {cs : List AV} (hl : st.low fr = true) (hs : Sat (items ρ T st.G ++ (items ρ T fr.H ++ Φ)) w) (hcs : AV.aY st.c cs = true) (h : Hj st d t cs K = some r) :
  aA r K T fr st none (some d) ρ Φ (.pointer (some ⟨w.heap.size, 0, none⟩)) (w.alloc (.cells (AV.ae ρ cs).toArray t)) := by
 refine aA.push (x := { nm0 with b := w.heap.size }) hl h (by simp only [AV.val, Nms.aV]) ?_
 simp only [Row.item, Nms.aV]
 rw [AV.aX Nms.aF _ hcs]
 exact hs.push (dO _ _) (fun b hb => by
  have : b = w.heap.size := by simpa [box] using hb
  subst this; simp) (fun _ _ => heap_alloc_new w _)
def Em (X : Cx) (st : StB) (d : Tmp) (t : TypeId) (K : Go_ R) : Option R := match Ct X.P t with
 | some cs => Hj st d t cs K
 | none => none
theorem JP {t : TypeId} (hl : st.low fr = true) (hs : Sat (items ρ T st.G ++ (items ρ T fr.H ++ Φ)) w) (h : Em X st d t K = some r) :
  Ok2 X.P T none (ai ρ T st.E fr.F) ⟨some d, .alloc t, ty, pos, af, gd⟩ w (aA r K T fr st none (some d) ρ Φ) := by
 unfold Em at h
 split at h
 ·rename_i cs hcs
  unfold Ct at hcs
  split at hcs
  ·rename_i z hz
   cases hcs
   obtain ⟨n, b, z⟩ := z
   refine .none_ (aN.gd (aN.kZ (z6 (zs := z.cells.toList) (cH hz) (by simp)) ?_))
   have := CF hl hs EE h
   rwa [jL] at this
  ·cases hcs
 ·cases h
def Mh (T : Tbl) (fr : Fr) (st : StB) (d : Tmp) (t : TypeId) (x : Operand) (K : Go_ R) : Option R := match opA T st.E fr.F none x with
 | some v => ifS ( we v && AV.aY st.c (bK v) ) ( Hj st d t (bK v) K ) none
 | none => none
theorem Oz {t : TypeId} {x : Operand} (hl : st.low fr = true) (hs : Sat (items ρ T st.G ++ (items ρ T fr.H ++ Φ)) w) (h : Mh T fr st d t x K = some r) :
  Ok2 X.P T none (ai ρ T st.E fr.F) ⟨some d, .box t x, ty, pos, af, gd⟩ w (aA r K T fr st none (some d) ρ Φ) := by
 unfold Mh at h
 split at h
 ·rename_i v hv
  obtain ⟨h1, h2⟩ := al h
  simp only [Bool.and_eq_true] at h1
  exact .none_ (aN.gd (aN.kZ (Ll (bp hv) (oX h1.1)) (CF hl hs h1.2 h2)))
 ·cases h
/-! stores -/
def GM : AV → Bool
 | .agg _ | .tuple _ | .nv _ => false
 | .raw v => v.oneCell'
 | _ => true
theorem KX {v : AV} (h : GM v = true) : (v.val ρ).oneCell' = true := by
 cases v with
 | agg l => cases h
 | tuple l => cases h
 | nv l => cases h
 | raw v => simp only [AV.val]; exact h
 | _ => simp only [AV.val]; rfl
theorem xE : {l : List AV} → l.all GM = true → (AV.ae ρ l).all Value.oneCell' = true
 | [], _ => by simp [AV.ae]
 | v :: l, h => by
  simp only [List.all_cons, Bool.and_eq_true] at h
  simp only [AV.ae, List.all_cons, Bool.and_eq_true]
  exact ⟨KX h.1, xE h.2⟩
def EK (P : Program) (st : StB) (t : TypeId) (id off : Nat) (v : AV) (K : Go_ R) : Option R := match lx (sN id) st.G with
 | some (j, .box _ e vs) => (match tiA P t with
  | some z => ifS ( we v && (bK v).all GM && Nat.beq (bK v).length z.1 && Nat.ble (off + (bK v).length) vs.length ) (
    K { st with G := st.G.set j (.box id e (mA vs off (bK v))) } ) none
  | none => none)
 | _ => none
theorem JM {t : TypeId} {x y : Operand} {id off : Nat} {v : AV} (hs : Sat (items ρ T st.G ++ (items ρ T fr.H ++ Φ)) w) (hx : opA T st.E fr.F none x = some (.ptr id off)) (hy : opA T st.E fr.F none y = some v) (h : EK X.P st t id off v K = some r) :
  aN X.P (ai ρ T st.E fr.F) ⟨none, .store t x y, ty, pos, af, gd⟩ w (aA r K T fr st none none ρ Φ) := by
 unfold EK at h
 split at h
 ·rename_i j id' e vs hf
  split at h
  ·rename_i z hz
   obtain ⟨n, bytes, z⟩ := z
   obtain ⟨h1, h2⟩ := al h
   simp only [Bool.and_eq_true] at h1
   obtain ⟨⟨⟨a1, a2⟩, a3⟩, a4⟩ := h1
   obtain ⟨f1, f2⟩ := jz hf
   have : id' = id := Nat.eq_of_beq_eq_true f2
   subst this
   have hx' := bp (ρ := ρ) hx
   have hy' := bp (ρ := ρ) hy
   simp only [AV.val] at hx'
   have hi := fc (ρ := ρ) (T := T) (Φ := items ρ T fr.H ++ Φ) f1
   have hb : cY w (ρ id').b e (AV.ae ρ vs) := hs.at_ hi
   obtain ⟨hr, hC, hB⟩ := HI (P := X.P) (E := ai ρ T st.E fr.F) (w := w) (dst := none) (ty := ty) (pos := pos) (af := af) (cH hz) hx' hy' (oX a1) (by rw [AV.aK]; exact Nat.eq_of_beq_eq_true a3) (xE a2) hb (by rw [AV.aK, AV.aK]; exact a4) oP
   refine aN.gd (aN.Ho hr (aA.old (av := .raw undef) h2 (Nat.le_refl _) rfl (by simp only [AV.val]) ?_))
   have hj : j < st.G.length := (List.getElem?_eq_some_iff.1 f1).1
   show Sat (items ρ T (st.G.set j _) ++ _) _
   rw [ei hj]
   refine hs.upd hi hC (fun c hc => ?_) (fun _ _ _ => hB)
   have : c = (ρ id').b := by simpa [Row.item, box] using hc
   subst this; exact ⟨hB.lt, .inl (by simp [Row.item, box])⟩
  ·cases h
 ·cases h
theorem Gr {t : Ty} {e : TypeId} {p : SLV} {l l' : List t.T} {q q' : Prop} {i : Nat} {Γ : Ctx} {w' : World} (hs : Sat Γ w) (hi : Γ[i]? = some (qI t.rep e p l q)) (hq : q') (hC : Chg (blk (sl p)) w w') (hsz : w'.heap.size = w.heap.size) (hR : slR p = blk (sl p))
  (hP : ∀ M', Mv Γ.M w M' w' → OSl t.rep e M' w' (sl p) l') : Sat (Γ.set i (qI t.rep e p l' q')) w' := by
 refine hs.upd hi (by rw [← hR] at hC; exact hC) (fun c hc => ⟨by rw [hsz]; exact (hs.at_ hi).1.lt c hc, .inl hc⟩) (fun M' m _ => ⟨?_, hq⟩)
 show Own t.rep e M' w' (sl p) l' (slR p)
 rw [hR]
 exact Own.of (hP M' m)
theorem mE {c : Nat} : ∀ {G : List Row} {j : Nat} {r : Row}, aO c G = true → G[j]? = some r → r.low c = true := fun {G} => by
 induction G with
 | nil => intro j r _ h; simp at h
 | cons r0 G ih =>
  intro j r h h'
  simp only [aO, Bool.and_eq_true] at h
  cases j with
  | zero => simp at h'; subst h'; exact h.1
  | succ j => exact ih h.2 (by simpa using h')
def DH (P : Program) (fr : Fr) (st : StB) (t : TypeId) (q off : Nat) (v : AV) (K : Go_ R) : Option R :=
 match cX (frz (AV.sls.sls0 (bK v)) st.G) fr.H (y4 q) with
 | some (_, .kn none _ id ver u i x) => (match lx (j9 id) (frz (AV.sls.sls0 (bK v)) st.G) with
  | some (j, .own _ u' e l ver') => (match tiA P t with
   | some z => ifS ( Nat.beq ver ver' && we v && (bK v).all GM && Nat.beq (bK v).length z.1 && AV.aY st.c (bK v) ) (
     ifS ( Nat.beq off 0 && Nat.beq (bK v).length u'.n' ) ( match rd1 (frz (AV.sls.sls0 (bK v)) st.G) fr.H u' (bK v) with
      | some y => K { st with c := st.c + 1, G := (frz (AV.sls.sls0 (bK v)) st.G).set j (.own id u' e (List.set l i.toNat y) st.c) }
      | none => none ) <|
      ifS ( Nat.ble (off + (bK v).length) (mat u x (st.c + 1)).1.length ) ( match rd1 ((mat u x (st.c + 1)).2.1 ++ frz (AV.sls.sls0 (bK v)) st.G) fr.H u' (mA (mat u x (st.c + 1)).1 off (bK v)) with
       | some y => K { st with c := (mat u x (st.c + 1)).2.2, G := (mat u x (st.c + 1)).2.1 ++ (frz (AV.sls.sls0 (bK v)) st.G).set j (.own id u' e (List.set l i.toNat y) st.c) }
       | none => none ) none ) none
   | none => none)
  | _ => none)
 | _ => none
theorem IW {t : TypeId} {x y : Operand} {q off : Nat} {v : AV} (hl : st.low fr = true) (hs : Sat (items ρ T st.G ++ (items ρ T fr.H ++ Φ)) w) (hx : opA T st.E fr.F none x = some (.adr q off)) (hy : opA T st.E fr.F none y = some v) (h : DH X.P fr st t q off v K = some r) :
  aN X.P (ai ρ T st.E fr.F) ⟨none, .store t x y, ty, pos, af, gd⟩ w (aA r K T fr st none none ρ Φ) := by
 unfold DH at h
 have hGl := mX (ids := AV.sls.sls0 (bK v)) (StB.bM.1 hl).2.2.1
 replace hs := gf (ids := AV.sls.sls0 (bK v)) hs
 generalize frz (AV.sls.sls0 (bK v)) st.G = G at h hGl hs
 split at h
 ·rename_i s q' id ver u i xe hf
  split at h
  ·rename_i j id' u' e l ver' hr
   split at h
   ·rename_i z hz
    obtain ⟨n, bytes, z⟩ := z
    obtain ⟨h1, h2⟩ := al h
    simp only [Bool.and_eq_true] at h1
    obtain ⟨⟨⟨⟨a1, a2⟩, a3⟩, a4⟩, a5⟩ := h1
    obtain ⟨f1, f2⟩ := bk hf
    obtain ⟨k1, k2⟩ := jz hr
    have e1 : q' = q := Nat.eq_of_beq_eq_true f2
    have e2 : id' = id := Nat.eq_of_beq_eq_true k2
    have e3 : ver = ver' := Nat.eq_of_beq_eq_true a1
    subst e1; subst e2; subst e3
    have hx' := bp (ρ := ρ) hx
    have hy' := bp (ρ := ρ) hy
    simp only [AV.val] at hx'
    obtain ⟨l0, b1, b2, b3⟩ := (Src.holds hs f1) Tbl.get_none
    have hi := fc (ρ := ρ) (T := T) (Φ := items ρ T fr.H ++ Φ) k1
    obtain ⟨c1, c2⟩ := hs.at_ hi
    obtain ⟨e4, e5⟩ := xK b1 c2
    subst e4
    simp only at e5
    subst e5
    obtain ⟨o1, o2⟩ := c1.osl b2
    obtain ⟨o3, vs0, o4, o5⟩ := c1.atA b2
    have hj : j < G.length := (List.getElem?_eq_some_iff.1 k1).1
    have hcl : (AV.ae ρ (bK v)).length = n := by rw [AV.aK]; exact Nat.eq_of_beq_eq_true a4
    rw [b3] at hx'
    rcases cW h2 with ⟨h3, h4⟩ | ⟨_, h4⟩
    ·simp only [Bool.and_eq_true] at h3
     have e6 : off = 0 := Nat.eq_of_beq_eq_true h3.1
     subst e6
     split at h4
     ·rename_i y' hy2
      have hrd := Jd hs hy2
      have hlv : vs0.length = u.rep.n := u.rep.len o5
      have hlu : (AV.ae ρ (bK v)).length = u.rep.n := u.rep.len hrd
      have hset : iY vs0 0 (AV.ae ρ (bK v)) = AV.ae ρ (bK v) := by
       unfold iY
       simp only [List.take_zero, List.nil_append, Nat.zero_add]
       rw [List.drop_eq_nil_of_le (by omega), List.append_nil]
      obtain ⟨w', hr, hC, hsz, hP⟩ := py (P := X.P) (E := ai ρ T st.E fr.F) (w := w) (dst := none) (ty := ty) (pos := pos) (af := af) (cH hz) hx' hy' (oX a2) hcl (xE a3) o3 o1 o4 hlv (Nat.ble_eq_true_of_le (by omega)) hset hrd (fun b hb => Ctx.iz hi (by rw [← o2] at hb; exact hb))
      refine aN.gd (aN.Ho hr (aA.new (ρ' := ρ.set st.c { nm0 with y := ⟨.l u, List.set l0 i.toNat y'⟩ }) (av := .raw undef) hl h4 Nms.aF (Nat.le_succ _) rfl (by simp only [AV.val]) ?_))
      show Sat (items _ T (G.set j _) ++ _) _
      rw [ei hj, aE Nms.aF hGl]
      have := Gr (q' := ((ρ.set st.c { nm0 with y := ⟨.l u, List.set l0 i.toNat y'⟩ }) st.c).y = ⟨.l u, List.set l0 i.toNat y'⟩) hs hi (by rw [Nms.aV]) hC hsz o2 hP
      have hlt := (List.getElem?_eq_some_iff.1 k1).2
      have hidlt : (ρ.set st.c { nm0 with y := ⟨.l u, List.set l0 i.toNat y'⟩ }) id' = ρ id' := by
       have hrow := mE hGl k1
       simp only [Row.low, Bool.and_eq_true, Nat.blt_eq] at hrow
       exact Nms.aF _ hrow.1
      simp only [Row.item, hidlt]
      exact this
     ·cases h4
    ·obtain ⟨h5, h6⟩ := al h4
     split at h6
     ·rename_i y' hy2
      obtain ⟨ρ1, m1⟩ := tK (T := T) u xe (st.c + 1) vs0 o5 (ρ.set st.c { nm0 with y := ⟨.l u, List.set l0 i.toNat y'⟩ })
      have ag : ax st.c ρ ρ1 := Nms.aF.trans m1.ag (Nat.le_succ _)
      generalize mat u xe (st.c + 1) = m at h5 h6 hy2 m1
      have hs1 : Sat (items ρ1 T m.2.1 ++ (items ρ T G ++ (items ρ T fr.H ++ Φ))) w := qY hs _ (fun it hit => by
       obtain ⟨r, hr1, rfl⟩ := List.mem_map.1 hit
       obtain ⟨j1, t1, l1, rfl⟩ := m1.rs _ hr1
       exact ⟨rfl, m1.rp _ hr1⟩)
      have eG := aE (T := T) ag hGl
      have eH := aE (T := T) ag (StB.bM.1 hl).2.2.2
      have hs2 : Sat (items ρ1 T (m.2.1 ++ G) ++ (items ρ1 T fr.H ++ Φ)) w := by
       rw [aG, List.append_assoc, eG, eH]; exact hs1
      have hrd := Jd hs2 hy2
      rw [aG, List.append_assoc, eG, eH, ← oP, m1.eq, AV.aX ag _ a5] at hrd
      have hi1 : (items ρ1 T m.2.1 ++ (items ρ T G ++ (items ρ T fr.H ++ Φ)))[m.2.1.length + j]? = some ((Row.own id' u e l0 ver).item ρ T) := by
       rw [List.getElem?_append_right (by simp [items])]
       have : m.2.1.length + j - (items ρ1 T m.2.1).length = j := by simp [items]
       rw [this]; exact hi
      obtain ⟨d1, d2⟩ := hs1.at_ hi1
      obtain ⟨p1, p2⟩ := d1.osl b2
      have hlv : vs0.length = u.rep.n := u.rep.len o5
      obtain ⟨w', hr, hC, hsz, hP⟩ := py (P := X.P) (E := ai ρ T st.E fr.F) (w := w) (dst := none) (ty := ty) (pos := pos) (af := af) (cH hz) hx' hy' (oX a2) hcl (xE a3) o3 p1 o4 hlv (by
       have := m1.eq
       rw [← this, AV.aK, AV.aK]; exact h5) rfl hrd (fun b hb => Ctx.iz hi1 (by rw [← p2] at hb; exact hb))
      refine aN.gd (aN.Ho hr (aA.new (ρ' := ρ1) (av := .raw undef) hl h6 ag (Nat.le_trans (Nat.le_succ _) m1.le) rfl (by simp only [AV.val]) ?_))
      have hy1 : (ρ1 st.c).y = ⟨.l u, List.set l0 i.toNat y'⟩ := by rw [m1.ag _ (Nat.lt_succ_self _), Nms.aV]
      have := Gr hs1 hi1 hy1 hC hsz p2 hP
      have hrow := mE hGl k1
      simp only [Row.low, Bool.and_eq_true, Nat.blt_eq] at hrow
      show Sat (items ρ1 T (m.2.1 ++ G.set j _) ++ _) _
      rw [aG, List.append_assoc, ei hj, eG]
      rw [List.set_append_right _ _ (by simp [items])] at this
      have e7 : m.2.1.length + j - (items ρ1 T m.2.1).length = j := by simp [items]
      rw [e7] at this
      simp only [Row.item, ag _ hrow.1]
      exact this
     ·cases h6
   ·cases h
  ·cases h
 ·cases h
end
end Go.Proofs.YtdhgpnejphlfpaaDoor
namespace Go.Proofs.YtdhgpnejphlfpaaDoor
open Go.Lib
section
variable {X : Cx} {R : Type} {r : R} {K : Go_ R} {T : Tbl} {fr : Fr} {st : StB} {g : GK} {d : Tmp} {ρ : Nms} {Φ : Ctx} {w : World} {ty : TypeId} {pos : String} {af : Array Edge} {gd : Option (Nat × Bool)}
def Cq {α : Type} (T : Tbl) (g : GK) (z : α) (m : Option α) (k : α → Option R) : Option R := match g with
 | none => m.bind k
 | some _ => az (T.get g) z m k
theorem qo {α : Type} {z : α} {m : Option α} {k : α → Option R} (h : Cq T g z m k = some r) : ∃ y, (T.get g = true → m = some y) ∧ k y = some r := by
 unfold Cq at h
 split at h
 ·obtain ⟨y, h1, h2⟩ := pS h
  exact ⟨y, fun _ => h1, h2⟩
 ·obtain ⟨y, h1, _, h2⟩ := zw h
  exact ⟨y, h1, h2⟩
def OY (T : Tbl) (g : GK) (st : StB) (d : Tmp) (t : Ty) (l : List t.T) (i : Int) (K : Go_ R) : Option R :=
 Cq T g t.lh (idx l i) fun x => K { st with c := (mat t x (st.c + 1)).2.2, E := bT (some d) g (.adr st.c 0) st.E, G := .elm g st.c (mat t x (st.c + 1)).1 :: ((mat t x (st.c + 1)).2.1.map (m9 g) ++ st.G) }
def PA (T : Tbl) (g : GK) (st : StB) (d : Tmp) (id ver : Nat) (t : Ty) (l : List t.T) (i : Int) (K : Go_ R) : Option R :=
 Cq T g t.lh (idx l i) fun x => K { st with c := st.c + 1, E := bT (some d) g (.adr st.c 0) st.E, G := .kn g st.c id ver t i x :: st.G }
def Ig (X : Cx) (T : Tbl) (fr : Fr) (st : StB) (g : GK) (d : Tmp) (t : TypeId) (x y : Operand) (K : Go_ R) : Option R := match fF X.P t with
 | some e => (match tiA X.P e with
  | some z => (match opA T st.E fr.F g x with
   | some (.sl id) => (match opA T st.E fr.F g y with
    | some (.int _ i) => (match cX st.G fr.H (j9 id) with
     | some (_, .sli g' _ t l _) => ifS ( T.imp g g' && Nat.beq z.1 t.n' ) ( OY T g st d t l i K ) none
     | some (_, .own _ t _ l ver) => ifS ( Nat.beq z.1 t.n' ) ( PA T g st d id ver t l i K ) none
     | _ => none)
    | _ => none)
   | _ => none)
  | none => none)
 | none => none
theorem FJ {t : TypeId} {x y : Operand} (hl : st.low fr = true) (hs : Sat (items ρ T st.G ++ (items ρ T fr.H ++ Φ)) w) (h : Ig X T fr st g d t x y K = some r) :
  Okq X.P T g (ai ρ T st.E fr.F) ⟨some d, .indexAddr t x y, ty, pos, af, gd⟩ w (aA r K T fr st g (some d) ρ Φ) := by
 unfold Ig at h
 split at h
 ·rename_i e he
  split at h
  ·rename_i z hz
   obtain ⟨n, bytes, z⟩ := z
   split at h
   ·rename_i id hx
    split at h
    ·rename_i k i hy
     have hx' := ay (ρ := ρ) hx
     have hy' := ay (ρ := ρ) hy
     simp only [AV.val] at hx' hy'
     split at h
     ·rename_i s g' id' t l b hf
      obtain ⟨h1, h2⟩ := al h
      simp only [Bool.and_eq_true] at h1
      have hn : n = t.rep.n := (Nat.eq_of_beq_eq_true h1.2).trans t.uq.symm
      obtain ⟨f1, f2⟩ := bk hf
      have : id' = id := Nat.eq_of_beq_eq_true f2
      subst this
      obtain ⟨x', b1, b2⟩ := qo h2
      have hT := Src.holds hs f1
      -- the element, where g holds
      have key : ∃ (p : Addr) (ρ1 : Nms), ax st.c ρ ρ1 ∧ (ρ1 st.c).a = p ∧ (T.get g = true → lJ (sl (ρ id').v) i n p) ∧
        ∀ it ∈ items ρ1 T (.elm g st.c (mat t x' (st.c + 1)).1 :: ((mat t x' (st.c + 1)).2.1.map (m9 g))), it.cC = true ∧ it.P (Ctx.M (items ρ T st.G ++ (items ρ T fr.H ++ Φ))) w := by
       cases hg : T.get g
       ·refine ⟨⟨0, 0, none⟩, ρ.set st.c nm0, Nms.aF, by rw [Nms.aV]; rfl, (fun h => by cases h), fun it hit => ?_⟩
        rw [items, List.map_cons] at hit
        rcases List.mem_cons.1 hit with rfl | hit
        ·exact ⟨rfl, fun h => by rw [hg] at h; cases h⟩
        ·obtain ⟨r1, hr1, rfl⟩ := List.mem_map.1 hit
         obtain ⟨r2, hr2, rfl⟩ := List.mem_map.1 hr1
         obtain ⟨j1, t1, l1, rfl⟩ := wB _ _ _ _ hr2
         exact mI (fun h => by rw [hg] at h; cases h)
       ·have hS := (hT (Tbl.gR h1.1 hg)).1
        obtain ⟨e1, vs, e2, e3, e4⟩ := hS.atA (b1 hg)
        obtain ⟨ρ1, m1⟩ := tK (T := T) t x' (st.c + 1) vs e3 (ρ.set st.c { nm0 with a := elA (sl (ρ id').v) i t.rep.n })
        have ha1 : (ρ1 st.c).a = elA (sl (ρ id').v) i t.rep.n := by rw [m1.ag _ (Nat.lt_succ_self _), Nms.aV]
        refine ⟨elA (sl (ρ id').v) i t.rep.n, ρ1, Nms.aF.trans m1.ag (Nat.le_succ _), ha1, fun _ => by rw [hn]; exact e1, fun it hit => ?_⟩
        rw [items, List.map_cons] at hit
        rcases List.mem_cons.1 hit with rfl | hit
        ·refine ⟨rfl, fun _ => ?_⟩
         show ¬ Ctx.M _ (ρ1 st.c).a.block ∧ aI w (ρ1 st.c).a _
         rw [ha1, m1.eq]
         exact ⟨e4, e2⟩
        ·obtain ⟨r1, hr1, rfl⟩ := List.mem_map.1 hit
         obtain ⟨r2, hr2, rfl⟩ := List.mem_map.1 hr1
         have hp2 := m1.rp _ hr2
         obtain ⟨j1, t1, l1, rfl⟩ := m1.rs _ hr2
         exact mI (fun _ => hp2)
      obtain ⟨p, ρ1, k1, k2, k3, k4⟩ := key
      have hs2 := qY hs _ k4
      have eG := aE (T := T) k1 (StB.bM.1 hl).2.2.1
      have hout : aA r K T fr st g (some d) ρ Φ (.pointer (some p)) w := by
       refine aA.new (ρ' := ρ1) hl b2 k1 (Nat.le_trans (Nat.le_succ _) (wc _ _ _)) rfl (by simp only [AV.val, k2]; simp [Addr.add]) ?_
       show Sat (items ρ1 T (Row.elm g st.c _ :: (_ ++ st.G)) ++ _) w
       have e8 : items ρ1 T (Row.elm g st.c (mat t x' (st.c + 1)).1 :: ((mat t x' (st.c + 1)).2.1.map (m9 g) ++ st.G)) = items ρ1 T (.elm g st.c (mat t x' (st.c + 1)).1 :: ((mat t x' (st.c + 1)).2.1.map (m9 g))) ++ items ρ1 T st.G := by
        simp [items]
       rw [e8, eG, List.append_assoc]
       exact hs2
      exact ⟨_, fun w' => yj (bw he) (cH hz) hx' hy' k3, hout⟩
     ·rename_i s id' t e' l ver hf
      obtain ⟨h1, h2⟩ := al h
      have hn : n = t.rep.n := (Nat.eq_of_beq_eq_true h1).trans t.uq.symm
      obtain ⟨f1, f2⟩ := bk hf
      have : id' = id := Nat.eq_of_beq_eq_true f2
      subst this
      obtain ⟨x', b1, b2⟩ := qo h2
      obtain ⟨hO, hy2⟩ := Src.holds hs f1
      have hrow : id' < st.c ∧ ver < st.c := by
       have : (Row.own id' t e' l ver).low st.c = true := by
        cases s with
        | top j => exact mE (StB.bM.1 hl).2.2.1 f1
        | frz j => exact mE (StB.bM.1 hl).2.2.2 f1
        | _ => exact f1.elim
       simpa only [Row.low, Bool.and_eq_true, Nat.blt_eq] using this
      have hout : aA r K T fr st g (some d) ρ Φ (.pointer (some (elA (sl (ρ id').v) i t.rep.n))) w := by
       refine aA.push (x := { nm0 with a := elA (sl (ρ id').v) i t.rep.n }) hl b2 (by simp only [AV.val, Nms.aV]; simp [Addr.add]) (hs.add rfl ?_)
       intro hg
       rw [Nms.aF _ hrow.1, Nms.aF _ hrow.2, Nms.aV]
       exact ⟨l, hy2, b1 hg, rfl⟩
      exact ⟨_, fun w' => yj (bw he) (cH hz) hx' hy' (fun hg => by rw [hn]; exact (hO.atA (b1 hg)).1), hout⟩
     ·cases h
    ·cases h
   ·cases h
  ·cases h
 ·cases h
def Aj (X : Cx) (T : Tbl) (fr : Fr) (st : StB) (g : GK) (d : Tmp) (t : TypeId) (q off : Nat) (K : Go_ R) : Option R := match cX st.G fr.H (y4 q) with
 | some (_, .kn g' _ id ver u _ x) => (match cX st.G fr.H (j9 id) with
  | some (_, .own _ _ _ _ ver') => ifS ( Nat.beq ver ver' && T.imp g g' ) ( match kS X.P t ((mat u x st.c).1.drop off) with
   | some v => K { st with c := (mat u x st.c).2.2, E := bT (some d) g v st.E, G := (mat u x st.c).2.1.map (m9 g) ++ st.G }
   | none => none ) none
  | _ => none)
 | _ => none
theorem Bp {t : TypeId} {x : Operand} {q off : Nat} (hl : st.low fr = true) (hs : Sat (items ρ T st.G ++ (items ρ T fr.H ++ Φ)) w) (hx : opA T st.E fr.F g x = some (.adr q off)) (h : Aj X T fr st g d t q off K = some r) :
  ∃ v, Run X.P (ai ρ T st.E fr.F) (T.get g) ⟨some d, .load t x, ty, pos, af, gd⟩ w v ∧ aA r K T fr st g (some d) ρ Φ v w := by
 unfold Aj at h
 split at h
 ·rename_i s g' q' id ver u i xe hf
  split at h
  ·rename_i s2 id' u' e l ver' hf2
   obtain ⟨h1, h2⟩ := al h
   simp only [Bool.and_eq_true] at h1
   split at h2
   ·rename_i v hv
    obtain ⟨f1, f2⟩ := bk hf
    obtain ⟨f3, f4⟩ := bk hf2
    have e1 : q' = q := Nat.eq_of_beq_eq_true f2
    have e2 : id' = id := Nat.eq_of_beq_eq_true f4
    have e3 : ver = ver' := Nat.eq_of_beq_eq_true h1.1
    subst e1; subst e2; subst e3
    have hx' := ay (ρ := ρ) hx
    simp only [AV.val] at hx'
    have hF := Src.holds hs f1
    obtain ⟨hO, hy2⟩ := Src.holds hs f3
    have key : ∃ (ρ1 : Nms) (vs : List Value), ax st.c ρ ρ1 ∧ AV.ae ρ1 (mat u xe st.c).1 = vs ∧ (T.get g = true → aI w (ρ q').a vs) ∧
      ∀ it ∈ items ρ1 T ((mat u xe st.c).2.1.map (m9 g)), it.cC = true ∧ it.P (Ctx.M (items ρ T st.G ++ (items ρ T fr.H ++ Φ))) w := by
     cases hg : T.get g
     ·refine ⟨ρ, _, .refl, rfl, (fun h => by cases h), fun it hit => ?_⟩
      obtain ⟨r1, hr1, rfl⟩ := List.mem_map.1 hit
      obtain ⟨r2, hr2, rfl⟩ := List.mem_map.1 hr1
      obtain ⟨j1, t1, l1, rfl⟩ := wB _ _ _ _ hr2
      exact mI (fun h => by rw [hg] at h; cases h)
     ·obtain ⟨l0, b1, b2, b3⟩ := hF (Tbl.gR h1.2 hg)
      obtain ⟨e4, e5⟩ := xK b1 hy2
      subst e4
      simp only at e5
      subst e5
      obtain ⟨_, vs, e6, e7⟩ := hO.atA b2
      obtain ⟨ρ1, m1⟩ := tK (T := T) u xe st.c vs e7 ρ
      refine ⟨ρ1, vs, m1.ag, m1.eq, fun _ => by rw [b3]; exact e6, fun it hit => ?_⟩
      obtain ⟨r1, hr1, rfl⟩ := List.mem_map.1 hit
      obtain ⟨r2, hr2, rfl⟩ := List.mem_map.1 hr1
      have hp2 := m1.rp _ hr2
      obtain ⟨j1, t1, l1, rfl⟩ := m1.rs _ hr2
      exact mI (fun _ => hp2)
    obtain ⟨ρ1, vs, k1, k2, k3, k4⟩ := key
    have hs2 := qY hs _ k4
    have eG := aE (T := T) k1 (StB.bM.1 hl).2.2.1
    have hout : aA r K T fr st g (some d) ρ Φ (v.val ρ1) w := by
     refine aA.new (ρ' := ρ1) hl h2 k1 (wc _ _ _) rfl rfl ?_
     show Sat (items ρ1 T (_ ++ st.G) ++ _) w
     rw [aG, eG, List.append_assoc]
     exact hs2
    refine ⟨_, HU fun hg => ?_, hout⟩
    rw [hg] at hx' ⊢
    have hc := k3 hg
    have hsub : aI w ((ρ q').a.add off) (AV.ae ρ1 ((mat u xe st.c).1.drop off)) := by
     refine hc.sub _ ?_
     rw [AV.eP, k2, List.take_of_length_le (Nat.le_refl _)]
    have h' : kS X.P t (((mat u xe st.c).1.drop off).drop 0) = some v := by simpa using hv
    obtain ⟨dd, n, bytes, z, c1, c2, c3⟩ := nF (ρ := ρ1) h'
    cases hd : ji dd
    ·rw [hd] at c3
     simp only [Bool.false_eq_true, if_false] at c3
     refine wJ c1 hd hx' (fun _ => ?_)
     have := hsub.sub (us := [v.val ρ1]) 0 (by
      cases hq : AV.ae ρ1 ((mat u xe st.c).1.drop off) with
      | nil => rw [hq] at c3; cases c3
      | cons a l => rw [hq] at c3; cases c3; simp)
     simpa [Addr.add] using this
    ·unfold kS at hv
     rw [c1] at hv
     rcases cW hv with ⟨_, h3⟩ | ⟨h3, _⟩
     ·split at h3
      ·rename_i z2 hz2
       obtain ⟨n2, bytes2, z2⟩ := z2
       obtain ⟨h4, h5⟩ := al h3
       cases h5
       have hln : n2 ≤ ((mat u xe st.c).1.drop off).length := Nat.le_of_ble_eq_true h4
       simp only [AV.val]
       refine wo c1 hd (cH hz2) hx' (fun _ => ?_) ?_
       ·have := hsub.sub (us := AV.ae ρ1 (((mat u xe st.c).1.drop off).take n2)) 0 (by
         rw [AV.iE, List.drop_zero, List.length_take, AV.aK, Nat.min_eq_left hln])
        simpa [Addr.add] using this
       ·rw [AV.aK, List.length_take, Nat.min_eq_left hln]
      ·cases h3
     ·rw [hd] at h3; cases h3
   ·cases h2
  ·cases h
 ·cases h
theorem KD {t : TypeId} {x : Operand} {q off : Nat} (hl : st.low fr = true) (hs : Sat (items ρ T st.G ++ (items ρ T fr.H ++ Φ)) w) (hx : opA T st.E fr.F g x = some (.adr q off)) (h : Aj X T fr st g d t q off K = some r) :
  Ok2 X.P T g (ai ρ T st.E fr.F) ⟨some d, .load t x, ty, pos, af, gd⟩ w (aA r K T fr st g (some d) ρ Φ) := by
 obtain ⟨v, h1, h2⟩ := Bp (ty := ty) (pos := pos) (af := af) (gd := gd) hl hs hx h
 refine ⟨fun hg => aN.gd (aN.run ?_ h2), fun _ => ⟨_, h2⟩⟩
 rw [hg] at h1; exact h1
end
end Go.Proofs.YtdhgpnejphlfpaaDoor
namespace Go.Proofs.YtdhgpnejphlfpaaDoor
open Go.Lib
section
variable {X : Cx} {R : Type} {r : R} {K : Go_ R} {T : Tbl} {fr : Fr} {st : StB} {g : GK} {d : Tmp} {ρ : Nms} {Φ : Ctx} {w : World} {ty : TypeId} {pos : String} {af : Array Edge} {gd : Option (Nat × Bool)}
/-! cuts -/
def Cr : Operand → Operand → Bool
 | .tmp a, .tmp b => Nat.beq a b
 | .const (.int .i64 a), .const (.int .i64 b) => decide (a = b)
 | _, _ => false
theorem EB {x y : Operand} (h : Cr x y = true) : x = y := by
 unfold Cr at h
 split at h
 ·rw [Nat.eq_of_beq_eq_true h]
 ·rw [of_decide_eq_true h]
 ·cases h
def Hs (_T : Tbl) (g : GK) (st : StB) (d : Tmp) (G : List Row) (t : Ty) (l : List t.T) (i j : Int) (clip : Bool) (K : Go_ R) : Option R :=
 K { st with c := st.c + 1, E := bT (some d) g (.sl st.c) st.E, G := .sli g st.c t (j8 l i j) clip :: G }
def GN (X : Cx) (T : Tbl) (fr : Fr) (st : StB) (g : GK) (d : Tmp) (t : TypeId) (x : Operand) (lo hi mx : Option Operand) (K : Go_ R) : Option R := match fF X.P t with
 | some e => (match tiA X.P e with
  | some z => (match opA T st.E fr.F g x with
   | some (.sl id) => (match loA T st.E fr.F g lo with
    | some i => (match hiA T st.E fr.F g hi with
     | some j => (match cX (frz [id] st.G) fr.H (j9 id) with
      | some (_, .sli g' _ u l _) => ifS ( T.imp g g' && Nat.beq z.1 u.n' ) ( match mx with
       | none => va (some (mo i (j.getD (l.length : Int)) l.length)) (g.map fun _ => T.get g) (Hs T g st d (frz [id] st.G) u l i (j.getD (l.length : Int)) false K)
       | some y => (match hi with
        | some h => (match opA T st.E fr.F g y with
         | some (.int _ m) => ifS (Cr h y) ( va (some (vm i m m l.length)) (g.map fun _ => T.get g) (Hs T g st d (frz [id] st.G) u l i m true K) )
          ( va (some (vm i (j.getD (l.length : Int)) m l.length)) (g.map fun _ => T.get g) (Hs T g st d (frz [id] st.G) u l i (j.getD (l.length : Int)) false K) )
         | _ => none)
        | none => none) ) none
      | _ => none)
     | none => none)
    | none => none)
   | _ => none)
  | none => none)
 | none => none
theorem yF {G : List Row} {t : Ty} {l : List t.T} {i j : Int} {clip : Bool} {p : SLV} (hl : st.low fr = true) (hGl : aO st.c G = true) (hs : Sat (items ρ T G ++ (items ρ T fr.H ++ Φ)) w)
  (hp : T.get g = true → SRd t.rep (Ctx.M (items ρ T G ++ (items ρ T fr.H ++ Φ))) w (sl p) (j8 l i j) ∧ (clip = true → p.2.2 = (j8 l i j).length)) (h : Hs T g st d G t l i j clip K = some r) :
  aA r K T fr st g (some d) ρ Φ (sl p) w := by
 refine aA.new (ρ' := ρ.set st.c { nm0 with v := p }) hl h Nms.aF (Nat.le_succ _) rfl (by simp only [AV.val, Nms.aV]) ?_
 show Sat (items _ T (_ :: G) ++ _) w
 have e := aE (T := T) (Nms.aF (ρ := ρ) (j := st.c) (x := { nm0 with v := p })) hGl
 rw [items, List.map_cons]
 rw [items] at e
 rw [e]
 refine hs.add rfl ?_
 simp only [Row.item, Nms.aV]
 exact hp
theorem F1 {t : TypeId} {x : Operand} {lo hi mx : Option Operand} (hl : st.low fr = true) (hs : Sat (items ρ T st.G ++ (items ρ T fr.H ++ Φ)) w) (h : GN X T fr st g d t x lo hi mx K = some r) :
  Okq X.P T g (ai ρ T st.E fr.F) ⟨some d, .slice t x lo hi mx, ty, pos, af, gd⟩ w (aA r K T fr st g (some d) ρ Φ) := by
 unfold GN at h
 split at h
 ·rename_i e he
  split at h
  ·rename_i z hz
   obtain ⟨n, bytes, z⟩ := z
   split at h
   ·rename_i id hx
    split at h
    ·rename_i i hi
     split at h
     ·rename_i j hj
      replace hs := gf (ids := [id]) hs
      have hGl := mX (ids := [id]) (StB.bM.1 hl).2.2.1
      have hx' := ay (ρ := ρ) hx
      simp only [AV.val] at hx'
      split at h
      ·rename_i s g' id' u l b hf
       obtain ⟨h1, h2⟩ := al h
       simp only [Bool.and_eq_true] at h1
       have hn : n = u.rep.n := (Nat.eq_of_beq_eq_true h1.2).trans u.uq.symm
       obtain ⟨f1, f2⟩ := bk hf
       have : id' = id := Nat.eq_of_beq_eq_true f2
       subst this
       have hT := Src.holds hs f1
       have hS : T.get g = true → SRd u.rep _ w (sl (ρ id').v) l := fun hg => (hT (Tbl.gR h1.1 hg)).1
       have hti := cH hz
       rw [hn] at hti
       split at h2
       ·obtain ⟨h3, h4⟩ := kK h2
        obtain ⟨p, k1, k2⟩ := SRd.Qn hS (fun hg => h3 _ rfl hg)
        have hout := yF (p := p) hl hGl hs (fun hg => ⟨k2 hg, fun hb => by cases hb⟩) h4
        exact ⟨_, fun w' => I8 (bw he) hti hx' (fun hg => (hS hg).len) (zD hi) (CT hj) k1, hout⟩
       ·rename_i y
        split at h2
        ·rename_i hh
         split at h2
         ·rename_i k m hy
          have hy' := ay (ρ := ρ) hy
          simp only [AV.val] at hy'
          rcases cW h2 with ⟨h5, h6⟩ | ⟨_, h6⟩
          ·have := EB h5
           subst this
           obtain ⟨h3, h4⟩ := kK h6
           have key : ∃ p : SLV, (T.get g = true → zJ (sl (ρ id').v) i m m u.rep.n (sl p)) ∧ (T.get g = true → SRd u.rep (Ctx.M (items ρ T (frz [id'] st.G) ++ (items ρ T fr.H ++ Φ))) w (sl p) (j8 l i m) ∧ (true = true → p.2.2 = (j8 l i m).length)) := by
            cases hg : T.get g
            ·exact ⟨(none, 0, 0), (fun h => by cases h), (fun h => by cases h)⟩
            ·obtain ⟨p, q1, q2⟩ := SRd.Qg (hS hg) (h3 _ rfl hg)
             exact ⟨_, fun _ => q1, fun _ => ⟨q2, fun _ => rfl⟩⟩
           obtain ⟨p, k1, k2⟩ := key
           have hout := yF (p := p) hl hGl hs k2 h4
           exact ⟨_, fun w' => zV (lo := lo) (hi := some hh) (bw he) hti hx' (fun hg => (hS hg).len) (zD hi) ⟨k, hy'⟩ hy' k1, hout⟩
          ·obtain ⟨h3, h4⟩ := kK h6
           obtain ⟨p, k1, k2⟩ := SRd.MN hS (fun hg => h3 _ rfl hg)
           have hout := yF (p := p) hl hGl hs (fun hg => ⟨k2 hg, fun hb => by cases hb⟩) h4
           exact ⟨_, fun w' => zV (lo := lo) (hi := some hh) (bw he) hti hx' (fun hg => (hS hg).len) (zD hi) (CT (len := l.length) hj) hy' k1, hout⟩
         ·cases h2
        ·cases h2
      ·cases h
     ·cases h
    ·cases h
   ·cases h
  ·cases h
 ·cases h
/-! literals -/
def Ep (len : Nat) (z : List AV) : List AV := (List.replicate len z).flatten
theorem Ea {len : Nat} {z : List AV} : AV.ae ρ (Ep len z) = (List.replicate len (AV.ae ρ z)).flatten := by
 unfold Ep
 induction len with
 | zero => simp [AV.ae]
 | succ n ih => simp only [List.replicate_succ, List.flatten_cons, cE, ih]
def unR (T : Tbl) (g : GK) : List Row → List Row
 | [] => []
 | r :: G => (match r with
  | .sli g' id t l c => ifS (T.imp g g') (.sli none id t l c) (.sli g' id t l c)
  | r => r) :: unR T g G
def unG (T : Tbl) (g : GK) (G : List Row) : List Row := match g with
 | none => G
 | some _ => unR T g G
theorem Bu {ρ : Nms} {T : Tbl} {g : GK} (hg : T.get g = true) : {G : List Row} → items ρ T (unR T g G) = items ρ T G
 | [] => rfl
 | r :: G => by
  have ih := Bu (ρ := ρ) hg (G := G)
  unfold unR
  simp only [items, List.map_cons] at ih ⊢
  rw [ih]
  congr 1
  cases r with
  | sli g' id t l c =>
   show Row.item ρ T (ifS (T.imp g g') (.sli none id t l c) (.sli g' id t l c)) = _
   cases h : T.imp g g' with
   | false => rfl
   | true =>
    show Row.item ρ T (.sli none id t l c) = _
    simp only [Row.item, Tbl.get_none, Tbl.gR h hg]
  | _ => rfl
theorem sg {ρ : Nms} {T : Tbl} {g : GK} (hg : T.get g = true) {G : List Row} : items ρ T (unG T g G) = items ρ T G := by
 cases g with
 | none => rfl
 | some k => exact Bu hg
def KV (X : Cx) (T : Tbl) (fr : Fr) (st : StB) (g : GK) (d : Tmp) (t : TypeId) (len : Nat) (ps : List (Nat × Operand)) (K : Go_ R) : Option R := match fF X.P t with
 | some e => (match vd X.tys e with
  | some u => (match tiA X.P e with
   | some z => (match ov T st.E fr.F g (ps.map (·.2)) with
    | some vs => (match sw (fun i => some (i * z.1, z.1)) ((ps.map (·.1)).zip vs) (Ep len (z.2.2.cells.toList.map cst)) with
     | some cs => (match rdL (unG T g (frz (AV.sls (.agg vs) ++ (vs.map AV.sls).flatten) st.G)) (unG T g fr.H) u len cs with
      | some xs => ifS ( Nat.beq z.1 u.n' && Nat.beq z.2.2.cells.size z.1 && Nat.ble (len * z.1) 16777216 ) ( match g with
       | none => ifS ( Nat.blt 0 (len * z.1) || Nat.beq len 0 && ps.isEmpty ) ( K { st with c := st.c + 1, E := bT (some d) none (.sl st.c) st.E, G := .own st.c u e xs st.c :: frz (AV.sls (.agg vs) ++ (vs.map AV.sls).flatten) st.G } ) none
       | some _ => ifS ( Nat.blt 0 (len * z.1) || Nat.beq len 0 && ps.isEmpty ) ( K { st with c := st.c + 1, E := bT (some d) g (.sl st.c) st.E, G := .sli g st.c u xs false :: frz (AV.sls (.agg vs) ++ (vs.map AV.sls).flatten) st.G } ) none ) none
      | none => none)
     | none => none)
    | none => none)
   | none => none)
  | none => none)
 | none => none
theorem oF {t : Ty} {e : TypeId} {p : SLV} {l : List t.T} {G : List Row} {w' : World} {st' : StB} (hl : st.low fr = true) (hGl : aO st.c G = true) (hs : Sat (items ρ T G ++ (items ρ T fr.H ++ Φ)) w) (hE : Ext w w')
  (hR : ∀ b ∈ slR p, b < w'.heap.size ∧ w.heap.size ≤ b) (hP : ∀ M', Mv (Ctx.M (items ρ T G ++ (items ρ T fr.H ++ Φ))) w M' w' → Own t.rep e M' w' (sl p) l (slR p))
  (hst : st' = { st with c := st.c + 1, E := bT (some d) none (.sl st.c) st.E, G := .own st.c t e l st.c :: G }) (hK : K st' = some r) : aA r K T fr st none (some d) ρ Φ (sl p) w' := by
 subst hst
 refine aA.new (ρ' := ρ.set st.c { nm0 with v := p, y := ⟨.l t, l⟩ }) hl hK Nms.aF (Nat.le_succ _) rfl (by simp only [AV.val, Nms.aV]) ?_
 show Sat (items _ T (_ :: G) ++ _) w'
 have e := aE (T := T) (Nms.aF (ρ := ρ) (j := st.c) (x := { nm0 with v := p, y := ⟨.l t, l⟩ })) hGl
 rw [items, List.map_cons]
 rw [items] at e
 rw [e]
 refine hs.push hE (fun b hb => ?_) (fun M' m => ?_)
 ·simp only [Row.item, Nms.aV] at hb
  exact hR b hb
 ·simp only [Row.item, Nms.aV]
  exact ⟨hP M' m, trivial⟩
theorem wg {b n c : Nat} : blk (sl (some ⟨b, 0, none⟩, n, c)) = [b] := rfl
theorem tP {p : SLV} {b : Nat} (h : b ∈ slR p) : b ∈ blk (sl p) := by
 unfold slR at h
 split at h
 ·cases h
 ·exact h
theorem Om {t : TypeId} {len : Nat} {ps : Array (Nat × Operand)} (hl : st.low fr = true) (hs : Sat (items ρ T st.G ++ (items ρ T fr.H ++ Φ)) w) (h : KV X T fr st g d t len ps.toList K = some r) :
  Ok2 X.P T g (ai ρ T st.E fr.F) ⟨some d, .buildSlice t len ps, ty, pos, af, gd⟩ w (aA r K T fr st g (some d) ρ Φ) := by
 obtain ⟨ps⟩ := ps
 simp only at h
 unfold KV at h
 split at h
 ·rename_i e he
  split at h
  ·rename_i u hu
   split at h
   ·rename_i z hz
    obtain ⟨n, bytes, z⟩ := z
    split at h
    ·rename_i vs hvs
     split at h
     ·rename_i cs hcs
      have hGl := mX (ids := AV.sls (.agg vs) ++ (vs.map AV.sls).flatten) (StB.bM.1 hl).2.2.1
      replace hs := gf (ids := AV.sls (.agg vs) ++ (vs.map AV.sls).flatten) hs
      generalize frz (AV.sls (.agg vs) ++ (vs.map AV.sls).flatten) st.G = G at h hGl hs
      split at h
      ·rename_i xs hxs
       obtain ⟨h1, h2⟩ := al h
       simp only [Bool.and_eq_true] at h1
       obtain ⟨⟨a1, a2⟩, a3⟩ := h1
       have hn : n = u.rep.n := (Nat.eq_of_beq_eq_true a1).trans u.uq.symm
       have hzs : z.cells.size = n := Nat.eq_of_beq_eq_true a2
       have hk : T.get g = true → xs.length = len ∧ ARd u.rep (Ctx.M (items ρ T G ++ (items ρ T fr.H ++ Φ))) w (AV.ae ρ cs) xs := fun hg => by
        have := Ee (ρ := ρ) (T := T) (Φ := Φ) (w := w) (by rw [sg hg, sg hg]; exact hs) _ _ _ hxs
        rwa [sg hg, sg hg] at this
       have hti := cH hz
       have hfill := q8 (ρ := ρ) hcs
       rw [vg, Ea, jL] at hfill
       have hlit : 0 < n → oL n len z.cells.toList ((ps.map (·.1)).zip (AV.ae ρ vs)) = some (AV.ae ρ cs).toArray := fun hpos => by
        unfold oL
        have e1 := wE z.cells.toList (by simp [hzs]; exact hpos) len
        simp only [Array.length_toList, hzs] at e1
        simp only [Array.length_toList, hzs]
        rw [← hfill, ← e1]
       have hops := iv (ρ := ρ) hvs
       subst hn
       cases g with
       | none =>
        obtain ⟨k1, k2⟩ := hk Tbl.get_none
        obtain ⟨h3, h4⟩ := al h2
        simp only [Bool.or_eq_true, Bool.and_eq_true] at h3
        have hops : kD (ai ρ T st.E fr.F) true (ps.map (·.2)) (AV.ae ρ vs) := by simpa using hops
        rcases h3 with h3 | ⟨h3, h5⟩
        ·have hpos : 0 < u.rep.n := by
          have : 0 < len * u.rep.n := by simpa using h3
          exact Nat.pos_of_ne_zero (fun e => by simp [e] at this)
         have hrun := nD (P := X.P) (w := w) (dst := some d) (ty := ty) (pos := pos) (af := af) (bw he) hti (zs := z.cells.toList) (by simp) h3 a3 hops (hlit hpos)
         have hlen : len * 1 ≤ len * u.rep.n := Nat.mul_le_mul_left _ hpos
         have h9 := Nat.le_of_ble_eq_true a3
         have h8 : Nat.ble len 9223372036854775807 = true := Nat.ble_eq_true_of_le (by omega)
         refine .none_ (aN.gd (aN.kZ hrun ?_))
         have := oF (d := d) (t := u) (e := e) (p := (some ⟨w.heap.size, 0, none⟩, len, len)) hl hGl hs (dO w (.cells (AV.ae ρ cs).toArray e)) (fun b hb => by
          have := tP hb
          rw [wg] at this
          simp only [List.mem_singleton] at this
          subst this; simp) (fun M' m => (Own.of (OSl.fresh (heap_alloc_new w _) k1 h8 (k2.mv m))).wm) rfl h4
         exact this
        ·have e0 : len = 0 := Nat.eq_of_beq_eq_true h3
         subst e0
         have e1 : ps = [] := by simpa using h5
         subst e1
         have hx0 : xs = [] := List.eq_nil_of_length_eq_zero k1
         subst hx0
         have hrun := me (P := X.P) (E := ai ρ T st.E fr.F) (w := w) (dst := some d) (ty := ty) (pos := pos) (af := af) (bw he) hti
         refine .none_ (aN.gd (aN.kZ hrun ?_))
         have := oF (d := d) (t := u) (e := e) (p := (some ⟨w.heap.size, 0, none⟩, 0, 0)) hl hGl hs (dO w (.cells ([] : List Value).toArray e)) (fun b hb => by
          have := tP hb
          rw [wg] at this
          simp only [List.mem_singleton] at this
          subst this; simp) (fun M' m => (Own.of (OSl.fresh (heap_alloc_new w _) rfl rfl ARd.nil)).wm) rfl h4
         exact this
       | some k =>
        obtain ⟨h3, h4⟩ := al h2
        simp only [Bool.or_eq_true, Bool.and_eq_true] at h3
        refine ⟨fun hg => ?_, fun hg => ?_⟩
        ·obtain ⟨k1, k2⟩ := hk hg
         rw [hg] at hops
         have key : ∃ cells : List Value, ky X.P (ai ρ T st.E fr.F) ⟨some d, .buildSlice t len ⟨ps⟩, ty, pos, af, none⟩ w (.slice (some ⟨w.heap.size, 0, none⟩) len len) (w.alloc (.cells cells.toArray e)) ∧ ARd u.rep (Ctx.M (items ρ T G ++ (items ρ T fr.H ++ Φ))) w cells xs := by
          rcases h3 with h3 | ⟨h3, h5⟩
          ·have hpos : 0 < u.rep.n := by
            have : 0 < len * u.rep.n := by simpa using h3
            exact Nat.pos_of_ne_zero (fun e => by simp [e] at this)
           exact ⟨AV.ae ρ cs, nD (P := X.P) (w := w) (dst := some d) (ty := ty) (pos := pos) (af := af) (bw he) hti (zs := z.cells.toList) (by simp) h3 a3 hops (hlit hpos), k2⟩
          ·have e0 : len = 0 := Nat.eq_of_beq_eq_true h3
           subst e0
           have e1 : ps = [] := by simpa using h5
           subst e1
           have hx0 : xs = [] := List.eq_nil_of_length_eq_zero k1
           subst hx0
           exact ⟨[], me (P := X.P) (E := ai ρ T st.E fr.F) (w := w) (dst := some d) (ty := ty) (pos := pos) (af := af) (bw he) hti, ARd.nil⟩
         obtain ⟨cells, hrun, k2⟩ := key
         refine aN.gd (aN.kZ hrun ?_)
         have h1 := hs.ext (dO w (.cells cells.toArray e))
         have hf : SRd u.rep (Ctx.M (items ρ T G ++ (items ρ T fr.H ++ Φ))) (w.alloc (.cells cells.toArray e)) (sl (some ⟨w.heap.size, 0, none⟩, len, len)) xs :=
          SRd.fresh (heap_alloc_new w _) (fun hm => by have := hs.lt hm; omega) k1 (k2.mv ((dO w _).mv _))
         refine aA.new (ρ' := ρ.set st.c { nm0 with v := (some ⟨w.heap.size, 0, none⟩, len, len) }) (av := .sl st.c) hl h4 Nms.aF (Nat.le_succ _) rfl (by simp only [AV.val, Nms.aV]; rfl) ?_
         show Sat (items _ T (_ :: G) ++ _) _
         have e := aE (T := T) (Nms.aF (ρ := ρ) (j := st.c) (x := { nm0 with v := (some ⟨w.heap.size, 0, none⟩, len, len) })) hGl
         rw [items, List.map_cons]
         rw [items] at e
         rw [e]
         refine h1.add rfl ?_
         simp only [Row.item, Nms.aV]
         exact fun _ => ⟨hf, fun hb => by cases hb⟩
        ·refine ⟨_, aA.new (ρ' := ρ.set st.c nm0) (av := .sl st.c) hl h4 Nms.aF (Nat.le_succ _) rfl rfl ?_⟩
         show Sat (items _ T (_ :: G) ++ _) _
         have e := aE (T := T) (Nms.aF (ρ := ρ) (j := st.c) (x := nm0)) hGl
         rw [items, List.map_cons]
         rw [items] at e
         rw [e]
         refine hs.add rfl ?_
         exact fun h => by rw [hg] at h; cases h
      ·cases h
     ·cases h
    ·cases h
   ·cases h
  ·cases h
 ·cases h
end
end Go.Proofs.YtdhgpnejphlfpaaDoor
namespace Go.Proofs.YtdhgpnejphlfpaaDoor
open Go.Lib
section
variable {X : Cx} {R : Type} {r : R} {K : Go_ R} {T : Tbl} {fr : Fr} {st : StB} {g : GK} {d : Tmp} {ρ : Nms} {Φ : Ctx} {w : World} {ty : TypeId} {pos : String} {af : Array Edge} {gd : Option (Nat × Bool)}
def GJ (X : Cx) (T : Tbl) (fr : Fr) (st : StB) (d : Tmp) (t : TypeId) (x y : Operand) (K : Go_ R) : Option R := match fF X.P t with
 | some e => (match vd X.tys e with
  | some u => (match tiA X.P e with
   | some z => (match opA T st.E fr.F none x with
    | some (.int _ l) => ifS ( Cr x y && Nat.beq z.1 u.n' && Nat.beq z.2.2.cells.size z.1 && Nat.blt 0 z.1 ) (
     match rd1 [] [] u (z.2.2.cells.toList.map cst) with
     | some zx => chk (decide (0 ≤ l)) (chk (aM l.toNat z.2.1) (K { st with c := st.c + 1, E := bT (some d) none (.sl st.c) st.E, G := .own st.c u e (List.replicate l.toNat zx) st.c :: st.G }))
     | none => none ) none
    | _ => none)
   | none => none)
  | none => none)
 | none => none
theorem Eh {t : Ty} {v : AV} {l : List t.T} (h : ny [] [] t v = some l) : ∀ (M : Nat → Prop) (w : World), SRd t.rep M w (v.val ρ) l := by
 unfold ny at h
 split at h
 ·rename_i j
  split at h
  ·rename_i hf; simp [cX, lx] at hf
  ·cases h
 ·cases h; intro M w; simp only [AV.val]; exact SRd.nil
 ·cases h
theorem AL : (t : Ty) → (vs : List AV) → (x : t.T × List AV) → rdA [] [] t vs = some x → ∃ us, vs = us ++ x.2 ∧ ∀ (M : Nat → Prop) (w : World), t.rep.rd M w (AV.ae ρ us) x.1
 | .i k, vs, x, h => by
  unfold rdA at h
  split at h
  ·rename_i k' y us
   obtain ⟨h1, h2⟩ := al h
   have := ja h1; subst this
   cases h2
   exact ⟨[.int k y], rfl, fun M w => by simp only [AV.ae, AV.val]; rfl⟩
  ·cases h
 | .bo, vs, x, h => by
  unfold rdA at h
  split at h
  ·rename_i y us
   cases h
   exact ⟨[.bool y], rfl, fun M w => by simp only [AV.ae, AV.val]; rfl⟩
  ·cases h
 | .s, vs, x, h => by
  unfold rdA at h
  split at h
  ·rename_i y us
   cases h
   exact ⟨[.str y], rfl, fun M w => by simp only [AV.ae, AV.val]; rfl⟩
  ·cases h
 | .un, vs, x, h => by
  unfold rdA at h
  cases h
  exact ⟨[], rfl, fun M w => by simp only [AV.ae]; rfl⟩
 | .n, vs, x, h => by unfold rdA at h; cases h
 | .mp _ _, vs, x, h => by unfold rdA at h; cases h
 | .p a b, vs, x, h => by
  unfold rdA at h
  split at h
  ·rename_i y hy
   split at h
   ·rename_i z hz
    cases h
    obtain ⟨us, e1, h1⟩ := AL a vs y hy
    obtain ⟨us', e2, h2⟩ := AL b y.2 z hz
    refine ⟨us ++ us', by rw [e1, e2, List.append_assoc], fun M w => ?_⟩
    rw [cE]
    exact ⟨_, _, rfl, h1 M w, h2 M w⟩
   ·cases h
  ·cases h
 | .l t, vs, x, h => by
  unfold rdA at h
  split at h
  ·rename_i v us
   split at h
   ·rename_i l hl
    cases h
    refine ⟨[v], rfl, fun M w => ?_⟩
    simp only [AV.ae]
    exact (Eh hl M w).rsl
   ·cases h
  ·cases h
 | .ex, vs, x, h => by
  unfold rdA at h
  split at h
  ·rename_i a b c v us
   split at h
   ·rename_i l hl
    cases h
    refine ⟨[.int .i64 a, .int .i64 b, .int .i64 c, v], rfl, fun M w => ?_⟩
    simp only [AV.ae, AV.val]
    exact x6 (Eh hl M w).rsl
   ·cases h
  ·cases h
theorem LN {t : TypeId} {x y : Operand} (hl : st.low fr = true) (hs : Sat (items ρ T st.G ++ (items ρ T fr.H ++ Φ)) w) (h : GJ X T fr st d t x y K = some r) :
  Ok2 X.P T none (ai ρ T st.E fr.F) ⟨some d, .makeSlice t x y, ty, pos, af, gd⟩ w (aA r K T fr st none (some d) ρ Φ) := by
 unfold GJ at h
 split at h
 ·rename_i e he
  split at h
  ·rename_i u hu
   split at h
   ·rename_i z hz
    obtain ⟨n, bytes, z⟩ := z
    split at h
    ·rename_i k l hx
     obtain ⟨h1, h2⟩ := al h
     simp only [Bool.and_eq_true] at h1
     obtain ⟨⟨⟨a1, a2⟩, a3⟩, a4⟩ := h1
     have := EB a1
     subst this
     have hn : n = u.rep.n := (Nat.eq_of_beq_eq_true a2).trans u.uq.symm
     have hzs : z.cells.size = n := Nat.eq_of_beq_eq_true a3
     split at h2
     ·rename_i zx hzx
      obtain ⟨b1, h3⟩ := iL h2
      obtain ⟨b2, h4⟩ := iL h3
      have hx' := bp (ρ := ρ) hx
      simp only [AV.val] at hx'
      have hti := cH hz
      subst hn
      have hzr : ∀ (M : Nat → Prop) (w : World), u.rep.rd M w z.cells.toList zx := by
       unfold rd1 at hzx
       split at hzx
       ·rename_i y' hy'
        cases hzx
        obtain ⟨us, e1, h5⟩ := AL (ρ := ρ) u _ _ hy'
        simp only [List.append_nil] at e1
        intro M w
        have := h5 M w
        rw [← e1, jL] at this
        exact this
       ·cases hzx
      obtain ⟨w', hr, hE, hlt, hO⟩ := I6 (P := X.P) (E := ai ρ T st.E fr.F) (w := w) (dst := some d) (ty := ty) (pos := pos) (af := af) (bw he) hti (zs := z.cells.toList) (by simp) (by simpa using hzs) (by simpa using a4) hx' hx' b1 b2 hzr
      refine .none_ (aN.gd (aN.kZ hr ?_))
      exact oF (d := d) (t := u) (e := e) (p := (some ⟨w.heap.size, 0, none⟩, l.toNat, l.toNat)) hl (StB.bM.1 hl).2.2.1 hs hE (fun b hb => by
       have := tP hb
       rw [wg] at this
       simp only [List.mem_singleton] at this
       subst this; exact ⟨hlt, Nat.le_refl _⟩) (fun M' m => (Own.of (hO M')).wm) rfl h4
     ·cases h2
    ·cases h
   ·cases h
  ·cases h
 ·cases h
/-! appends -/
def KU (X : Cx) (T : Tbl) (fr : Fr) (st : StB) (d : Tmp) (t : TypeId) (x y : Operand) (K : Go_ R) : Option R := match fF X.P t with
 | some e => (match vd X.tys e with
  | some u => (match tiA X.P e with
   | some z => (match opA T st.E fr.F none x with
    | some a => (match opA T st.E fr.F none y with
     | some b => ifS ( Nat.beq z.1 u.n' && Nat.beq z.2.2.cells.size z.1 && Nat.blt 0 z.1 ) ( match ny (frz b.sls st.G) fr.H u b with
      | some ys => (match a with
       | .sl id => (match cX (frz b.sls st.G) fr.H (j9 id) with
        | some (.top j, .own _ u' e' xs _) => ifS ( Nat.beq e e' ) ( match ny.Dyn.asL u ⟨.l u', xs⟩ with
         | some xs => chk (aM (xs.length + ys.length) z.2.1) (K { st with c := st.c + 1, E := bT (some d) none (.sl st.c) st.E, G := (frz b.sls st.G).set j (.own st.c u e (xs ++ ys) st.c) })
         | none => none ) none
        | some (_, .sli none _ u' xs true) => (match ny.Dyn.asL u ⟨.l u', xs⟩ with
         | some xs => (match ys with
          | y :: ys => chk (aM (xs.length + (y :: ys).length) z.2.1) (K { st with c := st.c + 1, E := bT (some d) none (.sl st.c) st.E, G := .own st.c u e (xs ++ y :: ys) st.c :: frz b.sls st.G })
          | [] => none)
         | none => none)
        | _ => none)
       | .raw (.slice none 0 0) => chk (aM (([] : List u.T).length + ys.length) z.2.1) (K { st with c := st.c + 1, E := bT (some d) none (.sl st.c) st.E, G := .own st.c u e ([] ++ ys) st.c :: frz b.sls st.G })
       | _ => none)
      | none => none ) none
     | none => none)
    | none => none)
   | none => none)
  | none => none)
 | none => none
theorem ON {t : TypeId} {x y : Operand} (hl : st.low fr = true) (hs : Sat (items ρ T st.G ++ (items ρ T fr.H ++ Φ)) w) (h : KU X T fr st d t x y K = some r) :
  Ok2 X.P T none (ai ρ T st.E fr.F) ⟨some d, .call ⟨.builtin .append, #[x, y], #[t, t]⟩, ty, pos, af, gd⟩ w (aA r K T fr st none (some d) ρ Φ) := by
 unfold KU at h
 split at h
 ·rename_i e he
  split at h
  ·rename_i u hu
   split at h
   ·rename_i z hz
    obtain ⟨n, bytes, z⟩ := z
    split at h
    ·rename_i a hx
     split at h
     ·rename_i b hy
      obtain ⟨h1, h2⟩ := al h
      simp only [Bool.and_eq_true] at h1
      obtain ⟨⟨a1, a2⟩, a3⟩ := h1
      have hn : n = u.rep.n := (Nat.eq_of_beq_eq_true a1).trans u.uq.symm
      have hzs : z.cells.size = n := Nat.eq_of_beq_eq_true a2
      have hti := cH hz
      subst hn
      have hGl := mX (ids := b.sls) (StB.bM.1 hl).2.2.1
      replace hs := gf (ids := b.sls) hs
      generalize frz b.sls st.G = G at h2 hGl hs
      have hx' := bp (ρ := ρ) hx
      have hy' := bp (ρ := ρ) hy
      have hpos : 0 < u.rep.n := by simpa using a3
      split at h2
      ·rename_i ys hys
       have hyr := AW hs hys
       split at h2
       ·rename_i id
        simp only [AV.val] at hx'
        split at h2
        ·rename_i j id' u' e' xs' ver hf
         obtain ⟨h3, h4⟩ := al h2
         have := Nat.eq_of_beq_eq_true h3
         subst this
         split at h4
         ·rename_i xs hxs
          obtain ⟨eu, ex⟩ := mu hxs
          subst eu
          simp only at ex
          subst ex
          obtain ⟨h5, h6⟩ := iL h4
          obtain ⟨f1, f2⟩ := bk hf
          have : id' = id := Nat.eq_of_beq_eq_true f2
          subst this
          have hi := fc (ρ := ρ) (T := T) (Φ := items ρ T fr.H ++ Φ) f1
          obtain ⟨hO, _⟩ := hs.at_ hi
          obtain ⟨v', R', w', hr, hC, hR, hP⟩ := yh (P := X.P) (E := ai ρ T st.E fr.F) (w := w) (dst := some d) (ty := ty) (pos := pos) (af := af) (bw he) hti hzs hpos hx' hy' hO hyr (fun b hb => Ctx.iz hi hb) h5
          have mv0 : Mv (Ctx.M (items ρ T G ++ (items ρ T fr.H ++ Φ))) w (Ctx.M (items ρ T G ++ (items ρ T fr.H ++ Φ))) w' := ⟨hC.size, fun b hb hn => ⟨hn, hC.block b hb (fun hc => hn (Ctx.iz hi hc))⟩⟩
          have hO' := hP _ mv0
          have hv : ∃ p : SLV, v' = sl p := by
           obtain ⟨a, cap, hv⟩ := hO'.len
           exact ⟨(a, _, cap), hv⟩
          obtain ⟨p, rfl⟩ := hv
          have hj : j < G.length := (List.getElem?_eq_some_iff.1 f1).1
          refine .none_ (aN.gd (aN.kZ hr (aA.new (ρ' := ρ.set st.c { nm0 with v := p, y := ⟨.l u', xs' ++ ys⟩ }) hl h6 Nms.aF (Nat.le_succ _) rfl (by simp only [AV.val, Nms.aV]) ?_)))
          show Sat (items _ T (G.set j _) ++ _) _
          rw [ei hj, aE Nms.aF hGl]
          refine hs.upd hi hC (fun b hb => ?_) (fun M' m _ => ?_)
          ·simp only [Row.item, Nms.aV] at hb
           exact hR b (hO'.canon.1 b hb)
          ·simp only [Row.item, Nms.aV]
           exact ⟨hO'.canon.2 _ _ (hP M' m), trivial⟩
         ·cases h4
        ·rename_i s' id' u' xs' hf
         split at h2
         ·rename_i xs hxs
          obtain ⟨eu, ex⟩ := mu hxs
          subst eu
          simp only at ex
          subst ex
          split at h2
          ·rename_i y0 ys0
           obtain ⟨h5, h6⟩ := iL h2
           obtain ⟨f1, f2⟩ := bk hf
           have : id' = id := Nat.eq_of_beq_eq_true f2
           subst this
           obtain ⟨hS, hcl⟩ := (Src.holds hs f1) Tbl.get_none
           have hcl := hcl rfl
           obtain ⟨ad, cap, hlen⟩ := hS.len
           have ep : (ρ id').v = ((ρ id').v.1, xs'.length, xs'.length) := by
            simp only [sl, Value.slice.injEq] at hlen
            ext1
            ·rfl
            ·ext1
             ·exact hlen.2.1
             ·exact hcl
           rw [ep] at hS hx'
           obtain ⟨i', hi', hsz', hby, hzz⟩ := hti.out
           subst hby
           obtain ⟨v', w', hr, hE, hB, hP⟩ := ze t ty e i' z (bw he) hi' hzz hsz' hzs hS hyr (List.cons_ne_nil _ _) h5
           have hO' := Own.of (hP _ (hE.mv _))
           have hv : ∃ p : SLV, v' = sl p := by
            obtain ⟨a, cap, hv⟩ := hO'.len
            exact ⟨(a, _, cap), hv⟩
           obtain ⟨p, rfl⟩ := hv
           have hrun : ky X.P (ai ρ T st.E fr.F) ⟨some d, .call ⟨.builtin .append, #[x, y], #[t, t]⟩, ty, pos, af, none⟩ w (sl p) w' := fun n' a hf => by
            simp [execOp, resolve, invoke, builtin, hx' n' a hf rfl, hy' n' a hf rfl, show (Builtin.append_ #[t, t] ty #[sl ((ρ id').v.1, xs'.length, xs'.length), AV.val ρ b]).run X.P w = _ from hr]
           refine .none_ (aN.gd (aN.kZ hrun ?_))
           exact oF (d := d) (t := u') (e := e) (p := p) hl hGl hs hE (fun b hb => hB b (tP hb)) (fun M' m => (Own.of (hP M' m)).wm) rfl h6
          ·cases h2
         ·cases h2
        ·cases h2
       ·simp only [AV.val] at hx'
        obtain ⟨h5, h6⟩ := iL h2
        obtain ⟨v', R', w', hr, hC, hR, hP⟩ := yh (P := X.P) (E := ai ρ T st.E fr.F) (w := w) (dst := some d) (ty := ty) (pos := pos) (af := af) (xs := ([] : List u.T)) (bw he) hti hzs hpos hx' hy' Own.nil hyr (fun b hb => by cases hb) h5
        have hE : Ext w w' := ⟨hC.os, hC.tape, hC.output, hC.size, fun b hb => hC.block b hb (fun h => by cases h)⟩
        have hO' := hP _ (hE.mv _)
        have hv : ∃ p : SLV, v' = sl p := by
         obtain ⟨a, cap, hv⟩ := hO'.len
         exact ⟨(a, _, cap), hv⟩
        obtain ⟨p, rfl⟩ := hv
        refine .none_ (aN.gd (aN.kZ hr ?_))
        exact oF (d := d) (t := u) (e := e) (p := p) hl hGl hs hE (fun b hb => by
         obtain ⟨q1, q2⟩ := hR b (hO'.canon.1 b hb)
         rcases q2 with q2 | q2
         ·cases q2
         ·exact ⟨q1, q2⟩) (fun M' m => hO'.canon.2 _ _ (hP M' m)) rfl h6
       ·cases h2
      ·cases h2
     ·cases h
    ·cases h
   ·cases h
  ·cases h
 ·cases h
end
end Go.Proofs.YtdhgpnejphlfpaaDoor
