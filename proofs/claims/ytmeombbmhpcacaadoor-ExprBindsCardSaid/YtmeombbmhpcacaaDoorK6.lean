/-
  Own framework, part 6: strings and bytes; rules for operations, told by the row of things.
-/
import Derived.Test.YtmeombbmhpcacaaDoorK5
import Derived.Laws.BytesArg
import Derived.Laws.IdiomStrings
import Derived.Laws.Cover3
import Derived.Laws.Shifts
import Derived.Laws.BitsAllLaws
namespace Go.Proofs.YtmeombbmhpcacaaDoor

theorem w64 {x : Int} (h : -9223372036854775808 ≤ x ∧ x ≤ 9223372036854775807) : IntKind.i64.wrap x = x := by
  rw [IntKind.wrap_i64]; omega
theorem w32 {x : Int} (h : -2147483648 ≤ x ∧ x ≤ 2147483647) : IntKind.i32.wrap x = x := by rw [IntKind.wrap_i32]; omega
theorem wu8 {x : Int} (h : 0 ≤ x ∧ x ≤ 255) : IntKind.u8.wrap x = x := by rw [IntKind.wrap_u8]; omega
theorem wu32 {x : Int} (h : 0 ≤ x ∧ x ≤ 4294967295) : IntKind.u32.wrap x = x := by rw [IntKind.wrap_u32]; omega
theorem wu64 {x : Int} (h : 0 ≤ x ∧ x ≤ 18446744073709551615) : IntKind.u64.wrap x = x := by rw [IntKind.wrap_u64]; omega

def strOf (xs : List Int) : Str := xs.map fun n => UInt8.ofNat n.toNat

section
variable {P : Program} {E : Env} {g : Bool} {w : World}

theorem ARd.ints {k : IntKind} {M : Nat → Prop} {cs : List Value} {xs : List Int} (h : ARd (RI k) M w cs xs) : cs = xs.map (Value.int k) := by
  have hl := h.1
  simp only [RI, Nat.mul_one] at hl
  apply List.ext_getElem (by simpa using hl)
  intro i h1 h2
  have hi : i < xs.length := by omega
  have hr := h.2 i hi
  simp only [RI, Nat.mul_one] at hr
  have : cs[i] = ((cs.drop i).take 1)[0]'(by simp; omega) := by simp
  rw [this]
  simp only [hr, List.getElem_cons_zero, List.getElem_map]

theorem run_b2s {M : Nat → Prop} {v : Value} {xs : List Int} {src d e : TypeId} (hs : P.underlying src = some (.slice e)) (he : P.underlying e = some (.int .u8)) (hd : P.underlying d = some .string)
    (h : SRd (RI .u8) M w v xs) : (convert src d v).run P w = .ok (S (strOf xs)) w := by
  rcases h with ⟨⟨a, rfl⟩, rfl⟩ | ⟨b, off, cap, cs, e', fr, rfl, hM, hb, hc, ho, hr⟩
  · cases a with
    | none => exact run_convert_bytes_nil w src e hs he 0 0 d hd
    | some a =>
      rw [run_convert_bytes_string w src d e _ 0 0 hs he hd]
      simp [Conv.bytesToString, loadCells, loadCellsFrom, strOf, S]
      try rfl
  · have hi := hr.ints
    have hlen := hr.1
    refine run_convert_bytes_arg w src e hs he b off xs.length cap xs rfl (fun i hi' => ?_) d hd
    have h1 : (List.take (xs.length * (RI IntKind.u8).n) (List.drop off cs.toList))[i]? = some (.int .u8 xs[i]) := by
      rw [hi]; simp [hi']
    rw [List.getElem?_take] at h1
    split at h1
    · rw [List.getElem?_drop] at h1
      simp only [World.cell?, hb]
      simpa [List.getD, hi'] using h1
    · cases h1

theorem Run_b2s {M : Nat → Prop} {dst : Option Tmp} {ty : TypeId} {pos : String} {af : Array Edge} {gd : Option (Nat × Bool)} {x : Operand} {v : Value} {xs : List Int} {src d e : TypeId} (hs : P.underlying src = some (.slice e)) (he : P.underlying e = some (.int .u8)) (hd : P.underlying d = some .string)
    (hx : Opd E g x v) (h : g = true → SRd (RI .u8) M w v xs) : Run P E g ⟨dst, .convert src d x, ty, pos, af, gd⟩ w (S (strOf xs)) :=
  fun n a hf hg => by simp [execOp, hx n a hf hg, run_b2s hs he hd (h hg)]
end

section
variable {P : Program} {E : Env} {w : World} {g : Bool}
variable {dst : Option Tmp} {ty : TypeId} {pos : String} {af : Array Edge} {gd : Option (Nat × Bool)}
/-! numbers -/
def shrI (k : IntKind) (x y : Int) : Int := x / 2 ^ min y.toNat k.bits
def shlI (k : IntKind) (x y : Int) : Int := k.wrap (x * 2 ^ min y.toNat k.bits)
theorem Run_shr {x y : Operand} {k k' : IntKind} {m l : Int} {t t' : TypeId} (hx : Opd E g x (.int k m)) (hy : Opd E g y (.int k' l)) (h0 : g = true → decide (0 ≤ l) = true) :
    Run P E g ⟨dst, .binOp .shr t x y t', ty, pos, af, gd⟩ w (.int k (shrI k m l)) := fun n a hf hg =>
  Run_bin (P := P) hx hy (by
    rw [Sem.run_bind, run_eqGuard_plain rfl, Result.andThen_ok]
    show (Op.shift .shr k m k' l).run P w = _
    rw [shift_shr_any k k' m l (of_decide_eq_true (h0 hg))]; rfl) n a hf hg
theorem Run_shl {x y : Operand} {k k' : IntKind} {m l : Int} {t t' : TypeId} (hx : Opd E g x (.int k m)) (hy : Opd E g y (.int k' l)) (h0 : g = true → decide (0 ≤ l) = true) :
    Run P E g ⟨dst, .binOp .shl t x y t', ty, pos, af, gd⟩ w (.int k (shlI k m l)) := fun n a hf hg =>
  Run_bin (P := P) hx hy (by
    rw [Sem.run_bind, run_eqGuard_plain rfl, Result.andThen_ok]
    show (Op.shift .shl k m k' l).run P w = _
    rw [shift_shl_any k k' m l (of_decide_eq_true (h0 hg))]; rfl) n a hf hg
def andI (k : IntKind) (x y : Int) : Int := k.wrap ((BitVec.ofInt k.bits x &&& BitVec.ofInt k.bits y).toNat : Nat)
def orI (k : IntKind) (x y : Int) : Int := k.wrap ((BitVec.ofInt k.bits x ||| BitVec.ofInt k.bits y).toNat : Nat)
def xorI (k : IntKind) (x y : Int) : Int := k.wrap ((BitVec.ofInt k.bits x ^^^ BitVec.ofInt k.bits y).toNat : Nat)
def andNotI (k : IntKind) (x y : Int) : Int := k.wrap ((BitVec.ofInt k.bits x &&& ~~~ BitVec.ofInt k.bits y).toNat : Nat)
theorem Run_andI {x y : Operand} {k : IntKind} {m l : Int} {t t' : TypeId} (hx : Opd E g x (.int k m)) (hy : Opd E g y (.int k l)) :
    Run P E g ⟨dst, .binOp .and t x y t', ty, pos, af, gd⟩ w (.int k (andI k m l)) := Run_bitsI (.inl rfl) hx hy (fun _ => rfl)
theorem Run_orI {x y : Operand} {k : IntKind} {m l : Int} {t t' : TypeId} (hx : Opd E g x (.int k m)) (hy : Opd E g y (.int k l)) :
    Run P E g ⟨dst, .binOp .or t x y t', ty, pos, af, gd⟩ w (.int k (orI k m l)) := Run_bitsI (.inr (.inl rfl)) hx hy (fun _ => rfl)
theorem Run_xorI {x y : Operand} {k : IntKind} {m l : Int} {t t' : TypeId} (hx : Opd E g x (.int k m)) (hy : Opd E g y (.int k l)) :
    Run P E g ⟨dst, .binOp .xor t x y t', ty, pos, af, gd⟩ w (.int k (xorI k m l)) := Run_bitsI (.inr (.inr (.inl rfl))) hx hy (fun _ => rfl)
theorem Run_andNotI {x y : Operand} {k : IntKind} {m l : Int} {t t' : TypeId} (hx : Opd E g x (.int k m)) (hy : Opd E g y (.int k l)) :
    Run P E g ⟨dst, .binOp .andNot t x y t', ty, pos, af, gd⟩ w (.int k (andNotI k m l)) := Run_bitsI (.inr (.inr (.inr rfl))) hx hy (fun _ => rfl)

/-! strings -/
def ltS (x y : Str) : Bool := Op.bytesLess x y
theorem Run_ltS {x y : Operand} {m l : Str} {t t' : TypeId} (hx : Opd E g x (S m)) (hy : Opd E g y (S l)) :
    Run P E g ⟨dst, .binOp .lss t x y t', ty, pos, af, gd⟩ w (.bool (ltS m l)) := Run_bin hx hy (by simp [eqGuard, S, binOp, Op.stringOp, ltS])
theorem Run_leS {x y : Operand} {m l : Str} {t t' : TypeId} (hx : Opd E g x (S m)) (hy : Opd E g y (S l)) :
    Run P E g ⟨dst, .binOp .leq t x y t', ty, pos, af, gd⟩ w (.bool (ltS m l || m == l)) := Run_bin hx hy (by simp [eqGuard, S, binOp, Op.stringOp, ltS])
theorem Run_gtS {x y : Operand} {m l : Str} {t t' : TypeId} (hx : Opd E g x (S m)) (hy : Opd E g y (S l)) :
    Run P E g ⟨dst, .binOp .gtr t x y t', ty, pos, af, gd⟩ w (.bool (!(ltS m l || m == l))) := Run_bin hx hy (by simp [eqGuard, S, binOp, Op.stringOp, ltS])
theorem Run_geS {x y : Operand} {m l : Str} {t t' : TypeId} (hx : Opd E g x (S m)) (hy : Opd E g y (S l)) :
    Run P E g ⟨dst, .binOp .geq t x y t', ty, pos, af, gd⟩ w (.bool (!(ltS m l))) := Run_bin hx hy (by simp [eqGuard, S, binOp, Op.stringOp, ltS])

/-! nil -/
def nilSl : Value → Bool
  | .slice none _ _ => true
  | _ => false
theorem Run_eqNilSl {x y : Operand} {v : Value} {t t' e : TypeId} {len : Nat} (ht : P.underlying t = some (.slice e)) (hx : Opd E g x v) (hl : Len v len) (hy : Opd E g y (.slice none 0 0)) :
    Run P E g ⟨dst, .binOp .eql t x y t', ty, pos, af, gd⟩ w (.bool (nilSl v)) := by
  obtain ⟨a, cap, rfl⟩ := hl
  exact Run_bin hx hy (by cases a <;> simp [eqGuard, binOp, run_equal_slice_nil w t e _ _ _ ht, nilSl])
theorem Run_neNilSl {x y : Operand} {v : Value} {t t' e : TypeId} {len : Nat} (ht : P.underlying t = some (.slice e)) (hx : Opd E g x v) (hl : Len v len) (hy : Opd E g y (.slice none 0 0)) :
    Run P E g ⟨dst, .binOp .neq t x y t', ty, pos, af, gd⟩ w (.bool (!nilSl v)) := by
  obtain ⟨a, cap, rfl⟩ := hl
  exact Run_bin hx hy (by cases a <;> simp [eqGuard, binOp, run_equal_slice_nil w t e _ _ _ ht, nilSl])
theorem SRd.nilSl {α : Type} {A : Rep α} {M : Nat → Prop} {v : Value} {xs : List α} (h : SRd A M w v xs) (hn : nilSl v = true) : v = .slice none 0 0 ∧ xs = [] := by
  rcases h with ⟨⟨a, rfl⟩, rfl⟩ | ⟨b, off, cap, cs, e, fr, rfl, _⟩
  · cases a with
    | none => exact ⟨rfl, rfl⟩
    | some a => cases hn
  · cases hn
end


/-! bytes of a string -/
def bytesOf (l : Str) : List Int := l.map fun b => (b.toNat : Int)
theorem ARd_bytes {w : World} {M : Nat → Prop} : ∀ l : Str, ARd (RI .u8) M w (l.map fun b => Value.int .u8 (b.toNat : Int)) (bytesOf l)
  | [] => ARd.nil
  | b :: l => ARd.cons (A := RI .u8) (c := [Value.int .u8 (b.toNat : Int)]) rfl (ARd_bytes l)

section
variable {P : Program} {E : Env} {w : World} {dst : Option Tmp} {ty : TypeId} {pos : String} {af : Array Edge}
theorem RunW_s2b {x : Operand} {l : Str} {src dt e : TypeId} (hs : P.underlying src = some .string) (hd : P.underlying dt = some (.slice e)) (he : P.underlying e = some (.int .u8)) (hx : Opd E true x (S l)) :
    ∃ v' w', RunW P E ⟨dst, .convert src dt x, ty, pos, af, none⟩ w v' w' ∧ Ext w w' ∧ w.heap.size < w'.heap.size ∧ (∀ M : Nat → Prop, ¬ M w.heap.size → SRd (RI .u8) M w' v' (bytesOf l)) := by
  have hrun := run_bytes_of_string (P := P) w src dt e ⟨l.toArray⟩ hs hd he
  have hheap : (w.drew.alloc (.cells (bytesRow ⟨l.toArray⟩ (grownCap w l.length 0 e)) e ((bytesRow ⟨l.toArray⟩ (grownCap w l.length 0 e)).size, (bytesRow ⟨l.toArray⟩ (grownCap w l.length 0 e)).size + 1))).heap[w.heap.size]? = some (.cells (bytesRow ⟨l.toArray⟩ (grownCap w l.length 0 e)) e ((bytesRow ⟨l.toArray⟩ (grownCap w l.length 0 e)).size, (bytesRow ⟨l.toArray⟩ (grownCap w l.length 0 e)).size + 1)) := by
    show (w.heap.push _)[w.heap.size]? = _
    simp
  have hE := ext_alloc w.drew (.cells (bytesRow ⟨l.toArray⟩ (grownCap w l.length 0 e)) e ((bytesRow ⟨l.toArray⟩ (grownCap w l.length 0 e)).size, (bytesRow ⟨l.toArray⟩ (grownCap w l.length 0 e)).size + 1))
  have hlt := (Array.getElem?_eq_some_iff.1 hheap).1
  refine ⟨.slice (some ⟨w.heap.size, 0, none⟩) l.length (grownCap w l.length 0 e), _, ?_, ⟨hE.os, hE.tape, hE.output, hE.size, hE.block⟩, hlt, fun M hM => ?_⟩
  · intro n a hf
    rw [size_S] at hrun
    simp only [execOp, hx n a hf rfl]
    simp [S, hrun]
  · have hcap : l.length ≤ grownCap w l.length 0 e := grownCap_ge w l.length 0 e
    have hlen : (bytesOf l).length = l.length := by simp [bytesOf]
    refine .inr ⟨w.heap.size, 0, grownCap w l.length 0 e, bytesRow ⟨l.toArray⟩ (grownCap w l.length 0 e), e, _, by rw [hlen], hM, hheap, by rw [hlen]; exact hcap, ?_, ?_⟩
    · simp [bytesRow, RI, size_S]; omega
    · have : ((bytesRow ⟨l.toArray⟩ (grownCap w l.length 0 e)).toList.drop 0).take ((bytesOf l).length * (RI .u8).n) = l.map fun b => Value.int .u8 (b.toNat : Int) := by
        simp [bytesRow, bytesOf, RI]
      rw [this]
      exact ARd_bytes l
end

/-! ### the rules -/
section
variable {P : Program} {ρ : Option Nat} {Q : Post} {n : Nat} {D : List Deferred} {E : Env} {w : World} {ops : Array Oper} {rest : List Oper} {Γ : Ctx} {i : Nat}
variable {d : Tmp} {ty : TypeId} {pos : String} {af : Array Edge}

theorem WS_alloc {t : TypeId} {size bytes : Nat} {z : Value} {zs : List Value} (hs : Sat Γ w) (hti : TI P t size bytes z) (hz : z.cells = zs.toArray) (hn : Nat.blt d n = true)
    (h : ∀ b w', Sat (box b t zs :: Γ) w' → WL P ρ ops Q n D rest ((d, true, .pointer (some ⟨b, 0, none⟩)) :: E) w') :
    WL P ρ ops Q n D (⟨some d, .alloc t, ty, pos, af, none⟩ :: rest) E w :=
  WL_opW (RunW_alloc hti hz) rfl rfl rfl hn (h _ _ (hs.push (ext_alloc _ _) (fun b hb => by
    have : b = w.heap.size := by simpa [box] using hb
    subst this; simp) (fun _ _ => heap_alloc_new w _)))
theorem WS_box {t : TypeId} {x : Operand} {v : Value} {zs : List Value} (hs : Sat Γ w) (hx : Opd E true x v) (hz : v.cells = zs.toArray) (hn : Nat.blt d n = true)
    (h : ∀ b w', Sat (box b t zs :: Γ) w' → WL P ρ ops Q n D rest ((d, true, .pointer (some ⟨b, 0, none⟩)) :: E) w') :
    WL P ρ ops Q n D (⟨some d, .box t x, ty, pos, af, none⟩ :: rest) E w :=
  WL_opW (RunW_box hx hz) rfl rfl rfl hn (h _ _ (hs.push (ext_alloc _ _) (fun b hb => by
    have : b = w.heap.size := by simpa [box] using hb
    subst this; simp) (fun _ _ => heap_alloc_new w _)))
theorem WS_lit {α : Type} {A : Rep α} {t e : TypeId} {len bytes : Nat} {z : Value} {zs cells : List Value} {parts : List (Nat × Operand)} {vs : List Value} {xs : List α}
    (hs : Sat Γ w) (ht : P.underlying t = some (.slice e)) (hti : TI P e A.n bytes z) (hz : z.cells = zs.toArray) (hpos : Nat.blt 0 (len * A.n) = true) (hbig : Nat.ble (len * A.n) 16777216 = true)
    (hx : Opds E true (parts.map (·.2)) vs) (hc : litCells A.n len zs ((parts.map (·.1)).zip vs) = some cells.toArray) (hl : xs.length = len) (hA : ARd A Γ.M w cells xs) (hn : Nat.blt d n = true)
    (h : ∀ b w', Sat (osl A e (.slice (some ⟨b, 0, none⟩) len len) xs [b] :: Γ) w' → WL P ρ ops Q n D rest ((d, true, .slice (some ⟨b, 0, none⟩) len len) :: E) w') :
    WL P ρ ops Q n D (⟨some d, .buildSlice t len parts.toArray, ty, pos, af, none⟩ :: rest) E w :=
  WL_opW (RunW_buildSlice ht hti hz hpos hbig hx hc) rfl rfl rfl hn (h _ _ (hs.push (ext_alloc _ _) (fun b hb => by
    have : b = w.heap.size := by simpa [osl] using hb
    subst this; simp) (fun M' m => Own.of (OSl.fresh (heap_alloc_new w _) hl (by
      have h1 := Nat.le_of_ble_eq_true hbig
      have h2 : 0 < len * A.n := by simpa using hpos
      have h3 : 0 < A.n := Nat.pos_of_ne_zero (fun e => by simp [e] at h2)
      have h4 : len * 1 ≤ len * A.n := Nat.mul_le_mul_left _ h3
      exact Nat.ble_eq_true_of_le (by omega)) (hA.mv m)))))
theorem WS_lit0 {α : Type} {A : Rep α} {t e : TypeId} {bytes : Nat} {z : Value}
    (hs : Sat Γ w) (ht : P.underlying t = some (.slice e)) (hti : TI P e A.n bytes z) (hn : Nat.blt d n = true)
    (h : ∀ b w', Sat (osl A e (.slice (some ⟨b, 0, none⟩) 0 0) ([] : List α) [b] :: Γ) w' → WL P ρ ops Q n D rest ((d, true, .slice (some ⟨b, 0, none⟩) 0 0) :: E) w') :
    WL P ρ ops Q n D (⟨some d, .buildSlice t 0 #[], ty, pos, af, none⟩ :: rest) E w :=
  WL_opW (RunW_buildSlice0 ht hti) rfl rfl rfl hn (h _ _ (hs.push (ext_alloc _ _) (fun b hb => by
    have : b = w.heap.size := by simpa [osl] using hb
    subst this; simp) (fun M' m => Own.of (OSl.fresh (heap_alloc_new w _) rfl rfl ARd.nil))))
theorem WS_make {α : Type} {A : Rep α} {x y : Operand} {t e : TypeId} {bytes : Nat} {z : Value} {k k' : IntKind} {l : Int} {zx : α} {zs : List Value} (hs : Sat Γ w) (ht : P.underlying t = some (.slice e)) (hti : TI P e A.n bytes z)
    (hz : z.cells = zs.toArray) (hzl : zs.length = A.n) (hpos : Nat.blt 0 A.n = true) (hx : Opd E true x (.int k l)) (hy : Opd E true y (.int k' l)) (h0 : decide (0 ≤ l) = true) (hroom : roomB l.toNat bytes = true)
    (hzr : ∀ M w, A.rd M w zs zx) (hn : Nat.blt d n = true)
    (h : ∀ b w', Sat (osl A e (.slice (some ⟨b, 0, none⟩) l.toNat l.toNat) (List.replicate l.toNat zx) [b] :: Γ) w' → WL P ρ ops Q n D rest ((d, true, .slice (some ⟨b, 0, none⟩) l.toNat l.toNat) :: E) w') :
    WL P ρ ops Q n D (⟨some d, .makeSlice t x y, ty, pos, af, none⟩ :: rest) E w := by
  obtain ⟨w', hr, hE, hlt, hO⟩ := RunW_make (P := P) (E := E) (w := w) (dst := some d) (ty := ty) (pos := pos) (af := af) ht hti hz hzl (by simpa using hpos) hx hy h0 hroom hzr
  exact WL_opW hr rfl rfl rfl hn (h _ _ (hs.push hE (fun b hb => by
    have : b = w.heap.size := by simpa [osl] using hb
    subst this; exact ⟨hlt, Nat.le_refl _⟩) (fun M' m => Own.of (hO M'))))
theorem WS_s2b {x : Operand} {l : Str} {src dt e : TypeId} (hs : Sat Γ w) (h1 : P.underlying src = some .string) (h2 : P.underlying dt = some (.slice e)) (he : P.underlying e = some (.int .u8)) (hx : Opd E true x (S l)) (hn : Nat.blt d n = true)
    (h : ∀ (p : SLV) w', Sat (imm (RSl (RI .u8)) [sl p] (bytesOf l) :: Γ) w' → WL P ρ ops Q n D rest ((d, true, sl p) :: E) w') :
    WL P ρ ops Q n D (⟨some d, .convert src dt x, ty, pos, af, none⟩ :: rest) E w := by
  obtain ⟨v', w', hr, hE, hlt, hO⟩ := RunW_s2b (P := P) (E := E) (w := w) (dst := some d) (ty := ty) (pos := pos) (af := af) h1 h2 he hx
  have hf := hO Γ.M (fun hm => by have := hs.lt hm; omega)
  obtain ⟨p, rfl⟩ := hf.isSl
  exact WL_opW hr rfl rfl rfl hn (h _ _ ((hs.ext hE).addS hf))

theorem WS_store {t e : TypeId} {x y : Operand} {b k : Nat} {vs us vs' : List Value} {v : Value} {size bytes : Nat} {z : Value} (hs : Sat Γ w) (i : Nat) (hi : Γ[i]? = some (box b e vs)) (hti : TI P t size bytes z)
    (hx : Opd E true x (.pointer (some ⟨b, k, none⟩))) (hy : Opd E true y v) (hv : v.cells = us.toArray) (hl : us.length = size)
    (h1 : us.all Value.oneCell' = true) (hk : Nat.ble (k + us.length) vs.length = true) (hvs : setSeg vs k us = vs')
    (h : ∀ w', Sat (Γ.set i (box b e vs')) w' → WL P ρ ops Q n D rest E w') :
    WL P ρ ops Q n D (⟨none, .store t x y, ty, pos, af, none⟩ :: rest) E w := by
  obtain ⟨hr, hC, hB⟩ := RunS_store (P := P) (E := E) (w := w) (dst := none) (ty := ty) (pos := pos) (af := af) hti hx hy hv hl h1 (hs.box hi) hk hvs
  exact WL_opS hr rfl rfl rfl (h _ (hs.upd hi hC (fun c hc => by
    have : c = b := by simpa [box] using hc
    subst this; exact ⟨hB.lt, .inl (by simp [box])⟩) (fun _ _ _ => hB)))

/-- a store into a part of an element of an own slice -/
theorem WS_storeEl {α : Type} {A : Rep α} {t e : TypeId} {x y : Operand} {j : Int} {k : Nat} {sv v : Value} {xs : List α} {R : List Nat} {u u0 : α} {vs us vs' : List Value} {size bytes : Nat} {z : Value} (hs : Sat Γ w) (i : Nat) (hi : Γ[i]? = some (osl A e sv xs R)) (hti : TI P t size bytes z)
    (hj : idx xs j = some u0) (hx : Opd E true x (.pointer (some ((elA sv j A.n).add k)))) (hy : Opd E true y v) (hv : v.cells = us.toArray) (hsz : us.length = size) (h1c : us.all Value.oneCell' = true)
    (hC : CellsAt w (elA sv j A.n) vs) (hvl : vs.length = A.n) (hkl : Nat.ble (k + us.length) vs.length = true) (hvs : setSeg vs k us = vs') (hu : A.rd Γ.M w vs' u)
    (h : ∀ w', Sat (Γ.set i (osl A e sv (xs.set j.toNat u) R)) w' → WL P ρ ops Q n D rest E w') :
    WL P ρ ops Q n D (⟨none, .store t x y, ty, pos, af, none⟩ :: rest) E w := by
  have ho := hs.own hi
  obtain ⟨hO, rfl⟩ := ho.osl hj
  obtain ⟨w', hr, hCh, hsz', hP⟩ := RunS_storeElF (P := P) (E := E) (w := w) (dst := none) (ty := ty) (pos := pos) (af := af) hti hx hy hv hsz h1c (ho.atA hj).1 hO hC hvl hkl hvs hu (fun b hb => Ctx.mem_M hi hb)
  exact WL_opS hr rfl rfl rfl (h _ (hs.upd hi hCh (fun c hc => ⟨by rw [hsz']; exact ho.lt c hc, .inl hc⟩) (fun M' m _ => Own.of (hP M' m))))

theorem WS_append {α : Type} {A : Rep α} {v u : Value} {x y : Operand} {t e : TypeId} {bytes : Nat} {z : Value} {R : List Nat} {xs ys : List α} (hs : Sat Γ w) (i : Nat) (hi : Γ[i]? = some (osl A e v xs R))
    (ht : P.underlying t = some (.slice e)) (hti : TI P e A.n bytes z) (hzs : z.cells.size = A.n) (hpos : Nat.blt 0 A.n = true) (hx : Opd E true x v) (hy : Opd E true y u) (hyr : SRd A Γ.M w u ys)
    (hroom : roomB (xs.length + ys.length) bytes = true) (hn : Nat.blt d n = true)
    (h : ∀ (p : SLV) R' w', Sat (Γ.set i (osl A e (sl p) (xs ++ ys) R')) w' → WL P ρ ops Q n D rest ((d, true, sl p) :: E) w') :
    WL P ρ ops Q n D (⟨some d, .call ⟨.builtin .append, #[x, y], #[t, t]⟩, ty, pos, af, none⟩ :: rest) E w := by
  obtain ⟨v', R', w', hr, hC, hR, hO⟩ := run_appendO (P := P) (E := E) (w := w) (dst := some d) (ty := ty) (pos := pos) (af := af) ht hti hzs (by simpa using hpos) hx hy (hs.own hi) hyr (fun b hb => Ctx.mem_M hi hb) hroom
  have hS := hs.upd hi (new := osl A e v' (xs ++ ys) R') hC hR (fun M' m _ => hO M' m)
  have hv : ∃ p, v' = sl p := by
    have hlt : i < Γ.length := (List.getElem?_eq_some_iff.1 hi).1
    have ho := hS.own (i := i) (A := A) (e := e) (v := v') (xs := xs ++ ys) (R := R') (by rw [List.getElem?_set_self hlt])
    obtain ⟨a, cap, hv⟩ := ho.len
    exact ⟨(a, _, cap), hv⟩
  obtain ⟨p, rfl⟩ := hv
  exact WL_opW hr rfl rfl rfl hn (h _ _ _ hS)

/-! ranges over strings -/
def runeAt (l : Str) (pos : Nat) : Int := ((Utf8.decode ⟨l.toArray⟩ pos).1 : Nat)
def runePos (l : Str) (pos : Nat) : Nat := pos + (Utf8.decode ⟨l.toArray⟩ pos).2
theorem WS_range {t : TypeId} {x : Operand} {l : Str} (hs : Sat Γ w) (ht : P.underlying t = some .string) (hx : Opd E true x (S l)) (hn : Nat.blt d n = true)
    (h : ∀ b w', Sat (iter b l 0 :: Γ) w' → WL P ρ ops Q n D rest ((d, true, .pointer (some ⟨b, 0, none⟩)) :: E) w') :
    WL P ρ ops Q n D (⟨some d, .range t x, ty, pos, af, none⟩ :: rest) E w :=
  WL_opW (w' := w.alloc (.stringIter ⟨l.toArray⟩ 0)) (v := .pointer (some ⟨w.heap.size, 0, none⟩)) (fun n' a hf => by
    simp [execOp, hx n' a hf rfl, Instr.range, run_underlying ht, S]) rfl rfl rfl hn (h _ _ (hs.push (ext_alloc _ _) (fun b hb => by
    have : b = w.heap.size := by simpa [iter] using hb
    subst this; simp) (fun _ _ => heap_alloc_new w _)))
theorem WS_next {x : Operand} {l : Str} {b q : Nat} (hs : Sat Γ w) (i : Nat) (hi : Γ[i]? = some (iter b l q)) (hx : Opd E true x (.pointer (some ⟨b, 0, none⟩))) (hn : Nat.blt d n = true)
    (h1 : decide (q < l.length) = true → ∀ w', Sat (Γ.set i (iter b l (runePos l q))) w' → WL P ρ ops Q n D rest ((d, true, .tuple #[.bool true, .int .i64 (q : Int), .int .i32 (runeAt l q)]) :: E) w')
    (h2 : decide (q < l.length) = false → WL P ρ ops Q n D rest ((d, true, .tuple #[.bool false]) :: E) w) :
    WL P ρ ops Q n D (⟨some d, .next x true, ty, pos, af, none⟩ :: rest) E w := by
  have hI := hs.iter hi
  have hg : (getObj b).run P w = .ok (.stringIter ⟨l.toArray⟩ q) w := by
    simp only [getObj, Sem.run]; rw [hI]
  cases hq : decide (q < l.length)
  · have hq' : ¬ q < l.length := by simpa using hq
    refine WL_opW (fun n' a hf => ?_) rfl rfl rfl hn (h2 hq)
    have hs : ¬ q < (⟨l.toArray⟩ : ByteArray).size := by rw [size_S]; exact hq'
    simp only [execOp, hx n' a hf rfl, Instr.next, Sem.run_bind, hg, Result.andThen_ok, if_neg hs, Sem.run_pure]
  · have hq' : q < l.length := by simpa using hq
    have hlt := (Array.getElem?_eq_some_iff.1 hI).1
    let w' : World := { w with heap := w.heap.setIfInBounds b (.stringIter ⟨l.toArray⟩ (runePos l q)) }
    have hIt : IterAt w' b l (runePos l q) := by
      show (w.heap.setIfInBounds b _)[b]? = _
      rw [Array.getElem?_setIfInBounds_self_of_lt hlt]
    have hC : Chg [b] w w' := ⟨rfl, rfl, rfl, by show w.heap.size ≤ (w.heap.setIfInBounds b _).size; simp, fun c _ hcb => by
      show (w.heap.setIfInBounds b _)[c]? = _
      have hne : c ≠ b := by simpa using hcb
      rw [Array.getElem?_setIfInBounds_ne (Ne.symm hne)]⟩
    refine WL_opW (w' := w') (fun n' a hf => ?_) rfl rfl rfl hn (h1 hq w' (hs.upd hi hC (fun c hc => by
      have : c = b := by simpa [Go.Proofs.YtmeombbmhpcacaaDoor.iter] using hc
      subst this; exact ⟨(Array.getElem?_eq_some_iff.1 hIt).1, .inl (by simp [Go.Proofs.YtmeombbmhpcacaaDoor.iter])⟩) (fun _ _ _ => hIt)))
    have hst : (setObj b (.stringIter ⟨l.toArray⟩ (runePos l q))).run P w = .ok () w' := by
      simp only [setObj, Sem.run]; rw [hI]
    have hs : q < (⟨l.toArray⟩ : ByteArray).size := by rw [size_S]; exact hq'
    have e1 : runePos l q = q + (Utf8.decode ⟨l.toArray⟩ q).2 := rfl
    rw [e1] at hst
    simp only [execOp, hx n' a hf rfl, Instr.next, Sem.run_bind, hg, Result.andThen_ok, if_pos hs, Sem.run_pure, hst, goInt]
    rfl
end
end Go.Proofs.YtmeombbmhpcacaaDoor
