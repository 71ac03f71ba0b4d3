/-
  Own framework, part 6: strings and bytes.
-/
import Derived.Test.YtiambejbilkgmaaLift5
import Derived.Laws.BytesArg
namespace Go.Proofs.Ytiambejbilkgmaa

theorem w64 {x : Int} (h : -9223372036854775808 ≤ x ∧ x ≤ 9223372036854775807) : IntKind.i64.wrap x = x := by
  rw [IntKind.wrap_i64]; omega
theorem w32 {x : Int} (h : -2147483648 ≤ x ∧ x ≤ 2147483647) : IntKind.i32.wrap x = x := by rw [IntKind.wrap_i32]; omega
theorem wu8 {x : Int} (h : 0 ≤ x ∧ x ≤ 255) : IntKind.u8.wrap x = x := by rw [IntKind.wrap_u8]; omega
theorem wu32 {x : Int} (h : 0 ≤ x ∧ x ≤ 4294967295) : IntKind.u32.wrap x = x := by rw [IntKind.wrap_u32]; omega
theorem wu64 {x : Int} (h : 0 ≤ x ∧ x ≤ 18446744073709551615) : IntKind.u64.wrap x = x := by rw [IntKind.wrap_u64]; omega

def strOf (xs : List Int) : Str := xs.map fun n => UInt8.ofNat n.toNat

section
variable {P : Program} {E : Env} {g : Bool} {w : World}

theorem ARd.ints {k : IntKind} {M : Nat → Prop} {cs : List Value} {xs : List Int} (h : ARd (RI k) M w cs xs) : cs = xs.map (Value.int k) := by
  have hl := h.1
  simp only [RI, Nat.mul_one] at hl
  apply List.ext_getElem (by simpa using hl)
  intro i h1 h2
  have hi : i < xs.length := by omega
  have hr := h.2 i hi
  simp only [RI, Nat.mul_one] at hr
  have : cs[i] = ((cs.drop i).take 1)[0]'(by simp; omega) := by simp
  rw [this]
  simp only [hr, List.getElem_cons_zero, List.getElem_map]

theorem run_b2s {M : Nat → Prop} {v : Value} {xs : List Int} {src d e : TypeId} (hs : P.underlying src = some (.slice e)) (he : P.underlying e = some (.int .u8)) (hd : P.underlying d = some .string)
    (h : SRd (RI .u8) M w v xs) : (convert src d v).run P w = .ok (S (strOf xs)) w := by
  rcases h with ⟨rfl, rfl⟩ | ⟨b, off, cap, cs, e', fr, rfl, hM, hb, hc, ho, hr⟩
  · exact run_convert_bytes_nil w src e hs he 0 0 d hd
  · have hi := hr.ints
    have hlen := hr.1
    refine run_convert_bytes_arg w src e hs he b off xs.length cap xs rfl (fun i hi' => ?_) d hd
    have h1 : (List.take (xs.length * (RI IntKind.u8).n) (List.drop off cs.toList))[i]? = some (.int .u8 xs[i]) := by
      rw [hi]; simp [hi']
    rw [List.getElem?_take] at h1
    split at h1
    · rw [List.getElem?_drop] at h1
      simp only [World.cell?, hb]
      simpa [List.getD, hi'] using h1
    · cases h1

theorem Run_b2s {M : Nat → Prop} {dst : Option Tmp} {ty : TypeId} {pos : String} {af : Array Edge} {gd : Option (Nat × Bool)} {x : Operand} {v : Value} {xs : List Int} {src d e : TypeId} (hs : P.underlying src = some (.slice e)) (he : P.underlying e = some (.int .u8)) (hd : P.underlying d = some .string)
    (hx : Opd E g x v) (h : g = true → SRd (RI .u8) M w v xs) : Run P E g ⟨dst, .convert src d x, ty, pos, af, gd⟩ w (S (strOf xs)) :=
  fun n a hf hg => by simp [execOp, hx n a hf hg, run_b2s hs he hd (h hg)]
end
end Go.Proofs.Ytiambejbilkgmaa
