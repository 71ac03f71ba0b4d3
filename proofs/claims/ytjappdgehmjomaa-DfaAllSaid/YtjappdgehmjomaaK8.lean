/-
  Own framework, part 8: what the printed walks call besides.
-/
import Derived.Test.YtjappdgehmjomaaK7
namespace Go.Proofs.Ytjappdgehmjomaa

section
variable {α : Type} {A : Rep α} {M : Nat → Prop} {w : World} {v : Value} {xs : List α} {i : Int} {x : α} {e : TypeId} {R : List Nat} {cs : List Value}
theorem SRd.cellsF (h : SRd A M w v xs) (hx : idx xs i = some x) (ho : ∀ vs, A.rd M w vs x → vs = cs) : CellsAt w (elA v i A.n) cs := by
  obtain ⟨_, vs, hc, hr, _⟩ := h.atA hx
  rw [← ho vs hr]; exact hc
theorem Own.cellsF (h : Own A e M w v xs R) (hx : idx xs i = some x) (ho : ∀ vs, A.rd M w vs x → vs = cs) : CellsAt w (elA v i A.n) cs := by
  obtain ⟨_, vs, hc, hr⟩ := h.atA hx
  rw [← ho vs hr]; exact hc
end

theorem SRd.cutS {α : Type} {A : Rep α} {M : Nat → Prop} {w : World} {g : Bool} {v : Value} {xs : List α} {i j : Int} (h : g = true → SRd A M w v xs) (hc : g = true → cutB i j xs.length = true) :
    ∃ p : SLV, (g = true → CutV v i j A.n (sl p)) ∧ (g = true → SRd A M w (sl p) (cutL xs i j)) := by
  cases g
  · exact ⟨(none, 0, 0), (fun h => by cases h), (fun h => by cases h)⟩
  · obtain ⟨v', h1, h2⟩ := SRd.cut (h rfl) (hc rfl)
    obtain ⟨p, rfl⟩ := h2.isSl
    exact ⟨p, fun _ => h1, fun _ => h2⟩
theorem SRd.cut3S {α : Type} {A : Rep α} {M : Nat → Prop} {w : World} {g : Bool} {v : Value} {xs : List α} {i j k : Int} (h : g = true → SRd A M w v xs) (hc : g = true → cut3B i j k xs.length = true) :
    ∃ p : SLV, (g = true → CutV3 v i j k A.n (sl p)) ∧ (g = true → SRd A M w (sl p) (cutL xs i j)) := by
  cases g
  · exact ⟨(none, 0, 0), (fun h => by cases h), (fun h => by cases h)⟩
  · obtain ⟨v', h1, h2⟩ := SRd.cut3 (h rfl) (hc rfl)
    obtain ⟨p, rfl⟩ := h2.isSl
    exact ⟨p, fun _ => h1, fun _ => h2⟩
section
variable {P : Program} {ρ : Option Nat} {Q : Post} {n : Nat} {D : List Deferred} {E : Env} {w : World} {ops : Array Oper} {rest : List Oper} {Γ : Ctx} {g : Bool}
variable {dst : Option Tmp} {d : Tmp} {ty : TypeId} {pos : String} {af : Array Edge} {gd : Option (Nat × Bool)}

def ifaceT : TypeDesc → Bool
  | .interface _ => true
  | _ => false
theorem Run_mkIface {x : Operand} {v : Value} {t : TypeId} {dd : TypeDesc} (ht : P.underlying t = some dd) (hd : ifaceT dd = false) (hx : Opd E g x v) : Run P E g ⟨dst, .makeInterface t x, ty, pos, af, gd⟩ w (.iface t v) :=
  fun n a hf hg => by
    simp only [execOp, hx n a hf hg, Instr.makeInterface, Sem.run_bind, run_underlying ht, Result.andThen_ok]
    cases dd <;> first | rfl | (simp [ifaceT] at hd)
theorem Run_tassert {x : Operand} {v : Value} {s t : TypeId} {dd : TypeDesc} (ht : P.underlying t = some dd) (hd : ifaceT dd = false) (hx : Opd E g x (.iface t v)) : Run P E g ⟨dst, .typeAssert x s t false, ty, pos, af, gd⟩ w v :=
  fun n a hf hg => by
    simp only [execOp, hx n a hf hg, Instr.typeAssert, Sem.run_bind, run_underlying ht, Result.andThen_ok]
    cases dd <;> first | (dsimp only; rw [if_pos rfl]; rfl) | (simp [ifaceT] at hd)
end
end Go.Proofs.Ytjappdgehmjomaa
