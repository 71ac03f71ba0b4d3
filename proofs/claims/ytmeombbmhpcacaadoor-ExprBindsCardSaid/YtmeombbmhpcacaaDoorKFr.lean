/-
  Own framework: what a row's list of package variables gives, and the frame's start and end.
-/
import Derived.Test.YtmeombbmhpcacaaDoorK9
import Derived.Lib.LaidTab
import Derived.Below
import Derived.WalkKit
import Derived.ProofKit
namespace Go.Proofs.YtmeombbmhpcacaaDoor
open Go.Lib Go.ChangeAt Go.ChangeShapes Go.WideShapes Go.RowKit

theorem laid_at {P : Program} {w : World} : ∀ (l : List (String × DataW Unit)) (ps : List MemPlace), DataW.LaidVars P w l ps → ∀ (i : Nat) (n : String) (d : DataW Unit), l[i]? = some (n, d) →
    ∃ g t cs fuel p, P.globalNamed n = some g ∧ (P.globals[g]?).map (·.type) = some t ∧ w.var? P n = some cs ∧ DataW.trod (fun _ => ()) P w 0 (fun _ => true) false fuel t cs.toList = some (d, p)
  | [], _, _, i, n, d, h => by simp at h
  | (n0, d0) :: l, ps, h, i, n, d, hi => by
    obtain ⟨g, t, cs, fuel, p, q, h1, h2, h3, h4, h5, _⟩ := h
    cases i with
    | zero =>
      simp only [List.getElem?_cons_zero, Option.some.injEq, Prod.mk.injEq] at hi
      obtain ⟨rfl, rfl⟩ := hi
      exact ⟨g, t, cs, fuel, p, h1, h2, h3, h4⟩
    | succ i => exact laid_at l q h5 i n d (by simpa using hi)

/-- an array of strings that reads so holds these -/
theorem cells_of_strs {H : Type} {enc : TypeId × Value → H} {P : Program} {w : World} {base : Nat} {sp : Nat → Bool} {held : Bool} {fuel : Nat} {t e : TypeId} {n : Nat} {cs : List Value} {zs : List Str} {p : List MemPlace}
    (ht : P.underlying t = some (.array n e)) (he : P.underlying e = some .string) (hce : P.cellsOf e = 1) (hct : P.cellsOf t = n)
    (h : DataW.trod enc P w base sp held fuel t cs = some (.agg (zs.map fun z => .lit (.string z)), p)) : cs = zs.map S := by
  cases fuel with
  | zero => simp [DataW.trod] at h
  | succ fuel =>
    simp only [DataW.trod, ht, hce, hct, Nat.mul_one] at h
    split at h
    · rename_i hl
      obtain ⟨xs, hm, hx⟩ := Option.map_eq_some_iff.1 h
      have hxs : xs.map (·.1) = zs.map fun z => (DataW.lit (.string z) : DataW H) := by
        have := congrArg Prod.fst hx
        simpa using this
      have hxl : xs.length = n := by simpa using mapM_length hm
      have hzl : zs.length = n := by
        have := congrArg List.length hxs
        simp at this
        omega
      apply List.ext_getElem?
      intro i
      by_cases hi : i < n
      · obtain ⟨b, hb, hf⟩ := mapM_at hm i i (by simp [hi])
        obtain ⟨z, hc, rfl, _⟩ := DataW.trod_string he hf
        have h1 : cs[i]? = some (.string z) := by
          have := congrArg (·[0]?) hc
          simpa [List.getElem?_take, List.getElem?_drop] using this
        have h2 : (xs.map (·.1))[i]? = some (DataW.lit (.string z.data.toList) : DataW H) := by simp [hb]
        rw [hxs] at h2
        simp only [List.getElem?_map, Option.map_eq_some_iff, DataW.lit.injEq, Lit.string.injEq] at h2
        obtain ⟨z', hz', hz2⟩ := h2
        subst hz2
        simp [h1, hz', S]
      · rw [List.getElem?_eq_none (by omega), List.getElem?_eq_none (by simp; omega)]
    · cases h

/-- the row's list, without handles -/
theorem laidMet_of {P : Program} {laid : List (String × DataW Unit)} {w : World} (hf : (laid.filter fun x => x.2.handleName?.isSome) = []) (h : laidMetH P laid w) : laidMet P laid w := by
  unfold laidMetH at h
  rw [hf] at h
  exact h

/-- a variable that the row lists, as a thing: strings -/
theorem gl_strs {P : Program} {laid : List (String × DataW Unit)} {w : World} {Γ : Ctx} (h : laidMet P laid w) (i : Nat) {n : String} {zs : List Str} {g : Nat} {t e : TypeId} {k : Nat}
    (hi : laid[i]? = some (n, .agg (zs.map fun z => .lit (.string z)))) (hg : P.globalNamed n = some g) (hty : (P.globals[g]?).map (·.type) = some t)
    (ht : P.underlying t = some (.array k e)) (he : P.underlying e = some .string) (hce : P.cellsOf e = 1) (hct : P.cellsOf t = k) (hM : ¬ Γ.M g) : (gl g (zs.map S)).P Γ.M w := by
  obtain ⟨ps, hl, _⟩ := h
  obtain ⟨g', t', cs, fuel, p, hg', ht', hv, hd⟩ := laid_at _ _ hl i n _ hi
  obtain rfl := Option.some.inj (hg.symm.trans hg')
  obtain rfl := Option.some.inj (hty.symm.trans ht')
  have e1 := cells_of_strs ht he hce hct hd
  refine ⟨hM, ?_⟩
  unfold World.var? at hv
  rw [hg] at hv
  simp only [Option.bind_some] at hv
  split at hv
  · rename_i c ty fr hb
    obtain rfl := Option.some.inj hv
    exact ⟨ty, fr, by rw [hb, ← e1]⟩
  · cases hv
/-- whole numbers -/
theorem gl_ints {P : Program} {laid : List (String × DataW Unit)} {w : World} {Γ : Ctx} (h : laidMet P laid w) (i : Nat) {n : String} {kd : IntKind} {zs : List Int} {g : Nat} {t e : TypeId} {k : Nat}
    (hi : laid[i]? = some (n, tabData kd zs)) (hg : P.globalNamed n = some g) (hty : (P.globals[g]?).map (·.type) = some t)
    (ht : P.underlying t = some (.array k e)) (he : P.underlying e = some (.int kd)) (hce : P.cellsOf e = 1) (hct : P.cellsOf t = k) (hM : ¬ Γ.M g) : (gl g (zs.map (Value.int kd))).P Γ.M w := by
  obtain ⟨ps, hl, _⟩ := h
  obtain ⟨g', t', cs, fuel, p, hg', ht', hv, hd⟩ := laid_at _ _ hl i n _ hi
  obtain rfl := Option.some.inj (hg.symm.trans hg')
  obtain rfl := Option.some.inj (hty.symm.trans ht')
  have e1 := cells_of_tab ht he hce hct hd
  refine ⟨hM, ?_⟩
  unfold World.var? at hv
  rw [hg] at hv
  simp only [Option.bind_some] at hv
  split at hv
  · rename_i c ty fr hb
    obtain rfl := Option.some.inj hv
    exact ⟨ty, fr, by rw [hb, ← e1]⟩
  · cases hv

/-! the row at the start: nothing is owned -/
def NoM (Γ : Ctx) : Prop := ∀ b, ¬ Γ.M b
theorem noM_nil : NoM [] := fun b h => by obtain ⟨it, h, _⟩ := h; cases h
theorem noM_cons {it : Item} {Γ : Ctx} (hp : it.own = []) (h : NoM Γ) : NoM (it :: Γ) := fun b hb => by
  rcases Ctx.M_cons.1 hb with h1 | h1
  · rw [hp] at h1; cases h1
  · exact h b h1
theorem sat_start (w : World) : Sat [kept w (fun _ => False)] w := Sat.nil.add rfl ⟨SameEnv.refl w, Nat.le_refl _, fun b _ _ => ⟨noM_nil b, rfl⟩⟩
theorem noM_start (w : World) : NoM [kept w (fun _ => False)] := noM_cons rfl noM_nil
theorem mv_start {w : World} {Γ : Ctx} (h : NoM Γ) : Mv (fun _ => False) w Γ.M w := ⟨Nat.le_refl _, fun b _ _ => ⟨h b, rfl⟩⟩
theorem below_end {w w' : World} {Γ : Ctx} {i : Nat} (h : Sat Γ w') (hi : Γ[i]? = some (kept w (fun _ => False))) : Below w.heap.size w w' := by
  obtain ⟨h1, h2, h3⟩ := h.kept hi
  exact ⟨h1.os, h1.tape, h1.output, h2, fun k hk => (h3 k hk (fun h => h)).2⟩
end Go.Proofs.YtmeombbmhpcacaaDoor
