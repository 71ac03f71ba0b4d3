/-
  Own texts for the statement ModelNames, cut down to what it needs: MoName5, KFr. (cut and joined by a program)
-/
import Derived.Test.YtdhgpnejphlfpaaDoorModelNamesA
import Derived.Test.YtdhgpnejphlfpaaDoorModelNamesB
import Derived.Test.YtdhgpnejphlfpaaDoorModelNamesC
import Derived.Test.YtdhgpnejphlfpaaDoorModelNamesD
import Derived.Test.YtdhgpnejphlfpaaDoorModelNamesE
import Derived.Test.YtdhgpnejphlfpaaDoorModelNamesF
import Derived.Lib.LaidTab
import Derived.Below
import Derived.WalkKit
import Derived.ProofKit
namespace Go.Proofs.YtdhgpnejphlfpaaDoor
namespace Mo
open Pa Sy
open Lx (Pc textP placeP okP wordB endsB)
theorem modelNames_true (a b : Str) (kind : Int) (hla : a.length ≤ 9223372036854775807) (hlb : b.length ≤ 9223372036854775807) (hk : 0 ≤ kind ∧ kind ≤ 255) : scrutinylaw14_ModelNames a b kind = some true := by
 unfold scrutinylaw14_ModelNames
 rw [shown_true, bind_s, Lx.word_m a hla, bind_s]
 cases hwa : wordB a
 ·rfl
 ·rw [Lx.word_m b hlb]
  simp only [letv_e, Bool.not_true, Bool.not_false, callG_v, cond_true, Bool.false_or]
  cases hwb : wordB b
  ·rfl
  ·rw [RKey_eq]
   simp only [Bool.not_true, Bool.not_false, callG_v, cond_true, Bool.false_or]
   cases hka : keysT.contains a
   ·have la := word_len hwa
    have lb := word_len hwb
    rw [cond_false, Sy.chk_t (catB_le (by simp; omega)), Sy.chk_t (catB_le (by simp; omega))]
    have hK1 : ∀ f, scrutinylaw14_ModelNames_K1 a b kind true f = bif (xOf kind == 1) then (bif (Int.tmod kind 2 == 1) then scrutinylaw14_ModelNames_K2 a b kind true f (textP (S2 b)) else scrutinylaw14_ModelNames_K2 a b kind true f (textP (S1 b a))) else scrutinylaw14_ModelNames_K2 a b kind true f (textP (S0 b)) := fun f => by
     unfold scrutinylaw14_ModelNames_K1
     rw [Sy.chk_t (catB_le (by simp; omega)), Sy.chk_t (catB_le (by simp; omega)), Sy.chk_t (catB_le (by simp; omega)), Sy.chk_t (catB_le (by simp; omega)), Sy.chk_t (catB_le (by simp; omega)), Sy.chk_t (catB_le (by simp; omega)), Sy.chk_t (catB_le (by simp; omega)), Sy.chk_t (catB_le (by simp; omega))]
     have e0 : textP (S0 b) = ([118, 97, 114, 32] ++ b) ++ [32, 48, 32, 49, 32, 49, 59] := by simp [S0, textP, wv, n0, n1, sg]
     have e1 : textP (S1 b a) = ((([112, 114, 111, 99, 32] ++ b) ++ [32, 123, 32, 116, 114, 117, 101, 32, 58, 32]) ++ a) ++ [32, 61, 32, 48, 59, 32, 125] := by simp [S1, textP, wp, n0, sg]
     have e2 : textP (S2 b) = ([112, 114, 111, 99, 32] ++ b) ++ [32, 123, 125] := by simp [S2, textP, wp, sg]
     rw [e0, e1, e2]
     rfl
    have e0 : textP (F0 a) = ([118, 97, 114, 32] ++ a) ++ [32, 48, 32, 49, 32, 48, 59, 32] := by simp [F0, textP, wv, n0, n1, sg]
    have e1 : textP (F1 a) = ((([118, 97, 114, 32] ++ a) ++ [48, 32, 48, 32, 49, 32, 48, 59, 32, 112, 114, 111, 99, 32]) ++ a) ++ [32, 123, 125, 32] := by simp [F1, textP, wv, wp, n0, n1, sg]
    have f0 := F0_len a
    have f1 := F1_len a
    have s0 := S0_len b
    have s1 := S1_len b a
    have s2 := S2_len b
    rcases yOf_two hk.1 with hy | hy
    ·rw [hy, show ((0 : Int) == 1) = false from rfl, cond_false, ← e0, hK1, hy, show ((0 : Int) == 1) = false from rfl, cond_false]
     have hgd : ∀ g, given ([a], [(0, 1)], [0], [], []) b = g → g = (keysT.contains b || (a == b) || (((0 : Int) == 1) && (b == a ++ [48]))) := fun g h => by
      rw [← h, given_M0, show ((0 : Int) == 1) = false from rfl, Bool.false_and, Bool.or_false]
     rcases xOf_two hk with hx | hx
     ·rw [hx, show ((0 : Int) == 1) = false from rfl, cond_false]
      obtain ⟨k, hs, hkl⟩ := F0_sys hka (S0 b)
      have hp : ∀ r, sItems ((placeP k (S0 b)).length + 6) ([a], [(0, 1)], [0], [], []) (placeP k (S0 b)) = r → model_Parse (textP (F0 a) ++ textP (S0 b)) = some (outS r) := fun r h => Parse_P (F0_ok hwa (S0_ok hwb)) (by omega) (by omega) (hs.trans h)
      cases hg : given ([a], [(0, 1)], [0], [], []) b
      ·exact K2_m hy hx la.2 (by omega) (by omega) (hgd _ hg) _ (hp _ (S0_yes (j := 4) (by simp) hg)) (fun h => by cases h) (fun _ => ⟨rfl, [a], b, rfl, by simp, by simp⟩)
      ·exact K2_m hy hx la.2 (by omega) (by omega) (hgd _ hg) _ (hp _ (S0_no (j := 5) hg)) (fun _ => by rw [hkl]; rfl) (fun h => by cases h)
     ·rw [hx, show ((1 : Int) == 1) = true from rfl, cond_true]
      obtain ⟨k, hs, hkl⟩ := F0_sys hka (S1 b a)
      have hp : ∀ r, sItems ((placeP k (S1 b a)).length + 6) ([a], [(0, 1)], [0], [], []) (placeP k (S1 b a)) = r → model_Parse (textP (F0 a) ++ textP (S1 b a)) = some (outS r) := fun r h => Parse_P (F0_ok hwa (S1_ok hwb hwa)) (by omega) (by omega) (hs.trans h)
      cases hg : given ([a], [(0, 1)], [0], [], []) b
      ·have hab : (a == b) = false := by
        rw [given_M0, Bool.or_eq_false_iff] at hg
        exact hg.2
       have hia : 0 ≤ idxI [a] a := by
        unfold idxI at_
        simp
       obtain ⟨C, hC⟩ := S1_yes (m := ([a], [(0, 1)], [0], [], [])) (k := k) (j := 4) (a := a) (by simp) hg (by simp) hia
       exact K2_m hy hx la.2 (by omega) (by omega) (hgd _ hg) _ (hp _ hC) (fun h => by cases h) (fun _ => ⟨rfl, [], a, rfl, by simp, by rw [hab]; rfl⟩)
      ·exact K2_m hy hx la.2 (by omega) (by omega) (hgd _ hg) _ (hp _ (S1_no (j := 5) hg)) (fun _ => by rw [hkl]; rfl) (fun h => by cases h)
    ·rw [hy, show ((1 : Int) == 1) = true from rfl, cond_true, Sy.chk_t (catB_le (by simp; omega)), Sy.chk_t (catB_le (by simp; omega)), Sy.chk_t (catB_le (by simp; omega)), Sy.chk_t (catB_le (by simp; omega)), ← e1, hK1, hy, show ((1 : Int) == 1) = true from rfl, cond_true]
     have hgd : ∀ g, given ([a ++ [48]], [(0, 1)], [0], [a], []) b = g → g = (keysT.contains b || (a == b) || (((1 : Int) == 1) && (b == a ++ [48]))) := fun g h => by
      rw [← h, given_M1, show ((1 : Int) == 1) = true from rfl, Bool.true_and]
     rcases xOf_two hk with hx | hx
     ·rw [hx, show ((0 : Int) == 1) = false from rfl, cond_false]
      obtain ⟨k, hs, hkl⟩ := F1_sys hka key0 (S0 b)
      have hp : ∀ r, sItems ((placeP k (S0 b)).length + 9) ([a ++ [48]], [(0, 1)], [0], [a], []) (placeP k (S0 b)) = r → model_Parse (textP (F1 a) ++ textP (S0 b)) = some (outS r) := fun r h => Parse_P (F1_ok hwa (S0_ok hwb)) (by omega) (by omega) (hs.trans h)
      cases hg : given ([a ++ [48]], [(0, 1)], [0], [a], []) b
      ·exact K2_m hy hx la.2 (by omega) (by omega) (hgd _ hg) _ (hp _ (S0_yes (j := 7) (by simp) hg)) (fun h => by cases h) (fun _ => ⟨rfl, [a ++ [48]], b, rfl, by simp, by simp⟩)
      ·exact K2_m hy hx la.2 (by omega) (by omega) (hgd _ hg) _ (hp _ (S0_no (j := 8) hg)) (fun _ => by rw [hkl]; rfl) (fun h => by cases h)
     ·rw [hx, show ((1 : Int) == 1) = true from rfl, cond_true]
      obtain ⟨k, hs, hkl⟩ := F1_sys hka key0 (S2 b)
      have hp : ∀ r, sItems ((placeP k (S2 b)).length + 9) ([a ++ [48]], [(0, 1)], [0], [a], []) (placeP k (S2 b)) = r → model_Parse (textP (F1 a) ++ textP (S2 b)) = some (outS r) := fun r h => Parse_P (F1_ok hwa (S2_ok hwb)) (by omega) (by omega) (hs.trans h)
      cases hg : given ([a ++ [48]], [(0, 1)], [0], [a], []) b
      ·have hab : (a ++ [48] == b) = false := by
        rw [given_M1, Bool.or_eq_false_iff] at hg
        rw [beq_eq_false_iff_ne]
        intro e
        rw [← e, beq_self_eq_true] at hg
        cases hg.2
       exact K2_m hy hx la.2 (by omega) (by omega) (hgd _ hg) _ (hp _ (S2_yes (j := 7) (by simp) hg)) (fun h => by cases h) (fun _ => ⟨rfl, [], a ++ [48], rfl, by simp, by rw [hab]; rfl⟩)
      ·exact K2_m hy hx la.2 (by omega) (by omega) (hgd _ hg) _ (hp _ (S2_no (j := 8) hg)) (fun _ => by rw [hkl]; rfl) (fun h => by cases h)
   ·rfl
end Mo
end Go.Proofs.YtdhgpnejphlfpaaDoor
namespace Go.Proofs.YtdhgpnejphlfpaaDoor
open Go.Lib Go.ChangeAt Go.ChangeShapes Go.WideShapes Go.RowKit
theorem laid_at {P : Program} {w : World} : ∀ (l : List (String × DataW Unit)) (ps : List MemPlace), DataW.LaidVars P w l ps → ∀ (i : Nat) (n : String) (d : DataW Unit), l[i]? = some (n, d) →
  ∃ g t cs fuel p, P.globalNamed n = some g ∧ (P.globals[g]?).map (·.type) = some t ∧ w.var? P n = some cs ∧ DataW.trod (fun _ => ()) P w 0 (fun _ => true) false fuel t cs.toList = some (d, p)
 | [], _, _, i, n, d, h => by simp at h
 | (n0, d0) :: l, ps, h, i, n, d, hi => by
  obtain ⟨g, t, cs, fuel, p, q, h1, h2, h3, h4, h5, _⟩ := h
  cases i with
  | zero =>
   simp only [List.getElem?_cons_zero, Option.some.injEq, Prod.mk.injEq] at hi
   obtain ⟨rfl, rfl⟩ := hi
   exact ⟨g, t, cs, fuel, p, h1, h2, h3, h4⟩
  | succ i => exact laid_at l q h5 i n d (by simpa using hi)
theorem cells_of_strs {H : Type} {enc : TypeId × Value → H} {P : Program} {w : World} {base : Nat} {sp : Nat → Bool} {held : Bool} {fuel : Nat} {t e : TypeId} {n : Nat} {cs : List Value} {zs : List Str} {p : List MemPlace}
  (ht : P.underlying t = some (.array n e)) (he : P.underlying e = some .string) (hce : P.cellsOf e = 1) (hct : P.cellsOf t = n)
  (h : DataW.trod enc P w base sp held fuel t cs = some (.agg (zs.map fun z => .lit (.string z)), p)) : cs = zs.map S := by
 cases fuel with
 | zero => simp [DataW.trod] at h
 | succ fuel =>
  simp only [DataW.trod, ht, hce, hct, Nat.mul_one] at h
  split at h
  ·rename_i hl
   obtain ⟨xs, hm, hx⟩ := Option.map_eq_some_iff.1 h
   have hxs : xs.map (·.1) = zs.map fun z => (DataW.lit (.string z) : DataW H) := by
    have := congrArg Prod.fst hx
    simpa using this
   have hxl : xs.length = n := by simpa using mapM_length hm
   have hzl : zs.length = n := by
    have := congrArg List.length hxs
    simp at this
    omega
   apply List.ext_getElem?
   intro i
   by_cases hi : i < n
   ·obtain ⟨b, hb, hf⟩ := mapM_at hm i i (by simp [hi])
    obtain ⟨z, hc, rfl, _⟩ := DataW.trod_string he hf
    have h1 : cs[i]? = some (.string z) := by
     have := congrArg (·[0]?) hc
     simpa [List.getElem?_take, List.getElem?_drop] using this
    have h2 : (xs.map (·.1))[i]? = some (DataW.lit (.string z.data.toList) : DataW H) := by simp [hb]
    rw [hxs] at h2
    simp only [List.getElem?_map, Option.map_eq_some_iff, DataW.lit.injEq, Lit.string.injEq] at h2
    obtain ⟨z', hz', hz2⟩ := h2
    subst hz2
    simp [h1, hz', S]
   ·rw [List.getElem?_eq_none (by omega), List.getElem?_eq_none (by simp; omega)]
  ·cases h
theorem laidMet_of {P : Program} {laid : List (String × DataW Unit)} {w : World} (hf : (laid.filter fun x => x.2.handleName?.isSome) = []) (h : laidMetH P laid w) : laidMet P laid w := by
 unfold laidMetH at h
 rw [hf] at h
 exact h
theorem gl_strs {P : Program} {laid : List (String × DataW Unit)} {w : World} {Γ : Ctx} (h : laidMet P laid w) (i : Nat) {n : String} {zs : List Str} {g : Nat} {t e : TypeId} {k : Nat}
  (hi : laid[i]? = some (n, .agg (zs.map fun z => .lit (.string z)))) (hg : P.globalNamed n = some g) (hty : (P.globals[g]?).map (·.type) = some t)
  (ht : P.underlying t = some (.array k e)) (he : P.underlying e = some .string) (hce : P.cellsOf e = 1) (hct : P.cellsOf t = k) (hM : ¬ Γ.M g) : (gl g (zs.map S)).P Γ.M w := by
 obtain ⟨ps, hl, _⟩ := h
 obtain ⟨g', t', cs, fuel, p, hg', ht', hv, hd⟩ := laid_at _ _ hl i n _ hi
 obtain rfl := Option.some.inj (hg.symm.trans hg')
 obtain rfl := Option.some.inj (hty.symm.trans ht')
 have e1 := cells_of_strs ht he hce hct hd
 refine ⟨hM, ?_⟩
 unfold World.var? at hv
 rw [hg] at hv
 simp only [Option.bind_some] at hv
 split at hv
 ·rename_i c ty fr hb
  obtain rfl := Option.some.inj hv
  exact ⟨ty, fr, by rw [hb, ← e1]⟩
 ·cases hv
theorem gl_ints {P : Program} {laid : List (String × DataW Unit)} {w : World} {Γ : Ctx} (h : laidMet P laid w) (i : Nat) {n : String} {kd : IntKind} {zs : List Int} {g : Nat} {t e : TypeId} {k : Nat}
  (hi : laid[i]? = some (n, tabData kd zs)) (hg : P.globalNamed n = some g) (hty : (P.globals[g]?).map (·.type) = some t)
  (ht : P.underlying t = some (.array k e)) (he : P.underlying e = some (.int kd)) (hce : P.cellsOf e = 1) (hct : P.cellsOf t = k) (hM : ¬ Γ.M g) : (gl g (zs.map (Value.int kd))).P Γ.M w := by
 obtain ⟨ps, hl, _⟩ := h
 obtain ⟨g', t', cs, fuel, p, hg', ht', hv, hd⟩ := laid_at _ _ hl i n _ hi
 obtain rfl := Option.some.inj (hg.symm.trans hg')
 obtain rfl := Option.some.inj (hty.symm.trans ht')
 have e1 := cells_of_tab ht he hce hct hd
 refine ⟨hM, ?_⟩
 unfold World.var? at hv
 rw [hg] at hv
 simp only [Option.bind_some] at hv
 split at hv
 ·rename_i c ty fr hb
  obtain rfl := Option.some.inj hv
  exact ⟨ty, fr, by rw [hb, ← e1]⟩
 ·cases hv
/-! the row at the start: nothing is owned -/
def NoM (Γ : Ctx) : Prop := ∀ b, ¬ Γ.M b
theorem noM_nil : NoM [] := fun b h => by obtain ⟨it, h, _⟩ := h; cases h
theorem noM_cons {it : Item} {Γ : Ctx} (hp : it.own = []) (h : NoM Γ) : NoM (it :: Γ) := fun b hb => by
 rcases Ctx.M_cons.1 hb with h1 | h1
 ·rw [hp] at h1; cases h1
 ·exact h b h1
theorem sat_start (w : World) : Sat [kept w (fun _ => False)] w := Sat.nil.add rfl ⟨SameEnv.refl w, Nat.le_refl _, fun b _ _ => ⟨noM_nil b, rfl⟩⟩
theorem noM_start (w : World) : NoM [kept w (fun _ => False)] := noM_cons rfl noM_nil
theorem below_end {w w' : World} {Γ : Ctx} {i : Nat} (h : Sat Γ w') (hi : Γ[i]? = some (kept w (fun _ => False))) : Below w.heap.size w w' := by
 obtain ⟨h1, h2, h3⟩ := h.kept hi
 exact ⟨h1.os, h1.tape, h1.output, h2, fun k hk => (h3 k hk (fun h => h)).2⟩
end Go.Proofs.YtdhgpnejphlfpaaDoor
