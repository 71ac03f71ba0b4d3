/- Printed by a program: facts on types. -/
import Derived.Test.YtjappdgehmjomaaModel
import Derived.Test.YtjappdgehmjomaaProg
import Derived.Test.YtjappdgehmjomaaKIn
namespace Go.Proofs.Ytjappdgehmjomaa
open Go.Proofs
theorem ti3 : TI Try.prog 3 1 8 (.int .i64 0) := by unfold TI; kernel_rfl
theorem ti4 : TI Try.prog 4 1 1 (.bool false) := by unfold TI; kernel_rfl
theorem ti5 : TI Try.prog 5 1 1 (.int .u8 0) := by unfold TI; kernel_rfl
theorem ti9 : TI Try.prog 9 1 16 (S []) := by unfold TI; kernel_rfl
theorem ti22 : TI Try.prog 22 1 24 (.slice none 0 0) := by unfold TI; kernel_rfl
theorem ti23 : TI Try.prog 23 1 24 (.slice none 0 0) := by unfold TI; kernel_rfl
theorem ti26 : TI Try.prog 26 1 24 (.slice none 0 0) := by unfold TI; kernel_rfl
theorem ti27 : TI Try.prog 27 1 24 (.slice none 0 0) := by unfold TI; kernel_rfl
theorem ti29 : TI Try.prog 29 5 72 (.agg #[(.int .i64 0), (.slice none 0 0), (.int .i64 0), (.int .i64 0), (.slice none 0 0)]) := by unfold TI; kernel_rfl
theorem ti34 : TI Try.prog 34 2 32 (.agg #[(.int .i64 0), (.slice none 0 0)]) := by unfold TI; kernel_rfl
theorem ti60 : TI Try.prog 60 2 32 (.agg #[(.slice none 0 0), (.int .i64 0)]) := by unfold TI; kernel_rfl
theorem ti66 : TI Try.prog 66 1 8 .nilFunc := by unfold TI; kernel_rfl
theorem ti69 : TI Try.prog 69 2 16 (.agg #[(.int .u8 0), (.int .i64 0)]) := by unfold TI; kernel_rfl
theorem ti78 : TI Try.prog 78 1 24 (.slice none 0 0) := by unfold TI; kernel_rfl
abbrev mk54 : Int → Value := Value.int .i64
abbrev mv54 : Bool → Value := Value.bool
theorem mK54 : MapK Try.prog 3 mk54 := MapK.int Try.underlying3
theorem me80_Len : Meth Try.prog 80 "Len" 67 false := by unfold Meth; kernel_rfl
theorem me80_Less : Meth Try.prog 80 "Less" 68 false := by unfold Meth; kernel_rfl
theorem me80_Pop : Meth Try.prog 80 "Pop" 70 true := by unfold Meth; kernel_rfl
theorem me80_Push : Meth Try.prog 80 "Push" 71 true := by unfold Meth; kernel_rfl
theorem me80_Swap : Meth Try.prog 80 "Swap" 69 false := by unfold Meth; kernel_rfl
theorem fo29_0 : FieldOf Try.prog 29 0 0 := FieldOf.mk' (f := 3) (n := 1) Try.underlying29 rfl rfl rfl (by kernel_rfl) (by decide)
theorem fo29_1 : FieldOf Try.prog 29 1 1 := FieldOf.mk' (f := 26) (n := 1) Try.underlying29 rfl rfl rfl (by kernel_rfl) (by decide)
theorem fo29_2 : FieldOf Try.prog 29 2 2 := FieldOf.mk' (f := 3) (n := 1) Try.underlying29 rfl rfl rfl (by kernel_rfl) (by decide)
theorem fo29_3 : FieldOf Try.prog 29 3 3 := FieldOf.mk' (f := 3) (n := 1) Try.underlying29 rfl rfl rfl (by kernel_rfl) (by decide)
theorem fo29_4 : FieldOf Try.prog 29 4 4 := FieldOf.mk' (f := 27) (n := 1) Try.underlying29 rfl rfl rfl (by kernel_rfl) (by decide)
theorem fo34_0 : FieldOf Try.prog 34 0 0 := FieldOf.mk' (f := 3) (n := 1) Try.underlying34 rfl rfl rfl (by kernel_rfl) (by decide)
theorem fo34_1 : FieldOf Try.prog 34 1 1 := FieldOf.mk' (f := 22) (n := 1) Try.underlying34 rfl rfl rfl (by kernel_rfl) (by decide)
theorem fo56_0 : FieldOf Try.prog 56 0 0 := FieldOf.mk' (f := 29) (n := 5) Try.underlying56 rfl rfl rfl (by kernel_rfl) (by decide)
theorem fo56_1 : FieldOf Try.prog 56 1 5 := FieldOf.mk' (f := 54) (n := 1) Try.underlying56 rfl rfl rfl (by kernel_rfl) (by decide)
theorem fo60_0 : FieldOf Try.prog 60 0 0 := FieldOf.mk' (f := 58) (n := 1) Try.underlying60 rfl rfl rfl (by kernel_rfl) (by decide)
theorem fo60_1 : FieldOf Try.prog 60 1 1 := FieldOf.mk' (f := 3) (n := 1) Try.underlying60 rfl rfl rfl (by kernel_rfl) (by decide)
theorem fo69_0 : FieldOf Try.prog 69 0 0 := FieldOf.mk' (f := 5) (n := 1) Try.underlying69 rfl rfl rfl (by kernel_rfl) (by decide)
theorem fo69_1 : FieldOf Try.prog 69 1 1 := FieldOf.mk' (f := 3) (n := 1) Try.underlying69 rfl rfl rfl (by kernel_rfl) (by decide)
theorem openT5 {M : Nat → Prop} {w : World} {vs : List Value} {x : Int} (h : ((RI .u8)).rd M w vs x) : vs = [(.int .u8 x)] := h
theorem openT60 {M : Nat → Prop} {w : World} {vs : List Value} {x : ((List (Int × Int)) × Int)} (h : ((RP (RSl (RP (RI .u8) (RI .i64))) (RI .i64))).rd M w vs x) : ∃ v1 : SLV, vs = [(sl v1), (.int .i64 x.2)] ∧ SRd (RP (RI .u8) (RI .i64)) M w (sl v1) x.1 := by
  obtain ⟨_, _, rfl, ⟨v1, rfl, h1⟩, rfl⟩ := h
  exact ⟨v1, rfl, h1⟩
theorem cellsM60 {M : Nat → Prop} {w : World} {g : Bool} {v : Value} {xs : List ((List (Int × Int)) × Int)} {i : Int} {x : ((List (Int × Int)) × Int)} (h : g = true → SRd (RP (RSl (RP (RI .u8) (RI .i64))) (RI .i64)) M w v xs) (hx : g = true → idx xs i = some x) :
    ∃ (v1 : SLV), (g = true → CellsAt w (elA v i 2) [(sl v1), (.int .i64 x.2)]) ∧ (g = true → ¬ M (elA v i 2).block) ∧ (g = true → SRd (RP (RI .u8) (RI .i64)) M w (sl v1) x.1) := by
  cases hg : g
  · exact ⟨(none, 0, 0), (fun h => by cases h), (fun h => by cases h), (fun h => by cases h)⟩
  · obtain ⟨_, vs, hc, hr, hm⟩ := (h hg).atA (hx hg)
    obtain ⟨v1, rfl, h1⟩ := openT60 hr
    exact ⟨v1, fun _ => hc, fun _ => hm, fun _ => h1⟩
theorem cellsMO60 {M : Nat → Prop} {w : World} {g : Bool} {v : Value} {xs : List ((List (Int × Int)) × Int)} {R : List Nat} {i : Int} {x : ((List (Int × Int)) × Int)} (h : g = true → Own (RP (RSl (RP (RI .u8) (RI .i64))) (RI .i64)) 60 M w v xs R) (hx : g = true → idx xs i = some x) :
    ∃ (v1 : SLV), (g = true → CellsAt w (elA v i 2) [(sl v1), (.int .i64 x.2)]) ∧ (g = true → True) ∧ (g = true → SRd (RP (RI .u8) (RI .i64)) M w (sl v1) x.1) := by
  cases hg : g
  · exact ⟨(none, 0, 0), (fun h => by cases h), (fun h => by cases h), (fun h => by cases h)⟩
  · obtain ⟨_, vs, hc, hr⟩ := (h hg).atA (hx hg)
    obtain ⟨v1, rfl, h1⟩ := openT60 hr
    exact ⟨v1, fun _ => hc, fun _ => trivial, fun _ => h1⟩
theorem openT69 {M : Nat → Prop} {w : World} {vs : List Value} {x : (Int × Int)} (h : ((RP (RI .u8) (RI .i64))).rd M w vs x) : vs = [(.int .u8 x.1), (.int .i64 x.2)] := by
  obtain ⟨_, _, rfl, rfl, rfl⟩ := h
  rfl
theorem openT3 {M : Nat → Prop} {w : World} {vs : List Value} {x : Int} (h : ((RI .i64)).rd M w vs x) : vs = [(.int .i64 x)] := h
theorem openT23 {M : Nat → Prop} {w : World} {vs : List Value} {x : (List Int)} (h : ((RSl (RI .u8))).rd M w vs x) : ∃ v1 : SLV, vs = [(sl v1)] ∧ SRd (RI .u8) M w (sl v1) x := by
  obtain ⟨v1, rfl, h1⟩ := h
  exact ⟨v1, rfl, h1⟩
theorem cellsM23 {M : Nat → Prop} {w : World} {g : Bool} {v : Value} {xs : List (List Int)} {i : Int} {x : (List Int)} (h : g = true → SRd (RSl (RI .u8)) M w v xs) (hx : g = true → idx xs i = some x) :
    ∃ (v1 : SLV), (g = true → CellsAt w (elA v i 1) [(sl v1)]) ∧ (g = true → ¬ M (elA v i 1).block) ∧ (g = true → SRd (RI .u8) M w (sl v1) x) := by
  cases hg : g
  · exact ⟨(none, 0, 0), (fun h => by cases h), (fun h => by cases h), (fun h => by cases h)⟩
  · obtain ⟨_, vs, hc, hr, hm⟩ := (h hg).atA (hx hg)
    obtain ⟨v1, rfl, h1⟩ := openT23 hr
    exact ⟨v1, fun _ => hc, fun _ => hm, fun _ => h1⟩
theorem cellsMO23 {M : Nat → Prop} {w : World} {g : Bool} {v : Value} {xs : List (List Int)} {R : List Nat} {i : Int} {x : (List Int)} (h : g = true → Own (RSl (RI .u8)) 23 M w v xs R) (hx : g = true → idx xs i = some x) :
    ∃ (v1 : SLV), (g = true → CellsAt w (elA v i 1) [(sl v1)]) ∧ (g = true → True) ∧ (g = true → SRd (RI .u8) M w (sl v1) x) := by
  cases hg : g
  · exact ⟨(none, 0, 0), (fun h => by cases h), (fun h => by cases h), (fun h => by cases h)⟩
  · obtain ⟨_, vs, hc, hr⟩ := (h hg).atA (hx hg)
    obtain ⟨v1, rfl, h1⟩ := openT23 hr
    exact ⟨v1, fun _ => hc, fun _ => trivial, fun _ => h1⟩
theorem openT9 {M : Nat → Prop} {w : World} {vs : List Value} {x : Str} (h : (RS).rd M w vs x) : vs = [(S x)] := h
theorem run_eqT69 {x y : Operand} (w : World) (x0 : Int) (x1 : Int) (y0 : Int) (y1 : Int) : (do eqGuard .eql 69 x y (.agg #[(.int .u8 x0), (.int .i64 x1)]) (.agg #[(.int .u8 y0), (.int .i64 y1)]); binOp .eql 69 (.agg #[(.int .u8 x0), (.int .i64 x1)]) (.agg #[(.int .u8 y0), (.int .i64 y1)]) : Sem Value).run Try.prog w = .ok (.bool ((eqT69 x0 x1 y0 y1))) w := by
  have key : ∀ d, (Op.eqFields (d + 1) #[(.int .u8 x0), (.int .i64 x1)] #[(.int .u8 y0), (.int .i64 y1)] (Try.prog.fieldsOf 69).toList).run Try.prog w = .ok (x0 == y0 && (x1 == y1 && true)) w := fun d => eqF_cons rfl (part1 Try.underlying5 rfl rfl) (part1 Try.underlying5 rfl rfl) (run_equalIn_int w d 5 _ _ _ _ Try.underlying5) <| eqF_cons rfl (part1 Try.underlying3 rfl rfl) (part1 Try.underlying3 rfl rfl) (run_equalIn_int w d 3 _ _ _ _ Try.underlying3) <| eqF_nil
  rw [Sem.run_bind, run_eqGuard_agg w _ _ _ _ _ _ Try.eqGuardType69, Result.andThen_ok, run_eql_struct, run_equalIn_struct w 9999 69 _ _ (by rfl) Try.stoodInHeld69, key 9998]
  simp [eqT69, Bool.and_assoc]
theorem run_neT69 {x y : Operand} (w : World) (x0 : Int) (x1 : Int) (y0 : Int) (y1 : Int) : (do eqGuard .neq 69 x y (.agg #[(.int .u8 x0), (.int .i64 x1)]) (.agg #[(.int .u8 y0), (.int .i64 y1)]); binOp .neq 69 (.agg #[(.int .u8 x0), (.int .i64 x1)]) (.agg #[(.int .u8 y0), (.int .i64 y1)]) : Sem Value).run Try.prog w = .ok (.bool (!(eqT69 x0 x1 y0 y1))) w := by
  have key : ∀ d, (Op.eqFields (d + 1) #[(.int .u8 x0), (.int .i64 x1)] #[(.int .u8 y0), (.int .i64 y1)] (Try.prog.fieldsOf 69).toList).run Try.prog w = .ok (x0 == y0 && (x1 == y1 && true)) w := fun d => eqF_cons rfl (part1 Try.underlying5 rfl rfl) (part1 Try.underlying5 rfl rfl) (run_equalIn_int w d 5 _ _ _ _ Try.underlying5) <| eqF_cons rfl (part1 Try.underlying3 rfl rfl) (part1 Try.underlying3 rfl rfl) (run_equalIn_int w d 3 _ _ _ _ Try.underlying3) <| eqF_nil
  rw [Sem.run_bind, run_eqGuard_agg w _ _ _ _ _ _ Try.eqGuardType69, Result.andThen_ok, run_neq_struct, run_equalIn_struct w 9999 69 _ _ (by rfl) Try.stoodInHeld69, key 9998]
  simp [eqT69, Bool.and_assoc]
end Go.Proofs.Ytjappdgehmjomaa
