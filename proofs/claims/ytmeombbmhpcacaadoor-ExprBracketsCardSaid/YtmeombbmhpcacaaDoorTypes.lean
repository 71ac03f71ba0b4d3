/- Printed by a program: facts on types. -/
import Derived.Test.YtmeombbmhpcacaaDoorModel
import Derived.Test.YtmeombbmhpcacaaDoorProg
import Derived.Test.YtmeombbmhpcacaaDoorKSh
namespace Go.Proofs.YtmeombbmhpcacaaDoor
open Go.Proofs
theorem ti3 : TI Tryd.prog 3 1 8 (.int .i64 0) := by unfold TI; kernel_rfl
theorem ti4 : TI Tryd.prog 4 1 1 (.bool false) := by unfold TI; kernel_rfl
theorem ti9 : TI Tryd.prog 9 1 16 (S []) := by unfold TI; kernel_rfl
theorem ti24 : TI Tryd.prog 24 4 48 (.agg #[(.int .i64 0), (.int .i64 0), (.int .i64 0), (.slice none 0 0)]) := by unfold TI; kernel_rfl
theorem ti25 : TI Tryd.prog 25 1 24 (.slice none 0 0) := by unfold TI; kernel_rfl
theorem ti34 : TI Tryd.prog 34 1 8 (.int .i64 0) := by unfold TI; kernel_rfl
theorem ti60 : TI Tryd.prog 60 4 40 (.agg #[(.int .i64 0), (S []), (.int .i64 0), (.int .i64 0)]) := by unfold TI; kernel_rfl
theorem ti66 : TI Tryd.prog 66 2 16 (.agg #[(.int .i64 0), (.int .i64 0)]) := by unfold TI; kernel_rfl
theorem fo24_0 : FieldOf Tryd.prog 24 0 0 := FieldOf.mk' (f := 3) (n := 1) Tryd.underlying24 rfl rfl rfl (by kernel_rfl) (by decide)
theorem fo24_1 : FieldOf Tryd.prog 24 1 1 := FieldOf.mk' (f := 3) (n := 1) Tryd.underlying24 rfl rfl rfl (by kernel_rfl) (by decide)
theorem fo24_2 : FieldOf Tryd.prog 24 2 2 := FieldOf.mk' (f := 3) (n := 1) Tryd.underlying24 rfl rfl rfl (by kernel_rfl) (by decide)
theorem fo24_3 : FieldOf Tryd.prog 24 3 3 := FieldOf.mk' (f := 22) (n := 1) Tryd.underlying24 rfl rfl rfl (by kernel_rfl) (by decide)
theorem fo27_0 : FieldOf Tryd.prog 27 0 0 := FieldOf.mk' (f := 24) (n := 4) Tryd.underlying27 rfl rfl rfl (by kernel_rfl) (by decide)
theorem fo27_1 : FieldOf Tryd.prog 27 1 4 := FieldOf.mk' (f := 24) (n := 4) Tryd.underlying27 rfl rfl rfl (by kernel_rfl) (by decide)
theorem fo27_2 : FieldOf Tryd.prog 27 2 8 := FieldOf.mk' (f := 25) (n := 1) Tryd.underlying27 rfl rfl rfl (by kernel_rfl) (by decide)
theorem fo27_3 : FieldOf Tryd.prog 27 3 9 := FieldOf.mk' (f := 9) (n := 1) Tryd.underlying27 rfl rfl rfl (by kernel_rfl) (by decide)
theorem fo50_0 : FieldOf Tryd.prog 50 0 0 := FieldOf.mk' (f := 24) (n := 4) Tryd.underlying50 rfl rfl rfl (by kernel_rfl) (by decide)
theorem fo50_1 : FieldOf Tryd.prog 50 1 4 := FieldOf.mk' (f := 24) (n := 4) Tryd.underlying50 rfl rfl rfl (by kernel_rfl) (by decide)
theorem fo50_2 : FieldOf Tryd.prog 50 2 8 := FieldOf.mk' (f := 24) (n := 4) Tryd.underlying50 rfl rfl rfl (by kernel_rfl) (by decide)
theorem fo50_3 : FieldOf Tryd.prog 50 3 12 := FieldOf.mk' (f := 24) (n := 4) Tryd.underlying50 rfl rfl rfl (by kernel_rfl) (by decide)
theorem fo50_4 : FieldOf Tryd.prog 50 4 16 := FieldOf.mk' (f := 25) (n := 1) Tryd.underlying50 rfl rfl rfl (by kernel_rfl) (by decide)
theorem fo60_0 : FieldOf Tryd.prog 60 0 0 := FieldOf.mk' (f := 3) (n := 1) Tryd.underlying60 rfl rfl rfl (by kernel_rfl) (by decide)
theorem fo60_1 : FieldOf Tryd.prog 60 1 1 := FieldOf.mk' (f := 9) (n := 1) Tryd.underlying60 rfl rfl rfl (by kernel_rfl) (by decide)
theorem fo60_2 : FieldOf Tryd.prog 60 2 2 := FieldOf.mk' (f := 3) (n := 1) Tryd.underlying60 rfl rfl rfl (by kernel_rfl) (by decide)
theorem fo60_3 : FieldOf Tryd.prog 60 3 3 := FieldOf.mk' (f := 3) (n := 1) Tryd.underlying60 rfl rfl rfl (by kernel_rfl) (by decide)
theorem fo71_0 : FieldOf Tryd.prog 71 0 0 := FieldOf.mk' (f := 44) (n := 1) Tryd.underlying71 rfl rfl rfl (by kernel_rfl) (by decide)
theorem fo71_1 : FieldOf Tryd.prog 71 1 1 := FieldOf.mk' (f := 3) (n := 1) Tryd.underlying71 rfl rfl rfl (by kernel_rfl) (by decide)
theorem fo71_2 : FieldOf Tryd.prog 71 2 2 := FieldOf.mk' (f := 40) (n := 1) Tryd.underlying71 rfl rfl rfl (by kernel_rfl) (by decide)
theorem fo71_3 : FieldOf Tryd.prog 71 3 3 := FieldOf.mk' (f := 3) (n := 1) Tryd.underlying71 rfl rfl rfl (by kernel_rfl) (by decide)
theorem fo71_4 : FieldOf Tryd.prog 71 4 4 := FieldOf.mk' (f := 34) (n := 1) Tryd.underlying71 rfl rfl rfl (by kernel_rfl) (by decide)
theorem fo71_5 : FieldOf Tryd.prog 71 5 5 := FieldOf.mk' (f := 3) (n := 1) Tryd.underlying71 rfl rfl rfl (by kernel_rfl) (by decide)
theorem openT9 {M : Nat → Prop} {w : World} {vs : List Value} {x : Str} (h : (RS).rd M w vs x) : vs = [(S x)] := h
theorem openT60 {M : Nat → Prop} {w : World} {vs : List Value} {x : (Int × Str × Int × Int)} (h : ((RP (RI .i64) (RP RS (RP (RI .i64) (RI .i64))))).rd M w vs x) : vs = [(.int .i64 x.1), (S x.2.1), (.int .i64 x.2.2.1), (.int .i64 x.2.2.2)] := by
  obtain ⟨_, _, rfl, rfl, ⟨_, _, rfl, rfl, ⟨_, _, rfl, rfl, rfl⟩⟩⟩ := h
  rfl
theorem openT3 {M : Nat → Prop} {w : World} {vs : List Value} {x : Int} (h : ((RI .i64)).rd M w vs x) : vs = [(.int .i64 x)] := h
theorem openT24 {M : Nat → Prop} {w : World} {vs : List Value} {x : Ex} (h : (RExpr).rd M w vs x) : ∃ v1 : SLV, vs = [(.int .i64 x.op), (.int .i64 x.n), (.int .i64 x.at_), (sl v1)] ∧ SRd RExpr M w (sl v1) x.l := RExpr_open h
theorem cellsM24 {M : Nat → Prop} {w : World} {g : Bool} {v : Value} {xs : List Ex} {i : Int} {x : Ex} (h : g = true → SRd RExpr M w v xs) (hx : g = true → idx xs i = some x) :
    ∃ (v1 : SLV), (g = true → CellsAt w (elA v i 4) [(.int .i64 x.op), (.int .i64 x.n), (.int .i64 x.at_), (sl v1)]) ∧ (g = true → ¬ M (elA v i 4).block) ∧ (g = true → SRd RExpr M w (sl v1) x.l) := by
  cases hg : g
  · exact ⟨(none, 0, 0), (fun h => by cases h), (fun h => by cases h), (fun h => by cases h)⟩
  · obtain ⟨_, vs, hc, hr, hm⟩ := (h hg).atA (hx hg)
    obtain ⟨v1, rfl, h1⟩ := openT24 hr
    exact ⟨v1, fun _ => hc, fun _ => hm, fun _ => h1⟩
theorem cellsMO24 {M : Nat → Prop} {w : World} {g : Bool} {v : Value} {xs : List Ex} {R : List Nat} {i : Int} {x : Ex} (h : g = true → Own RExpr 24 M w v xs R) (hx : g = true → idx xs i = some x) :
    ∃ (v1 : SLV), (g = true → CellsAt w (elA v i 4) [(.int .i64 x.op), (.int .i64 x.n), (.int .i64 x.at_), (sl v1)]) ∧ (g = true → True) ∧ (g = true → SRd RExpr M w (sl v1) x.l) := by
  cases hg : g
  · exact ⟨(none, 0, 0), (fun h => by cases h), (fun h => by cases h), (fun h => by cases h)⟩
  · obtain ⟨_, vs, hc, hr⟩ := (h hg).atA (hx hg)
    obtain ⟨v1, rfl, h1⟩ := openT24 hr
    exact ⟨v1, fun _ => hc, fun _ => trivial, fun _ => h1⟩
theorem openT4 {M : Nat → Prop} {w : World} {vs : List Value} {x : Bool} (h : (RB).rd M w vs x) : vs = [(.bool x)] := h
end Go.Proofs.YtmeombbmhpcacaaDoor
