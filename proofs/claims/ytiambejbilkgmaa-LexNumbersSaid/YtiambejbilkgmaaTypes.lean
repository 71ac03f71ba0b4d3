/- Printed by a program: facts on types. -/
import Derived.Test.YtiambejbilkgmaaModel
import Derived.Test.YtiambejbilkgmaaProg
namespace Go.Proofs.Ytiambejbilkgmaa
open Go.Proofs
theorem ti3 : TI Try.prog 3 1 8 (.int .i64 0) := by unfold TI; kernel_rfl
theorem ti5 : TI Try.prog 5 1 1 (.int .u8 0) := by unfold TI; kernel_rfl
theorem ti9 : TI Try.prog 9 1 16 (S []) := by unfold TI; kernel_rfl
theorem ti34 : TI Try.prog 34 4 40 (.agg #[(.int .i64 0), (S []), (.int .i64 0), (.int .i64 0)]) := by unfold TI; kernel_rfl
theorem fo34_0 : FieldOf Try.prog 34 0 0 := FieldOf.mk' (f := 3) (n := 1) Try.underlying34 rfl rfl rfl (by kernel_rfl) (by decide)
theorem fo34_1 : FieldOf Try.prog 34 1 1 := FieldOf.mk' (f := 9) (n := 1) Try.underlying34 rfl rfl rfl (by kernel_rfl) (by decide)
theorem fo34_2 : FieldOf Try.prog 34 2 2 := FieldOf.mk' (f := 3) (n := 1) Try.underlying34 rfl rfl rfl (by kernel_rfl) (by decide)
theorem fo34_3 : FieldOf Try.prog 34 3 3 := FieldOf.mk' (f := 3) (n := 1) Try.underlying34 rfl rfl rfl (by kernel_rfl) (by decide)
theorem openT9 {M : Nat → Prop} {w : World} {vs : List Value} {x : Str} (h : (RS).rd M w vs x) : vs = [(S x)] := by
  obtain rfl := h
  rfl
theorem openT34 {M : Nat → Prop} {w : World} {vs : List Value} {x : (Int × Str × Int × Int)} (h : ((RP (RI .i64) (RP RS (RP (RI .i64) (RI .i64))))).rd M w vs x) : vs = [(.int .i64 x.1), (S x.2.1), (.int .i64 x.2.2.1), (.int .i64 x.2.2.2)] := by
  obtain ⟨_, _, rfl, rfl, ⟨_, _, rfl, rfl, ⟨_, _, rfl, rfl, rfl⟩⟩⟩ := h
  rfl
theorem run_eqT34 {x y : Operand} (w : World) (x0 : Int) (x1 : Str) (x2 : Int) (x3 : Int) (y0 : Int) (y1 : Str) (y2 : Int) (y3 : Int) : (do eqGuard .eql 34 x y (.agg #[(.int .i64 x0), (S x1), (.int .i64 x2), (.int .i64 x3)]) (.agg #[(.int .i64 y0), (S y1), (.int .i64 y2), (.int .i64 y3)]); binOp .eql 34 (.agg #[(.int .i64 x0), (S x1), (.int .i64 x2), (.int .i64 x3)]) (.agg #[(.int .i64 y0), (S y1), (.int .i64 y2), (.int .i64 y3)]) : Sem Value).run Try.prog w = .ok (.bool ((eqT34 x0 x1 x2 x3 y0 y1 y2 y3))) w := by
  have key : ∀ d, (Op.eqFields (d + 1) #[(.int .i64 x0), (S x1), (.int .i64 x2), (.int .i64 x3)] #[(.int .i64 y0), (S y1), (.int .i64 y2), (.int .i64 y3)] (Try.prog.fieldsOf 34).toList).run Try.prog w = .ok (x0 == y0 && (x1 == y1 && (x2 == y2 && (x3 == y3 && true)))) w := fun d => eqF_cons rfl (part1 Try.underlying3 rfl rfl) (part1 Try.underlying3 rfl rfl) (run_equalIn_int w d 3 _ _ _ _ Try.underlying3) <| eqF_cons rfl (part1 Try.underlying9 rfl rfl) (part1 Try.underlying9 rfl rfl) (run_equalIn_S _ w d 9 _ _ Try.underlying9) <| eqF_cons rfl (part1 Try.underlying3 rfl rfl) (part1 Try.underlying3 rfl rfl) (run_equalIn_int w d 3 _ _ _ _ Try.underlying3) <| eqF_cons rfl (part1 Try.underlying3 rfl rfl) (part1 Try.underlying3 rfl rfl) (run_equalIn_int w d 3 _ _ _ _ Try.underlying3) <| eqF_nil
  rw [Sem.run_bind, run_eqGuard_agg w _ _ _ _ _ _ Try.eqGuardType34, Result.andThen_ok, run_eql_struct, run_equalIn_struct w 9999 34 _ _ (by rfl) Try.stoodInHeld34, key 9998]
  simp [eqT34, Bool.and_assoc]
theorem run_neT34 {x y : Operand} (w : World) (x0 : Int) (x1 : Str) (x2 : Int) (x3 : Int) (y0 : Int) (y1 : Str) (y2 : Int) (y3 : Int) : (do eqGuard .neq 34 x y (.agg #[(.int .i64 x0), (S x1), (.int .i64 x2), (.int .i64 x3)]) (.agg #[(.int .i64 y0), (S y1), (.int .i64 y2), (.int .i64 y3)]); binOp .neq 34 (.agg #[(.int .i64 x0), (S x1), (.int .i64 x2), (.int .i64 x3)]) (.agg #[(.int .i64 y0), (S y1), (.int .i64 y2), (.int .i64 y3)]) : Sem Value).run Try.prog w = .ok (.bool (!(eqT34 x0 x1 x2 x3 y0 y1 y2 y3))) w := by
  have key : ∀ d, (Op.eqFields (d + 1) #[(.int .i64 x0), (S x1), (.int .i64 x2), (.int .i64 x3)] #[(.int .i64 y0), (S y1), (.int .i64 y2), (.int .i64 y3)] (Try.prog.fieldsOf 34).toList).run Try.prog w = .ok (x0 == y0 && (x1 == y1 && (x2 == y2 && (x3 == y3 && true)))) w := fun d => eqF_cons rfl (part1 Try.underlying3 rfl rfl) (part1 Try.underlying3 rfl rfl) (run_equalIn_int w d 3 _ _ _ _ Try.underlying3) <| eqF_cons rfl (part1 Try.underlying9 rfl rfl) (part1 Try.underlying9 rfl rfl) (run_equalIn_S _ w d 9 _ _ Try.underlying9) <| eqF_cons rfl (part1 Try.underlying3 rfl rfl) (part1 Try.underlying3 rfl rfl) (run_equalIn_int w d 3 _ _ _ _ Try.underlying3) <| eqF_cons rfl (part1 Try.underlying3 rfl rfl) (part1 Try.underlying3 rfl rfl) (run_equalIn_int w d 3 _ _ _ _ Try.underlying3) <| eqF_nil
  rw [Sem.run_bind, run_eqGuard_agg w _ _ _ _ _ _ Try.eqGuardType34, Result.andThen_ok, run_neq_struct, run_equalIn_struct w 9999 34 _ _ (by rfl) Try.stoodInHeld34, key 9998]
  simp [eqT34, Bool.and_assoc]
end Go.Proofs.Ytiambejbilkgmaa
