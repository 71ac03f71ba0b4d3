/- Printed by a program: the walks. -/
import Derived.Test.YtjappdgehmjomaaTypes
namespace Go.Proofs.Ytjappdgehmjomaa
open Go.Proofs

set_option maxRecDepth 100000 in
set_option maxHeartbeats 4000000 in
theorem scrutinylaw09_flag_ok {Φ : Ctx} {w : World} {is_ : Bool} {r : Int} (hs : Sat (Φ) w) (hm : scrutinylaw09_flag is_ = some r) :
    CallsR Try.prog 22 [(.bool is_)] w (fun v w' => v = (.int .i64 r) ∧ Sat (Φ) w') := by
  refine CallsX_enter Try.func22 rfl Try.ntmps22 rfl ?_
  unfold scrutinylaw09_flag at hm
  refine WC_seq ?_
  refine WC_region ?_
  refine WL_op (Run_assign Opd.c) rfl rfl rfl rfl <| ?_
  refine WL_nil ?_
  refine At_then ?_
  refine WC_seq ?_
  refine WC_seq ?_
  refine WC_region ?_
  refine WL_op (Run_move (Opd.t rfl)) rfl rfl rfl rfl <| ?_
  refine WL_nil ?_
  refine At_then ?_
  refine WC_cond (Opd.t rfl) (fun hc3 => ?_) (fun hc3 => ?_)
  ·
    replace hm := bif_t hc3 hm
    refine WC_seq ?_
    refine WC_region ?_
    refine WL_op (Run_assign Opd.c) rfl rfl rfl rfl <| ?_
    refine WL_nil ?_
    refine At_then ?_
    refine WC_ret ?_
    refine At_then_ret <| ?_
    refine At_r1 rfl (ResIs.t rfl) ?_
    cases hm
    exact ⟨rfl, (hs.re 0 [] rfl)⟩
  ·
    replace hm := bif_f hc3 hm
    refine WC_skip ?_
    refine At_then ?_
    refine WC_seq ?_
    refine WC_region ?_
    refine WL_op (Run_assign Opd.c) rfl rfl rfl rfl <| ?_
    refine WL_nil ?_
    refine At_then ?_
    refine WC_ret ?_
    refine At_r1 rfl (ResIs.t rfl) ?_
    cases hm
    exact ⟨rfl, (hs.re 0 [] rfl)⟩

end Go.Proofs.Ytjappdgehmjomaa
