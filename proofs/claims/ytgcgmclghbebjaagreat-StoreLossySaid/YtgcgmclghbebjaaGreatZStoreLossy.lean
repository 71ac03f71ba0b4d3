/-
  Proved here: the statement StoreLossy: whatever the input, the law answers true, and its arguments read as before. No condition. (The frame was printed by a program.)
-/
import Derived.Test.YtgcgmclghbebjaaGreatStoreLossyA
import Derived.Test.YtgcgmclghbebjaaGreatStoreLossyB
import Derived.Test.YtgcgmclghbebjaaGreatStoreLossyC
import Derived.Test.YtgcgmclghbebjaaGreatStoreLossyD
import Derived.Test.YtgcgmclghbebjaaGreatStoreLossyE
import Derived.Test.YtgcgmclghbebjaaGreatStoreLossyF
import Derived.Test.YtgcgmclghbebjaaGreatStoreLossyG
import Derived.Test.YtgcgmclghbebjaaGreatStoreLossyH
import Derived.Test.YtgcgmclghbebjaaGreatStoreLossyI
import Derived.Test.YtgcgmclghbebjaaGreatRows
import Derived.WalkKit
import Derived.ProofKit
import Derived.OpenShut
import Derived.ShutString
import Derived.ChangeOld
import Derived.Below
namespace Go.Proofs.YtgcgmclghbebjaaGreat.storeLossy
open Go.ChangeShapes Go.WideShapes Go.ChangeAt Go.RowKit

theorem own:ownKnob Tryz.prog.godebug=none:=by kernel_rfl

set_option maxRecDepth 100000 in
theorem laidOut:laidOutB Tryz.prog=true:=by kernel_rfl
set_option maxRecDepth 100000 in
theorem walk {v0:Value} {a0:Ty.T (.p (.l (.p (.i .i64) (.i .i64))) (.p (.i .u16) (.p (.i .u8) (.p (.i .u64) (.l (.p (.i .u8) (.p (.l (.i .i64)) (.i .i64))))))))} (w:World) (x0:Arg w (.p (.l (.p (.i .i64) (.i .i64))) (.p (.i .u16) (.p (.i .u8) (.p (.i .u64) (.l (.p (.i .u8) (.p (.l (.i .i64)) (.i .i64)))))))) v0 a0) (y0:Dom (fun _=>True) (.p (.l (.p (.i .i64) (.i .i64))) (.p (.i .u16) (.p (.i .u8) (.p (.i .u64) (.l (.p (.i .u8) (.p (.l (.i .i64)) (.i .i64)))))))) a0):
    Calls Tryz.prog 6 #[v0] w fun e w'=>e= .returned (.bool true)∧Below w.heap.size w w':=by
  obtain ⟨I,N',hS,g⟩:=(Lg x0 OS) []
  have h0:=MH g (LJ w) (LO w)
  have h:=m6.2 a0 true (So.Qq a0 y0) [v0] N' I [] _ w hS h0 (fun it hit=>by cases hit)
  refine Calls.mono h fun e w' he=> ?_
  cases e with
  | returned v=>
    obtain ⟨N1,N2,D1,D2,I1,I2,X1,X2,⟨x,h1,h2,h3,_,_⟩,⟨h4,h5,_,_⟩,hD,hs'⟩:=he
    subst h1 h2 h3 h4 h5
    have e1:x=true:=by
      have hD':[(⟨.bo,x⟩:Dyn)]=[⟨.bo,true⟩]:=hD
      injection hD' with hD' _
      injection hD' with _ hD'
    have hs2:=Sat.rI (A:=cY I) hs'
    exact ⟨by rw [e1],Lh (i:=0) hs2 rfl⟩
  | panicked c=>exact he.elim
  | outgrown=>exact he.elim

set_option maxRecDepth 100000 in
theorem lifted (os:Os) (started:os.Started) (H:Type) (enc:TypeId×Value→H):
    ReturnsInHanded {} Tryz.checked os 6 .any (Rows.storeLossySpec.pre6 enc Tryz.prog Tryz.f6 Rows.storeLossyRow.domain false) (Rows.storeLossySpec.post enc Tryz.prog Tryz.f6 false true false false):=by
  refine returnsInHanded_of_change (C:=Tryz.checked) own started (by kernel_rfl) Tryz.func6
    (ChangeSpec.witness6 (enc:=enc) (C:=Tryz.checked) false ⟨#[],#[.agg #[.slice none 0 0,.int .u16 0,.int .u8 0,.int .u64 0,.slice none 0 0]],[]⟩ 8 (by kernel_rfl) (by kernel_rfl) (by kernel_rfl) (by kernel_rfl)) ?_
  intro W base args ds gs before hval0 hW hcnd _
  have hval: ∀ (j:Nat) t v,Tryz.f6.params[j]? =some t→args[j]? =some v→Value.okWide Tryz.prog W .any base t v:=hval0
  have hW':=hW
  obtain ⟨p,q,hA0,hV,rfl,hfz,hnd⟩:=hW
  have hA:DataW.TrodAll enc Tryz.prog W 0 (fun _=>true) true Tryz.f6.params.toList args.toList ds p:=hA0
  rw [Tryz.params6] at hA hval
  obtain ⟨v0,vs0,d0,ds0,p0,q0,hargs,rfl,rfl,h0,r0⟩:=trodAll_cons hA
  obtain ⟨rfl,rfl,rfl⟩:=trodAll_nil r0
  obtain rfl:args= #[v0]:=by cases args;simp_all
  obtain ⟨rfl,rfl⟩:=trodVars_none hV
  have hw0: ∀ z∈p0,z.block<W.heap.size:=fun z hz=>by simpa using hW'.lt z (by simp [hz])
  obtain ⟨a0,x0,y0⟩:=Hk (n:=20) (Q:=(fun _=>True)) (.p (.l (.p (.i .i64) (.i .i64))) (.p (.i .u16) (.p (.i .u8) (.p (.i .u64) (.l (.p (.i .u8) (.p (.l (.i .i64)) (.i .i64)))))))) (by kernel_rfl) (hval 0 92 v0 rfl rfl) (fun _ _=>trivial) h0
  clear hA0 hval0
  refine (walk W x0 y0).mono fun e W' ⟨he,bel⟩=> ?_
  subst he
  exact ⟨_,rfl,_,_,_,[],_,[],hW',trodAll_mk1 (shut_bool Tryz.underlying4 _),(trodAll_cons_mk (Below.trod laidOut (by kernel_rfl) (of_decide_eq_true (by kernel_rfl)) h0 bel hw0) trodAll_mk0),rfl,bel.frame _,fun h=>by cases h⟩

set_option maxRecDepth 100000 in
theorem over:Rows.storeLossyRow.holds Tryz.pinned (OpenSpec.ofChange Rows.storeLossySpec):=
  OpenClaim.holds_of_wide 6 Tryz.f6 rfl rfl rfl rfl rfl rfl rfl ⟨rfl,rfl,rfl,rfl,rfl⟩ rfl rfl rfl rfl rfl (by kernel_rfl) Tryz.func6 (by kernel_rfl)
    (of_decide_eq_true (by kernel_rfl)) (by unfold Func.isWrapper;first | (rw [if_pos (by decide+kernel)];kernel_rfl) | (rw [if_neg (by decide+kernel)];exact ⟨rfl,rfl⟩))
    (fun os started H enc _=>lifted os started H enc)

theorem proved:Rows.StoreLossySaid:=over
#print axioms proved
end Go.Proofs.YtgcgmclghbebjaaGreat.storeLossy

