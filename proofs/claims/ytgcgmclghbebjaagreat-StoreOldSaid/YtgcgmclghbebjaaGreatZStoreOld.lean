/-
  Proved here: the statement StoreOld: whatever the input, the law answers true, and its arguments read as before. No condition. (The frame was printed by a program.)
-/
import Derived.Test.YtgcgmclghbebjaaGreatStoreOldA
import Derived.Test.YtgcgmclghbebjaaGreatStoreOldB
import Derived.Test.YtgcgmclghbebjaaGreatStoreOldC
import Derived.Test.YtgcgmclghbebjaaGreatStoreOldD
import Derived.Test.YtgcgmclghbebjaaGreatStoreOldE
import Derived.Test.YtgcgmclghbebjaaGreatStoreOldF
import Derived.Test.YtgcgmclghbebjaaGreatStoreOldG
import Derived.Test.YtgcgmclghbebjaaGreatStoreOldH
import Derived.Test.YtgcgmclghbebjaaGreatStoreOldI
import Derived.Test.YtgcgmclghbebjaaGreatRows
import Derived.WalkKit
import Derived.ProofKit
import Derived.OpenShut
import Derived.ShutString
import Derived.ChangeOld
import Derived.Below
namespace Go.Proofs.YtgcgmclghbebjaaGreat.storeOld
open Go.ChangeShapes Go.WideShapes Go.ChangeAt Go.RowKit

theorem own:ownKnob Tryz.prog.godebug=none:=by kernel_rfl

set_option maxRecDepth 100000 in
theorem laidOut:laidOutB Tryz.prog=true:=by kernel_rfl
set_option maxRecDepth 100000 in
theorem walk {v0:Value} {a0:Ty.T (.p (.l (.p (.i .i64) (.i .i64))) (.p (.i .u8) (.p (.l (.l (.i .i64))) (.p (.l (.i .i64)) (.i .u8)))))} (w:World) (x0:Arg w (.p (.l (.p (.i .i64) (.i .i64))) (.p (.i .u8) (.p (.l (.l (.i .i64))) (.p (.l (.i .i64)) (.i .u8))))) v0 a0) (y0:Dom (fun _=>True) (.p (.l (.p (.i .i64) (.i .i64))) (.p (.i .u8) (.p (.l (.l (.i .i64))) (.p (.l (.i .i64)) (.i .u8))))) a0):
    Calls Tryz.prog 7 #[v0] w fun e w'=>e= .returned (.bool true)∧Below w.heap.size w w':=by
  obtain ⟨I,N',hS,g⟩:=(LX x0 NI) []
  have h0:=MJ g (KZ w) (LO w)
  have h:=oL.2 a0 true (So.SN a0 y0) [v0] N' I [] _ w hS h0 (fun it hit=>by cases hit)
  refine Calls.mono h fun e w' he=> ?_
  cases e with
  | returned v=>
    obtain ⟨N1,N2,D1,D2,I1,I2,X1,X2,⟨x,h1,h2,h3,_,_⟩,⟨h4,h5,_,_⟩,hD,hs'⟩:=he
    subst h1 h2 h3 h4 h5
    have e1:x=true:=by
      have hD':[(⟨.bo,x⟩:Dyn)]=[⟨.bo,true⟩]:=hD
      injection hD' with hD' _
      injection hD' with _ hD'
    have hs2:=Sat.ra (A:=cZ I) hs'
    exact ⟨by rw [e1],KV (i:=0) hs2 rfl⟩
  | panicked c=>exact he.elim
  | outgrown=>exact he.elim

set_option maxRecDepth 100000 in
theorem lifted (os:Os) (started:os.Started) (H:Type) (enc:TypeId×Value→H):
    ReturnsInHanded {} Tryz.checked os 7 .any (Rows.storeOldSpec.pre6 enc Tryz.prog Tryz.f7 Rows.storeOldRow.domain false) (Rows.storeOldSpec.post enc Tryz.prog Tryz.f7 false true false false):=by
  refine returnsInHanded_of_change (C:=Tryz.checked) own started (by kernel_rfl) Tryz.func7
    (ChangeSpec.witness6 (enc:=enc) (C:=Tryz.checked) false ⟨#[],#[.agg #[.slice none 0 0,.int .u8 0,.slice none 0 0,.slice none 0 0,.int .u8 0]],[]⟩ 8 (by kernel_rfl) (by kernel_rfl) (by kernel_rfl) (by kernel_rfl)) ?_
  intro W base args ds gs before hval0 hW hcnd _
  have hval: ∀ (j:Nat) t v,Tryz.f7.params[j]? =some t→args[j]? =some v→Value.okWide Tryz.prog W .any base t v:=hval0
  have hW':=hW
  obtain ⟨p,q,hA0,hV,rfl,hfz,hnd⟩:=hW
  have hA:DataW.TrodAll enc Tryz.prog W 0 (fun _=>true) true Tryz.f7.params.toList args.toList ds p:=hA0
  rw [Tryz.params7] at hA hval
  obtain ⟨v0,vs0,d0,ds0,p0,q0,hargs,rfl,rfl,h0,r0⟩:=trodAll_cons hA
  obtain ⟨rfl,rfl,rfl⟩:=trodAll_nil r0
  obtain rfl:args= #[v0]:=by cases args;simp_all
  obtain ⟨rfl,rfl⟩:=trodVars_none hV
  have hw0: ∀ z∈p0,z.block<W.heap.size:=fun z hz=>by simpa using hW'.lt z (by simp [hz])
  obtain ⟨a0,x0,y0⟩:=He (n:=20) (Q:=(fun _=>True)) (.p (.l (.p (.i .i64) (.i .i64))) (.p (.i .u8) (.p (.l (.l (.i .i64))) (.p (.l (.i .i64)) (.i .u8))))) (by kernel_rfl) (hval 0 95 v0 rfl rfl) (fun _ _=>trivial) h0
  clear hA0 hval0
  refine (walk W x0 y0).mono fun e W' ⟨he,bel⟩=> ?_
  subst he
  exact ⟨_,rfl,_,_,_,[],_,[],hW',trodAll_mk1 (shut_bool Tryz.underlying4 _),(trodAll_cons_mk (Below.trod laidOut (by kernel_rfl) (of_decide_eq_true (by kernel_rfl)) h0 bel hw0) trodAll_mk0),rfl,bel.frame _,fun h=>by cases h⟩

set_option maxRecDepth 100000 in
theorem over:Rows.storeOldRow.holds Tryz.pinned (OpenSpec.ofChange Rows.storeOldSpec):=
  OpenClaim.holds_of_wide 7 Tryz.f7 rfl rfl rfl rfl rfl rfl rfl ⟨rfl,rfl,rfl,rfl,rfl⟩ rfl rfl rfl rfl rfl (by kernel_rfl) Tryz.func7 (by kernel_rfl)
    (of_decide_eq_true (by kernel_rfl)) (by unfold Func.isWrapper;first | (rw [if_pos (by decide+kernel)];kernel_rfl) | (rw [if_neg (by decide+kernel)];exact ⟨rfl,rfl⟩))
    (fun os started H enc _=>lifted os started H enc)

theorem proved:Rows.StoreOldSaid:=over
#print axioms proved
end Go.Proofs.YtgcgmclghbebjaaGreat.storeOld

