/-
  Proved here: the statement StoreTells: whatever the input, the law answers true, and its arguments read as before. No condition. (The frame was printed by a program.)
-/
import Derived.Test.YtgcgmclghbebjaaGreatStoreTellsA
import Derived.Test.YtgcgmclghbebjaaGreatStoreTellsB
import Derived.Test.YtgcgmclghbebjaaGreatStoreTellsC
import Derived.Test.YtgcgmclghbebjaaGreatStoreTellsD
import Derived.Test.YtgcgmclghbebjaaGreatStoreTellsE
import Derived.Test.YtgcgmclghbebjaaGreatStoreTellsF
import Derived.Test.YtgcgmclghbebjaaGreatStoreTellsG
import Derived.Test.YtgcgmclghbebjaaGreatStoreTellsH
import Derived.Test.YtgcgmclghbebjaaGreatStoreTellsI
import Derived.Test.YtgcgmclghbebjaaGreatRows
import Derived.WalkKit
import Derived.ProofKit
import Derived.OpenShut
import Derived.ShutString
import Derived.ChangeOld
import Derived.Below
namespace Go.Proofs.YtgcgmclghbebjaaGreat.storeTells
open Go.ChangeShapes Go.WideShapes Go.ChangeAt Go.RowKit

theorem own:ownKnob Tryz.prog.godebug=none:=by kernel_rfl

set_option maxRecDepth 100000 in
theorem laidOut:laidOutB Tryz.prog=true:=by kernel_rfl
set_option maxRecDepth 100000 in
theorem walk {v0 v1 v2:Value} {a0:Ty.T (.l (.p (.i .i64) (.i .i64)))} {a1:Ty.T (.p (.i .i64) (.p (.i .i64) (.p (.i .i64) (.p (.i .u64) (.p (.i .i64) (.i .i64))))))} {a2:Ty.T (.l (.p (.i .u8) (.p (.l (.i .i64)) (.i .i64))))} (w:World) (x0:Arg w (.l (.p (.i .i64) (.i .i64))) v0 a0) (y0:Dom (fun _=>True) (.l (.p (.i .i64) (.i .i64))) a0) (x1:Arg w (.p (.i .i64) (.p (.i .i64) (.p (.i .i64) (.p (.i .u64) (.p (.i .i64) (.i .i64)))))) v1 a1) (y1:Dom (fun _=>True) (.p (.i .i64) (.p (.i .i64) (.p (.i .i64) (.p (.i .u64) (.p (.i .i64) (.i .i64)))))) a1) (x2:Arg w (.l (.p (.i .u8) (.p (.l (.i .i64)) (.i .i64)))) v2 a2) (y2:Dom (fun _=>True) (.l (.p (.i .u8) (.p (.l (.i .i64)) (.i .i64)))) a2):
    Calls Tryz.prog 3 #[v0,v1,v2] w fun e w'=>e= .returned (.bool true)∧Below w.heap.size w w':=by
  obtain ⟨I,N',hS,g⟩:=(y9 x0 (y9 x1 (y9 x2 PM))) []
  have h0:=Qf g (Oz w) (O6 w)
  have h:=oO.2 (a0,a1,a2) true (So.TD a0 a1 a2 y0 y1 y2) [v0,v1,v2] N' I [] _ w hS h0 (fun it hit=>by cases hit)
  refine Calls.mono h fun e w' he=> ?_
  cases e with
  | returned v=>
    obtain ⟨N1,N2,D1,D2,I1,I2,X1,X2,⟨x,h1,h2,h3,_,_⟩,⟨h4,h5,_,_⟩,hD,hs'⟩:=he
    subst h1 h2 h3 h4 h5
    have e1:x=true:=by
      have hD':[(⟨.bo,x⟩:Dyn)]=[⟨.bo,true⟩]:=hD
      injection hD' with hD' _
      injection hD' with _ hD'
    have hs2:=Sat.tP (A:=dz I) hs'
    exact ⟨by rw [e1],Oq (i:=0) hs2 rfl⟩
  | panicked c=>exact he.elim
  | outgrown=>exact he.elim

set_option maxRecDepth 100000 in
theorem lifted (os:Os) (started:os.Started) (H:Type) (enc:TypeId×Value→H):
    ReturnsInHanded {} Tryz.checked os 3 .any (Rows.storeTellsSpec.pre6 enc Tryz.prog Tryz.f3 Rows.storeTellsRow.domain false) (Rows.storeTellsSpec.post enc Tryz.prog Tryz.f3 false true false false):=by
  refine returnsInHanded_of_change (C:=Tryz.checked) own started (by kernel_rfl) Tryz.func3
    (ChangeSpec.witness6 (enc:=enc) (C:=Tryz.checked) false ⟨#[],#[.slice none 0 0,.agg #[.int .i64 0,.int .i64 0,.int .i64 0,.int .u64 0,.int .i64 0,.int .i64 0],.slice none 0 0],[]⟩ 8 (by kernel_rfl) (by kernel_rfl) (by kernel_rfl) (by kernel_rfl)) ?_
  intro W base args ds gs before hval0 hW hcnd _
  have hval: ∀ (j:Nat) t v,Tryz.f3.params[j]? =some t→args[j]? =some v→Value.okWide Tryz.prog W .any base t v:=hval0
  have hW':=hW
  obtain ⟨p,q,hA0,hV,rfl,hfz,hnd⟩:=hW
  have hA:DataW.TrodAll enc Tryz.prog W 0 (fun _=>true) true Tryz.f3.params.toList args.toList ds p:=hA0
  rw [Tryz.params3] at hA hval
  obtain ⟨v0,vs0,d0,ds0,p0,q0,hargs,rfl,rfl,h0,r0⟩:=trodAll_cons hA
  obtain ⟨v1,vs1,d1,ds1,p1,q1,rfl,rfl,rfl,h1,r1⟩:=trodAll_cons r0
  obtain ⟨v2,vs2,d2,ds2,p2,q2,rfl,rfl,rfl,h2,r2⟩:=trodAll_cons r1
  obtain ⟨rfl,rfl,rfl⟩:=trodAll_nil r2
  obtain rfl:args= #[v0,v1,v2]:=by cases args;simp_all
  obtain ⟨rfl,rfl⟩:=trodVars_none hV
  have hw0: ∀ z∈p0,z.block<W.heap.size:=fun z hz=>by simpa using hW'.lt z (by simp [hz])
  obtain ⟨a0,x0,y0⟩:=uF (n:=20) (Q:=(fun _=>True)) (.l (.p (.i .i64) (.i .i64))) (by kernel_rfl) (hval 0 22 v0 rfl rfl) (fun _ _=>trivial) h0
  have hw1: ∀ z∈p1,z.block<W.heap.size:=fun z hz=>by simpa using hW'.lt z (by simp [hz])
  obtain ⟨a1,x1,y1⟩:=uF (n:=20) (Q:=(fun _=>True)) (.p (.i .i64) (.p (.i .i64) (.p (.i .i64) (.p (.i .u64) (.p (.i .i64) (.i .i64)))))) (by kernel_rfl) (hval 1 25 v1 rfl rfl) (fun _ _=>trivial) h1
  have hw2: ∀ z∈p2,z.block<W.heap.size:=fun z hz=>by simpa using hW'.lt z (by simp [hz])
  obtain ⟨a2,x2,y2⟩:=uF (n:=20) (Q:=(fun _=>True)) (.l (.p (.i .u8) (.p (.l (.i .i64)) (.i .i64)))) (by kernel_rfl) (hval 2 26 v2 rfl rfl) (fun _ _=>trivial) h2
  clear hA0 hval0
  refine (walk W x0 y0 x1 y1 x2 y2).mono fun e W' ⟨he,bel⟩=> ?_
  subst he
  exact ⟨_,rfl,_,_,_,[],_,[],hW',trodAll_mk1 (shut_bool Tryz.underlying4 _),(trodAll_cons_mk (Below.trod laidOut (by kernel_rfl) (of_decide_eq_true (by kernel_rfl)) h0 bel hw0) (trodAll_cons_mk (Below.trod laidOut (by kernel_rfl) (of_decide_eq_true (by kernel_rfl)) h1 bel hw1) (trodAll_cons_mk (Below.trod laidOut (by kernel_rfl) (of_decide_eq_true (by kernel_rfl)) h2 bel hw2) trodAll_mk0))),rfl,bel.frame _,fun h=>by cases h⟩

set_option maxRecDepth 100000 in
theorem over:Rows.storeTellsRow.holds Tryz.pinned (OpenSpec.ofChange Rows.storeTellsSpec):=
  OpenClaim.holds_of_wide 3 Tryz.f3 rfl rfl rfl rfl rfl rfl rfl ⟨rfl,rfl,rfl,rfl,rfl⟩ rfl rfl rfl rfl rfl (by kernel_rfl) Tryz.func3 (by kernel_rfl)
    (of_decide_eq_true (by kernel_rfl)) (by unfold Func.isWrapper;first | (rw [if_pos (by decide+kernel)];kernel_rfl) | (rw [if_neg (by decide+kernel)];exact ⟨rfl,rfl⟩))
    (fun os started H enc _=>lifted os started H enc)

theorem proved:Rows.StoreTellsSaid:=over
#print axioms proved
end Go.Proofs.YtgcgmclghbebjaaGreat.storeTells

