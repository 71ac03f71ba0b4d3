/-
  Proved here: the statement NestAlways: whatever the input, the law answers true, and its arguments read as before; the package variables of its row are tied to the program's text. (The frame was printed by a program.)
-/
import Derived.Test.YtcgihjbfppkcfaaGreatDoorNestAlwaysQK
import Derived.Test.YtcgihjbfppkcfaaGreatDoorCards
import Derived.Test.YtcgihjbfppkcfaaGreatDoorTie
import Derived.WalkKit
import Derived.ProofKit
import Derived.OpenShut
import Derived.ShutString
import Derived.Deep.DeepHandedRow
import Derived.Lib.LaidTab
namespace Go.Proofs.YtcgihjbfppkcfaaGreatDoor.nestAlways
open Go.ChangeShapes Go.WideShapes Go.ChangeAt Go.RowKit

theorem own:ownKnob Tryz.prog.godebug=none:=by kernel_rfl
theorem mixed:True:=trivial

/-- what the row's list gives -/
theorem start {W:World} (h:laidMetH Tryz.prog Rows.nestAlwaysRow.laid W):Sat [gl 0 (uR.map (Value.int .u64)),kept W (fun _=>False)] W∧UP [gl 0 (uR.map (Value.int .u64)),kept W (fun _=>False)]:=by
  have hL:=aeW (by rfl) h
  have h0:=ahg W
  have n0:=ah2 W
  have h1:=h0.add (new:=gl 0 (uR.map (Value.int .u64))) rfl (amO (kd:= .u64) (zs:=uR) hL 2 (by kernel_rfl) (show Tryz.prog.globalNamed "internal/strconv.uint64pow10" =some 0 by kernel_rfl) (show (Tryz.prog.globals[0]?).map (·.type)=some 236 by kernel_rfl) Tryz.underlying236 Tryz.underlying27 (by kernel_rfl) (show Tryz.prog.cellsOf 236=20 by kernel_rfl) (n0 _))
  have n1:UP _:=YK (it:=gl 0 (uR.map (Value.int .u64))) rfl n0
  exact ⟨h1,n1⟩

set_option maxRecDepth 100000 in
theorem laidOut:laidOutB Tryz.prog=true:=by kernel_rfl
set_option maxRecDepth 100000 in
theorem walk {v0 v1:Value} {a0:Ty.T .s} {a1:Ty.T (.i .u8)} (w:World) (x0:Arg w .s v0 a0) (y0:Hk (fun _=>True) .s a0) (x1:Arg w (.i .u8) v1 a1) (y1:Hk (fun _=>True) (.i .u8) a1) (hL:laidMetH Tryz.prog Rows.nestAlwaysRow.laid w):
    Calls Tryz.prog 5 #[v0,v1] w fun e w'=>e= .returned (.bool true)∧Below w.heap.size w w':=by
  obtain ⟨I,N',hS,g⟩:=(Vl x0 (Vl x1 aks)) []
  have h0:=ajz g (start hL).2 (start hL).1
  have h:=xW.2 (a0,a1) true (Ns.aiI a0 a1 y0 y1) [v0,v1] N' I [] _ w hS h0 (fun it bH=>List.mem_append_left [kept w (fun _=>False)] bH)
  refine Calls.mono h fun e w' he=> ?_
  cases e with
  | returned v=>
    obtain ⟨N1,N2,D1,D2,I1,I2,X1,X2,⟨x,h1,h2,h3,_,_⟩,⟨h4,h5,_,_⟩,hD,hs'⟩:=he
    subst h1 h2 h3 h4 h5
    have e1:x=true:=by
      have hD':[(⟨.bo,x⟩:ck)]=[⟨.bo,true⟩]:=hD
      injection hD' with hD' _
      injection hD' with _ hD'
    have hs2:=Sat.Ac (A:=X0.Γ) (Sat.Ac (A:=hZ I) hs')
    exact ⟨by rw [e1],aho (i:=0) hs2 rfl⟩
  | panicked c=>exact he.elim
  | outgrown=>exact he.elim

set_option maxRecDepth 100000 in
/-- WHAT THE WALK GIVES, FOR EVERY ARGUMENT AND EVERY WORLD THAT HOLDS THE TABLES -/
theorem contract (H:Type) (enc:TypeId×Value→H) (W:World) (base:Nat) (args:Array Value) (ds gs:List (DataW H)) (before:List MemPlace)
    (hval: ∀ (j:Nat) t v,Tryz.f5.params[j]? =some t→args[j]? =some v→Value.okWide Tryz.prog W .any base t v)
    (hW:DataW.Whole enc Tryz.prog Tryz.f5.params.toList Rows.nestAlwaysSpec.vars false W args.toList ds gs before) (hL:laidMetH Tryz.prog Rows.nestAlwaysRow.laid W):
    Calls Tryz.prog 5 args W fun e W'=> ∃ v,e= .returned v∧Rows.nestAlwaysSpec.post enc Tryz.prog Tryz.f5 false true false false W args v W':=by
  have hW':=hW
  obtain ⟨p,q,hA0,hV,rfl,hfz,hnd⟩:=hW
  have hA:DataW.TrodAll enc Tryz.prog W 0 (fun _=>true) true Tryz.f5.params.toList args.toList ds p:=hA0
  rw [Tryz.params5] at hA hval
  obtain ⟨v0,vs0,d0,ds0,p0,q0,hargs,rfl,rfl,h0,r0⟩:=trodAll_cons hA
  obtain ⟨v1,vs1,d1,ds1,p1,q1,rfl,rfl,rfl,h1,r1⟩:=trodAll_cons r0
  obtain ⟨rfl,rfl,rfl⟩:=trodAll_nil r1
  obtain rfl:args= #[v0,v1]:=by cases args;simp_all
  obtain ⟨rfl,rfl⟩:=trodVars_none hV
  have hw0: ∀ z∈p0,z.block<W.heap.size:=fun z hz=>by simpa using hW'.lt z (by simp [hz])
  obtain ⟨a0,x0,y0⟩:=NL (n:=20) (Q:=(fun _=>True)) .s (by kernel_rfl) (hval 0 9 v0 rfl rfl) (fun _ _=>trivial) h0
  have hw1: ∀ z∈p1,z.block<W.heap.size:=fun z hz=>by simpa using hW'.lt z (by simp [hz])
  obtain ⟨a1,x1,y1⟩:=NL (n:=20) (Q:=(fun _=>True)) (.i .u8) (by kernel_rfl) (hval 1 5 v1 rfl rfl) (fun _ _=>trivial) h1
  clear hA0
  refine (walk W x0 y0 x1 y1 hL).mono fun e W' ⟨he,bel⟩=> ?_
  subst he
  exact ⟨_,rfl,_,_,_,[],_,[],hW',trodAll_mk1 (shut_bool Tryz.underlying4 _),(trodAll_cons_mk (Below.trod laidOut (by kernel_rfl) (of_decide_eq_true (by kernel_rfl)) h0 bel hw0) (trodAll_cons_mk (Below.trod laidOut (by kernel_rfl) (of_decide_eq_true (by kernel_rfl)) h1 bel hw1) trodAll_mk0)),rfl,bel.frame _,fun h=>by cases h⟩

/-- a world for the witness: the settled one, with what the program's text lays -/
noncomputable def laidWorld (os:Os):World:=
  { World.holding Tryz.prog os ⟨#[],#[],[]⟩ with heap:=((((World.holding Tryz.prog os ⟨#[],#[],[]⟩).heap.modify 1 fun
      | .cells _ t frozen=> .cells #[.int .u8 0,.int .u8 1,.int .u8 28,.int .u8 2,.int .u8 29,.int .u8 14,.int .u8 24,.int .u8 3,.int .u8 30,.int .u8 22,.int .u8 20,.int .u8 15,.int .u8 25,.int .u8 17,.int .u8 4,.int .u8 8,.int .u8 31,.int .u8 27,.int .u8 13,.int .u8 23,.int .u8 21,.int .u8 19,.int .u8 16,.int .u8 7,.int .u8 26,.int .u8 12,.int .u8 18,.int .u8 6,.int .u8 11,.int .u8 5,.int .u8 10,.int .u8 9] t frozen
      | o=>o).modify 2 fun
      | .cells _ t frozen=> .cells #[.int .u8 0,.int .u8 1,.int .u8 56,.int .u8 2,.int .u8 57,.int .u8 49,.int .u8 28,.int .u8 3,.int .u8 61,.int .u8 58,.int .u8 42,.int .u8 50,.int .u8 38,.int .u8 29,.int .u8 17,.int .u8 4,.int .u8 62,.int .u8 47,.int .u8 59,.int .u8 36,.int .u8 45,.int .u8 43,.int .u8 51,.int .u8 22,.int .u8 53,.int .u8 39,.int .u8 33,.int .u8 30,.int .u8 24,.int .u8 18,.int .u8 12,.int .u8 5,.int .u8 63,.int .u8 55,.int .u8 48,.int .u8 27,.int .u8 60,.int .u8 41,.int .u8 37,.int .u8 16,.int .u8 46,.int .u8 35,.int .u8 44,.int .u8 21,.int .u8 52,.int .u8 32,.int .u8 23,.int .u8 11,.int .u8 54,.int .u8 26,.int .u8 40,.int .u8 15,.int .u8 34,.int .u8 20,.int .u8 31,.int .u8 10,.int .u8 25,.int .u8 14,.int .u8 19,.int .u8 9,.int .u8 13,.int .u8 8,.int .u8 7,.int .u8 6] t frozen
      | o=>o).modify 0 fun
      | .cells _ t frozen=> .cells #[.int .u64 1,.int .u64 10,.int .u64 100,.int .u64 1000,.int .u64 10000,.int .u64 100000,.int .u64 1000000,.int .u64 10000000,.int .u64 100000000,.int .u64 1000000000,.int .u64 10000000000,.int .u64 100000000000,.int .u64 1000000000000,.int .u64 10000000000000,.int .u64 100000000000000,.int .u64 1000000000000000,.int .u64 10000000000000000,.int .u64 100000000000000000,.int .u64 1000000000000000000,.int .u64 10000000000000000000] t frozen
      | o=>o) }
set_option maxRecDepth 100000 in
theorem laid_met (os:Os):laidMet Tryz.prog Rows.nestAlwaysRow.laid ((laidWorld os).forCall (fun _ _=>0) ⟨#[],#[.string ByteArray.empty,.int .u8 0],[]⟩).memory:=
  laidMet_of_run' 8 (by kernel_rfl) (by kernel_rfl)
theorem reads (os:Os) {H:Type} (enc:TypeId×Value→H): ∃ places,DataW.whole enc Tryz.prog ((laidWorld os).forCall (fun _ _=>0) ⟨#[],#[.string ByteArray.empty,.int .u8 0],[]⟩).memory Tryz.f5.params.toList Rows.nestAlwaysSpec.vars false (#[.string ByteArray.empty,.int .u8 0]:Array Value).toList 8=some ([.lit (.string []),.lit (.int .u8 0)],[],places):=
  ⟨[],by kernel_rfl⟩

set_option maxRecDepth 100000 in
theorem lifted (os:Os) (started:os.Started) (H:Type) (enc:TypeId×Value→H) (F:Stop.Interp):
    ReturnsInHanded {} Tryz.checked os 5 .any ((OpenSpec.ofChange Rows.nestAlwaysSpec).preRow enc Tryz.prog Tryz.f5 Rows.nestAlwaysRow.domain false Rows.nestAlwaysRow.laid) (((OpenSpec.ofChange Rows.nestAlwaysSpec).at F).post enc Tryz.prog Tryz.f5 false true false false):=by
  obtain ⟨places,hx⟩:=reads os enc
  refine returnsInHanded_of_row (C:=Tryz.checked) (s:=OpenSpec.ofChange Rows.nestAlwaysSpec) own started (by kernel_rfl) Tryz.func5
    (witness_row_at (enc:=enc) (C:=Tryz.checked) false (laidWorld os) #[.string ByteArray.empty,.int .u8 0] rfl (by kernel_rfl) (by kernel_rfl) (by kernel_rfl)
      (OpenSpec.preRow_of_cond 8 hx (by kernel_rfl) (fun k hk=>by cases hk) (by kernel_rfl) (laid_met os))) ?_
  intro W base args ds gs before hval hW _ _ _ hL _ _
  exact contract H enc W base args ds gs before hval hW hL

theorem said:Rows.NestAlwaysSaid:=
  OpenClaim.holds_of_cond 5 Tryz.f5 rfl rfl rfl rfl rfl rfl rfl ⟨rfl,rfl,rfl,rfl,rfl⟩ rfl rfl rfl rfl rfl (by kernel_rfl) Tryz.func5 (by kernel_rfl)
    (of_decide_eq_true (by kernel_rfl)) (by unfold Func.isWrapper;first | (rw [if_pos (by decide+kernel)];kernel_rfl) | (rw [if_neg (by decide+kernel)];exact ⟨rfl,rfl⟩))
    (fun os started H enc _ F=>by rw [OpenClaim.pre_eq_preRow];exact lifted os started H enc F)

theorem plain (f:FuncId) (fn:Func) (hf:Tryz.pinned.checked.prog.funcNamed "scrutiny/scrutinylaw21.NestAlways" =some f) (hfn:Tryz.pinned.checked.prog.funcs[f]? =some fn):
    true=Tryz.pinned.checked.prog.looks []∧ ∀ (j:Nat) t,fn.params[j]? =some t→Tryz.pinned.checked.prog.wantsStandIn t=false:=by
  obtain rfl:f=5:=Option.some.inj ((show Tryz.prog.funcNamed "scrutiny/scrutinylaw21.NestAlways" =some 5 by kernel_rfl).symm.trans hf) |>.symm
  obtain rfl:fn=Tryz.f5:=(Option.some.inj (Tryz.func5.symm.trans hfn)).symm
  refine ⟨by kernel_rfl,fun j t ht=> ?_⟩
  rw [Tryz.params5] at ht
  have hm:=Array.mem_of_getElem? ht
  simp only [List.mem_toArray,List.mem_cons,List.not_mem_nil,or_false] at hm
  rcases hm with rfl | rfl
  · exact (show Tryz.prog.wantsStandIn 9=false by kernel_rfl)
  · exact (show Tryz.prog.wantsStandIn 5=false by kernel_rfl)

/-- THE CARD -/
theorem proved:Rows.NestAlwaysCardSaid:=
  Claim7.holds_tied_plain_at .later [] _ _ _ _ said (fun _ h=>by cases h) (by kernel_rfl) (fun _ h=>by cases h) nestAlways_row_tie rfl ⟨rfl,rfl⟩ (by kernel_rfl) rfl plain (by kernel_rfl)
#print axioms proved
end Go.Proofs.YtcgihjbfppkcfaaGreatDoor.nestAlways

