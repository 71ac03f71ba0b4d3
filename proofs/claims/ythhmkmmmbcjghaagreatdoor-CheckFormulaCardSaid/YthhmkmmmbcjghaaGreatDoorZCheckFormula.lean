/-
  Proved here: the statement CheckFormula: whatever the input, the law answers true, and its arguments read as before; the package variables of its row are tied to the program's text. (The frame was printed by a program.)
-/
import Derived.Test.YthhmkmmmbcjghaaGreatDoorCheckFormulaJ
import Derived.Test.YthhmkmmmbcjghaaGreatDoorCards
import Derived.Test.YthhmkmmmbcjghaaGreatDoorTie
import Derived.WalkKit
import Derived.ProofKit
import Derived.OpenShut
import Derived.ShutString
import Derived.Deep.DeepHandedRow
import Derived.Lib.LaidTab
namespace Go.Proofs.YthhmkmmmbcjghaaGreatDoor.checkFormula
open Go.ChangeShapes Go.WideShapes Go.ChangeAt Go.RowKit

theorem own:ownKnob Tryz.prog.godebug=none:=by kernel_rfl
theorem mixed:True:=trivial

/-- what the row's list gives -/
theorem start {W:World} (h:laidMetH Tryz.prog Rows.checkFormulaRow.laid W):Sat [gl 0 (pr.map S),gl 1 (Hd.map S),gl 2 (ud.map (Value.int .u64)),kept W (fun _=>False)] W∧Sl [gl 0 (pr.map S),gl 1 (Hd.map S),gl 2 (ud.map (Value.int .u64)),kept W (fun _=>False)]:=by
  have hL:=akW (by rfl) h
  have h0:=am2 W
  have n0:=ane W
  have h1:=h0.add (new:=gl 2 (ud.map (Value.int .u64))) rfl (asE (kd:= .u64) (zs:=ud) hL 2 (by kernel_rfl) (show Tryz.prog.globalNamed "internal/strconv.uint64pow10" =some 2 by kernel_rfl) (show (Tryz.prog.globals[2]?).map (·.type)=some 322 by kernel_rfl) Tryz.underlying322 Tryz.underlying36 (by kernel_rfl) (show Tryz.prog.cellsOf 322=20 by kernel_rfl) (n0 _))
  have n1:Sl _:=KG (it:=gl 2 (ud.map (Value.int .u64))) rfl n0
  have h2:=h1.add (new:=gl 1 (Hd.map S)) rfl (aie (zs:=Hd) hL 3 (by kernel_rfl) (show Tryz.prog.globalNamed "scrutiny/expr.keys" =some 1 by kernel_rfl) (show (Tryz.prog.globals[1]?).map (·.type)=some 291 by kernel_rfl) Tryz.underlying291 Tryz.underlying9 (by kernel_rfl) (show Tryz.prog.cellsOf 291=9 by kernel_rfl) (n1 _))
  have n2:Sl _:=KG (it:=gl 1 (Hd.map S)) rfl n1
  have h3:=h2.add (new:=gl 0 (pr.map S)) rfl (aie (zs:=pr) hL 4 (by kernel_rfl) (show Tryz.prog.globalNamed "scrutiny/expr.texts" =some 0 by kernel_rfl) (show (Tryz.prog.globals[0]?).map (·.type)=some 258 by kernel_rfl) Tryz.underlying258 Tryz.underlying9 (by kernel_rfl) (show Tryz.prog.cellsOf 258=25 by kernel_rfl) (n2 _))
  have n3:Sl _:=KG (it:=gl 0 (pr.map S)) rfl n2
  exact ⟨h3,n3⟩

set_option maxRecDepth 100000 in
theorem laidOut:laidOutB Tryz.prog=true:=by kernel_rfl
set_option maxRecDepth 100000 in
theorem walk {v0 v1:Value} {a0:Ty.T .s} {a1:Ty.T (.l .s)} (w:World) (x0:Arg w .s v0 a0) (y0:JW (fun _=>True) .s a0) (x1:Arg w (.l .s) v1 a1) (y1:JW (fun _=>True) (.l .s) a1) (hL:laidMetH Tryz.prog Rows.checkFormulaRow.laid w):
    Calls Tryz.prog 3 #[v0,v1] w fun e w'=>e= .returned (.bool true)∧Below w.heap.size w w':=by
  obtain ⟨I,N',hS,g⟩:=(aby x0 (aby x1 aqe)) []
  have h0:=apC g (start hL).2 (start hL).1
  have h:=we.2 (a0,a1) true (Cf.am0 a0 a1 y0 y1) [v0,v1] N' I [] _ w hS h0 (fun it bQ=>List.mem_append_left [kept w (fun _=>False)] bQ)
  refine Calls.mono h fun e w' he=> ?_
  cases e with
  | returned v=>
    obtain ⟨N1,N2,D1,D2,I1,I2,X1,X2,⟨x,h1,h2,h3,_,_⟩,⟨h4,h5,_,_⟩,hD,hs'⟩:=he
    subst h1 h2 h3 h4 h5
    have e1:x=true:=by
      have hD':[(⟨.bo,x⟩:cD)]=[⟨.bo,true⟩]:=hD
      injection hD' with hD' _
      injection hD' with _ hD'
    have hs2:=Sat.Av (A:=X0.Γ) (Sat.Av (A:=fK I) hs')
    exact ⟨by rw [e1],amX (i:=0) hs2 rfl⟩
  | panicked c=>exact he.elim
  | outgrown=>exact he.elim

set_option maxRecDepth 100000 in
/-- WHAT THE WALK GIVES, FOR EVERY ARGUMENT AND EVERY WORLD THAT HOLDS THE TABLES -/
theorem contract (H:Type) (enc:TypeId×Value→H) (W:World) (base:Nat) (args:Array Value) (ds gs:List (DataW H)) (before:List MemPlace)
    (hval: ∀ (j:Nat) t v,Tryz.f3.params[j]? =some t→args[j]? =some v→Value.okWide Tryz.prog W .any base t v)
    (hW:DataW.Whole enc Tryz.prog Tryz.f3.params.toList Rows.checkFormulaSpec.vars false W args.toList ds gs before) (hL:laidMetH Tryz.prog Rows.checkFormulaRow.laid W):
    Calls Tryz.prog 3 args W fun e W'=> ∃ v,e= .returned v∧Rows.checkFormulaSpec.post enc Tryz.prog Tryz.f3 false true false false W args v W':=by
  have hW':=hW
  obtain ⟨p,q,hA0,hV,rfl,hfz,hnd⟩:=hW
  have hA:DataW.TrodAll enc Tryz.prog W 0 (fun _=>true) true Tryz.f3.params.toList args.toList ds p:=hA0
  rw [Tryz.params3] at hA hval
  obtain ⟨v0,vs0,d0,ds0,p0,q0,hargs,rfl,rfl,h0,r0⟩:=trodAll_cons hA
  obtain ⟨v1,vs1,d1,ds1,p1,q1,rfl,rfl,rfl,h1,r1⟩:=trodAll_cons r0
  obtain ⟨rfl,rfl,rfl⟩:=trodAll_nil r1
  obtain rfl:args= #[v0,v1]:=by cases args;simp_all
  obtain ⟨rfl,rfl⟩:=trodVars_none hV
  have hw0: ∀ z∈p0,z.block<W.heap.size:=fun z hz=>by simpa using hW'.lt z (by simp [hz])
  obtain ⟨a0,x0,y0⟩:=Sa (n:=20) (Q:=(fun _=>True)) .s (by kernel_rfl) (hval 0 9 v0 rfl rfl) (fun _ _=>trivial) h0
  have hw1: ∀ z∈p1,z.block<W.heap.size:=fun z hz=>by simpa using hW'.lt z (by simp [hz])
  obtain ⟨a1,x1,y1⟩:=Sa (n:=20) (Q:=(fun _=>True)) (.l .s) (by kernel_rfl) (hval 1 22 v1 rfl rfl) (fun _ _=>trivial) h1
  clear hA0
  refine (walk W x0 y0 x1 y1 hL).mono fun e W' ⟨he,bel⟩=> ?_
  subst he
  exact ⟨_,rfl,_,_,_,[],_,[],hW',trodAll_mk1 (shut_bool Tryz.underlying4 _),(trodAll_cons_mk (Below.trod laidOut (by kernel_rfl) (of_decide_eq_true (by kernel_rfl)) h0 bel hw0) (trodAll_cons_mk (Below.trod laidOut (by kernel_rfl) (of_decide_eq_true (by kernel_rfl)) h1 bel hw1) trodAll_mk0)),rfl,bel.frame _,fun h=>by cases h⟩

/-- a world for the witness: the settled one, with what the program's text lays -/
noncomputable def laidWorld (os:Os):World:=
  { World.holding Tryz.prog os ⟨#[],#[],[]⟩ with heap:=((((((World.holding Tryz.prog os ⟨#[],#[],[]⟩).heap.modify 3 fun
      | .cells _ t frozen=> .cells #[.int .u8 0,.int .u8 1,.int .u8 28,.int .u8 2,.int .u8 29,.int .u8 14,.int .u8 24,.int .u8 3,.int .u8 30,.int .u8 22,.int .u8 20,.int .u8 15,.int .u8 25,.int .u8 17,.int .u8 4,.int .u8 8,.int .u8 31,.int .u8 27,.int .u8 13,.int .u8 23,.int .u8 21,.int .u8 19,.int .u8 16,.int .u8 7,.int .u8 26,.int .u8 12,.int .u8 18,.int .u8 6,.int .u8 11,.int .u8 5,.int .u8 10,.int .u8 9] t frozen
      | o=>o).modify 4 fun
      | .cells _ t frozen=> .cells #[.int .u8 0,.int .u8 1,.int .u8 56,.int .u8 2,.int .u8 57,.int .u8 49,.int .u8 28,.int .u8 3,.int .u8 61,.int .u8 58,.int .u8 42,.int .u8 50,.int .u8 38,.int .u8 29,.int .u8 17,.int .u8 4,.int .u8 62,.int .u8 47,.int .u8 59,.int .u8 36,.int .u8 45,.int .u8 43,.int .u8 51,.int .u8 22,.int .u8 53,.int .u8 39,.int .u8 33,.int .u8 30,.int .u8 24,.int .u8 18,.int .u8 12,.int .u8 5,.int .u8 63,.int .u8 55,.int .u8 48,.int .u8 27,.int .u8 60,.int .u8 41,.int .u8 37,.int .u8 16,.int .u8 46,.int .u8 35,.int .u8 44,.int .u8 21,.int .u8 52,.int .u8 32,.int .u8 23,.int .u8 11,.int .u8 54,.int .u8 26,.int .u8 40,.int .u8 15,.int .u8 34,.int .u8 20,.int .u8 31,.int .u8 10,.int .u8 25,.int .u8 14,.int .u8 19,.int .u8 9,.int .u8 13,.int .u8 8,.int .u8 7,.int .u8 6] t frozen
      | o=>o).modify 2 fun
      | .cells _ t frozen=> .cells #[.int .u64 1,.int .u64 10,.int .u64 100,.int .u64 1000,.int .u64 10000,.int .u64 100000,.int .u64 1000000,.int .u64 10000000,.int .u64 100000000,.int .u64 1000000000,.int .u64 10000000000,.int .u64 100000000000,.int .u64 1000000000000,.int .u64 10000000000000,.int .u64 100000000000000,.int .u64 1000000000000000,.int .u64 10000000000000000,.int .u64 100000000000000000,.int .u64 1000000000000000000,.int .u64 10000000000000000000] t frozen
      | o=>o).modify 1 fun
      | .cells _ t frozen=> .cells #[.string ⟨#[116,114,117,101]⟩,.string ⟨#[102,97,108,115,101]⟩,.string ⟨#[88]⟩,.string ⟨#[70]⟩,.string ⟨#[71]⟩,.string ⟨#[85]⟩,.string ⟨#[82]⟩,.string ⟨#[118,97,114]⟩,.string ⟨#[112,114,111,99]⟩] t frozen
      | o=>o).modify 0 fun
      | .cells _ t frozen=> .cells #[.string ⟨#[]⟩,.string ⟨#[]⟩,.string ⟨#[]⟩,.string ⟨#[43]⟩,.string ⟨#[45]⟩,.string ⟨#[42]⟩,.string ⟨#[45]⟩,.string ⟨#[61,61]⟩,.string ⟨#[33,61]⟩,.string ⟨#[60]⟩,.string ⟨#[60,61]⟩,.string ⟨#[62]⟩,.string ⟨#[62,61]⟩,.string ⟨#[116,114,117,101]⟩,.string ⟨#[102,97,108,115,101]⟩,.string ⟨#[33]⟩,.string ⟨#[38]⟩,.string ⟨#[124]⟩,.string ⟨#[45,62]⟩,.string ⟨#[60,45,62]⟩,.string ⟨#[88]⟩,.string ⟨#[70]⟩,.string ⟨#[71]⟩,.string ⟨#[85]⟩,.string ⟨#[82]⟩] t frozen
      | o=>o) }
set_option maxRecDepth 100000 in
theorem laid_met (os:Os):laidMet Tryz.prog Rows.checkFormulaRow.laid ((laidWorld os).forCall (fun _ _=>0) ⟨#[],#[.string ByteArray.empty,.slice none 0 0],[]⟩).memory:=
  laidMet_of_run' 8 (by kernel_rfl) (by kernel_rfl)
theorem reads (os:Os) {H:Type} (enc:TypeId×Value→H): ∃ places,DataW.whole enc Tryz.prog ((laidWorld os).forCall (fun _ _=>0) ⟨#[],#[.string ByteArray.empty,.slice none 0 0],[]⟩).memory Tryz.f3.params.toList Rows.checkFormulaSpec.vars false (#[.string ByteArray.empty,.slice none 0 0]:Array Value).toList 8=some ([.lit (.string []),.nil],[],places):=
  ⟨[],by kernel_rfl⟩

set_option maxRecDepth 100000 in
theorem lifted (os:Os) (started:os.Started) (H:Type) (enc:TypeId×Value→H) (F:Stop.Interp):
    ReturnsInHanded {} Tryz.checked os 3 .any ((OpenSpec.ofChange Rows.checkFormulaSpec).preRow enc Tryz.prog Tryz.f3 Rows.checkFormulaRow.domain false Rows.checkFormulaRow.laid) (((OpenSpec.ofChange Rows.checkFormulaSpec).at F).post enc Tryz.prog Tryz.f3 false true false false):=by
  obtain ⟨places,hx⟩:=reads os enc
  refine returnsInHanded_of_row (C:=Tryz.checked) (s:=OpenSpec.ofChange Rows.checkFormulaSpec) own started (by kernel_rfl) Tryz.func3
    (witness_row_at (enc:=enc) (C:=Tryz.checked) false (laidWorld os) #[.string ByteArray.empty,.slice none 0 0] rfl (by kernel_rfl) (by kernel_rfl) (by kernel_rfl)
      (OpenSpec.preRow_of_cond 8 hx (by kernel_rfl) (fun k hk=>by cases hk) (by kernel_rfl) (laid_met os))) ?_
  intro W base args ds gs before hval hW _ _ _ hL _ _
  exact contract H enc W base args ds gs before hval hW hL

theorem and_t {a b:Bool} (h:a=true) (k:b=true):(a&&b)=true:=by rw [h,k];rfl
set_option maxRecDepth 100000 in
theorem mapsR:mapsRowed Tryz.prog=true:=by kernel_rfl
set_option maxRecDepth 100000 in
theorem inP:(Rows.checkFormulaRow.inPlace==Tryz.prog.inPlace 3)=true:=by kernel_rfl
set_option maxRecDepth 100000 in
theorem unf:(Rows.checkFormulaRow.unfollowed==Tryz.prog.unfollowed 3)=true:=by kernel_rfl
set_option maxRecDepth 100000 in
theorem recu:(Rows.checkFormulaRow.recurses==Tryz.prog.recurses 3)=true:=by kernel_rfl
set_option maxRecDepth 100000 in
theorem vnam:(Rows.checkFormulaRow.named==Tryz.prog.varsNamed 3)=true:=by kernel_rfl
set_option maxRecDepth 100000 in
theorem heard:Tryz.prog.stopsHeard=true:=by kernel_rfl
set_option maxRecDepth 100000 in
theorem entr:Tryz.prog.mayEnter=true:=by kernel_rfl
theorem facts:joinedFacts Tryz.prog 3 Tryz.f3 (OpenSpec.ofChange Rows.checkFormulaSpec).bare Rows.checkFormulaRow=true:=by unfold joinedFacts;exact and_t (and_t (and_t (and_t (and_t (and_t (and_t (and_t (and_t (and_t (and_t (and_t (and_t (and_t (and_t (and_t (and_t (and_t (and_t (and_t (and_t (and_t (and_t (and_t (and_t (and_t (and_t (and_t (and_t (and_t (and_t (by kernel_rfl) laidOut) mapsR) (by kernel_rfl)) (by kernel_rfl)) (by kernel_rfl)) (by kernel_rfl)) (by kernel_rfl)) (by kernel_rfl)) inP) unf) recu) vnam) (by kernel_rfl)) (by kernel_rfl)) (by kernel_rfl)) (by kernel_rfl)) (by kernel_rfl)) (by kernel_rfl)) (by kernel_rfl)) (by kernel_rfl)) (by kernel_rfl)) (by kernel_rfl)) (by kernel_rfl)) heard) entr) (by kernel_rfl)) (by kernel_rfl)) (by kernel_rfl)) (by kernel_rfl)) (by kernel_rfl)) (by kernel_rfl)
theorem said:Rows.CheckFormulaSaid:=
  OpenClaim.holds_of_cond 3 Tryz.f3 rfl rfl rfl rfl rfl rfl rfl ⟨rfl,rfl,rfl,rfl,rfl⟩ rfl rfl rfl rfl rfl (by kernel_rfl) Tryz.func3 facts
    (of_decide_eq_true (by kernel_rfl)) (by unfold Func.isWrapper;first | (rw [if_pos (by decide+kernel)];kernel_rfl) | (rw [if_neg (by decide+kernel)];exact ⟨rfl,rfl⟩))
    (fun os started H enc _ F=>by rw [OpenClaim.pre_eq_preRow];exact lifted os started H enc F)

theorem plain (f:FuncId) (fn:Func) (hf:Tryz.pinned.checked.prog.funcNamed "scrutiny/scrutinylaw23.CheckFormula" =some f) (hfn:Tryz.pinned.checked.prog.funcs[f]? =some fn):
    true=Tryz.pinned.checked.prog.looks []∧ ∀ (j:Nat) t,fn.params[j]? =some t→Tryz.pinned.checked.prog.wantsStandIn t=false:=by
  obtain rfl:f=3:=Option.some.inj ((show Tryz.prog.funcNamed "scrutiny/scrutinylaw23.CheckFormula" =some 3 by kernel_rfl).symm.trans hf) |>.symm
  obtain rfl:fn=Tryz.f3:=(Option.some.inj (Tryz.func3.symm.trans hfn)).symm
  refine ⟨by kernel_rfl,fun j t ht=> ?_⟩
  rw [Tryz.params3] at ht
  have hm:=Array.mem_of_getElem? ht
  simp only [List.mem_toArray,List.mem_cons,List.not_mem_nil,or_false] at hm
  rcases hm with rfl | rfl
  · exact (show Tryz.prog.wantsStandIn 9=false by kernel_rfl)
  · exact (show Tryz.prog.wantsStandIn 22=false by kernel_rfl)

/-- THE CARD -/
theorem proved:Rows.CheckFormulaCardSaid:=
  Claim7.holds_tied_plain_at .later [] _ _ _ _ said (fun _ h=>by cases h) (by kernel_rfl) (fun _ h=>by cases h) checkFormula_row_tie rfl ⟨rfl,rfl⟩ (by kernel_rfl) rfl plain (by kernel_rfl)
#print axioms proved
end Go.Proofs.YthhmkmmmbcjghaaGreatDoor.checkFormula

