/-
  Proved here: the statement ToolShows: whatever the input, the law answers true, and its arguments read as before; the package variables of its row are tied to the program's text. (The frame was printed by a program.)
-/
import Derived.Test.YtkedhpmpejhekaaGreatDoorToolShowsI
import Derived.Test.YtkedhpmpejhekaaGreatDoorCards
import Derived.Test.YtkedhpmpejhekaaGreatDoorTie
import Derived.WalkKit
import Derived.ProofKit
import Derived.OpenShut
import Derived.ShutString
import Derived.Deep.DeepHandedRow
import Derived.Lib.LaidTab
namespace Go.Proofs.YtkedhpmpejhekaaGreatDoor.toolShows
open Go.ChangeShapes Go.WideShapes Go.ChangeAt Go.RowKit

theorem own:ownKnob Tryz.prog.godebug=none:=by kernel_rfl
theorem mixed:True:=trivial

/-- what the row's list gives -/
theorem start {W:World} (h:laidMetH Tryz.prog Rows.toolShowsRow.laid W) (hSh:W.ShapedOpen Tryz.prog):Sat [gl 0 (lN.map S),gl 1 (kc.map S),glx 2,gl 3 (rH.map (Value.int .u64)),gl 6 (I9.map S),gl 7 (xw.map S),kept W (fun _=>False)] W∧Ha [gl 0 (lN.map S),gl 1 (kc.map S),glx 2,gl 3 (rH.map (Value.int .u64)),gl 6 (I9.map S),gl 7 (xw.map S),kept W (fun _=>False)]:=by
  have hL:=ahu (by rfl) h
  have h0:=akk W
  have n0:=ai1 W
  have h1:=h0.add (new:=gl 7 (xw.map S)) rfl (Nj (zs:=xw) hL 4 (by kernel_rfl) (show Tryz.prog.globalNamed "scrutiny/expr.texts" =some 7 by kernel_rfl) (show (Tryz.prog.globals[7]?).map (·.type)=some 328 by kernel_rfl) Tryz.underlying328 Tryz.underlying9 (by kernel_rfl) (show Tryz.prog.cellsOf 328=25 by kernel_rfl) (n0 _))
  have n1:Ha _:=rS (it:=gl 7 (xw.map S)) rfl n0
  have h2:=h1.add (new:=gl 6 (I9.map S)) rfl (Nj (zs:=I9) hL 3 (by kernel_rfl) (show Tryz.prog.globalNamed "scrutiny/expr.keys" =some 6 by kernel_rfl) (show (Tryz.prog.globals[6]?).map (·.type)=some 325 by kernel_rfl) Tryz.underlying325 Tryz.underlying9 (by kernel_rfl) (show Tryz.prog.cellsOf 325=9 by kernel_rfl) (n1 _))
  have n2:Ha _:=rS (it:=gl 6 (I9.map S)) rfl n1
  have h3:=h2.add (new:=gl 3 (rH.map (Value.int .u64))) rfl (aoR (kd:= .u64) (zs:=rH) hL 2 (by kernel_rfl) (show Tryz.prog.globalNamed "internal/strconv.uint64pow10" =some 3 by kernel_rfl) (show (Tryz.prog.globals[3]?).map (·.type)=some 250 by kernel_rfl) Tryz.underlying250 Tryz.underlying31 (by kernel_rfl) (show Tryz.prog.cellsOf 250=20 by kernel_rfl) (n2 _))
  have n3:Ha _:=rS (it:=gl 3 (rH.map (Value.int .u64))) rfl n2
  have h4:=h3.add (new:=glx 2) rfl ⟨n3 _,Tryz.afE.s1_3 _ hSh⟩
  have n4:Ha _:=rS (it:=glx 2) rfl n3
  have h5:=h4.add (new:=gl 1 (kc.map S)) rfl (Nj (zs:=kc) hL 6 (by kernel_rfl) (show Tryz.prog.globalNamed "scrutiny/tool.verdicts" =some 1 by kernel_rfl) (show (Tryz.prog.globals[1]?).map (·.type)=some 62 by kernel_rfl) Tryz.underlying62 Tryz.underlying9 (by kernel_rfl) (show Tryz.prog.cellsOf 62=4 by kernel_rfl) (n4 _))
  have n5:Ha _:=rS (it:=gl 1 (kc.map S)) rfl n4
  have h6:=h5.add (new:=gl 0 (lN.map S)) rfl (Nj (zs:=lN) hL 5 (by kernel_rfl) (show Tryz.prog.globalNamed "scrutiny/tool.kinds" =some 0 by kernel_rfl) (show (Tryz.prog.globals[0]?).map (·.type)=some 49 by kernel_rfl) Tryz.underlying49 Tryz.underlying9 (by kernel_rfl) (show Tryz.prog.cellsOf 49=5 by kernel_rfl) (n5 _))
  have n6:Ha _:=rS (it:=gl 0 (lN.map S)) rfl n5
  exact ⟨h6,n6⟩

set_option maxRecDepth 100000 in
theorem laidOut:laidOutB Tryz.prog=true:=by kernel_rfl
set_option maxRecDepth 100000 in
theorem walk {v0:Value} {a0:Ty.T (.p (.i .i64) (.p (.i .i64) (.p (.i .i64) (.p (.l (.i .i64)) (.p (.l (.l (.i .i64))) (.l (.l (.i .i64))))))))} (w:World) (x0:Arg w (.p (.i .i64) (.p (.i .i64) (.p (.i .i64) (.p (.l (.i .i64)) (.p (.l (.l (.i .i64))) (.l (.l (.i .i64)))))))) v0 a0) (y0:Jh (fun _=>True) (.p (.i .i64) (.p (.i .i64) (.p (.i .i64) (.p (.l (.i .i64)) (.p (.l (.l (.i .i64))) (.l (.l (.i .i64)))))))) a0) (hL:laidMetH Tryz.prog Rows.toolShowsRow.laid w) (hSh:w.ShapedOpen Tryz.prog):
    Calls Tryz.prog 5 #[v0] w fun e w'=>e= .returned (.bool true)∧Below w.heap.size w w':=by
  obtain ⟨I,N',hS,g⟩:=(ajt x0 amW) []
  have h0:=amE g (start hL hSh).2 (start hL hSh).1
  have h:=wD.2 a0 true (To.ao6 a0 y0) [v0] N' I [] _ w hS h0 (fun it hit=>List.mem_append_left [kept w (fun _=>False)] hit)
  refine Calls.mono h fun e w' he=> ?_
  cases e with
  | returned v=>
    obtain ⟨N1,N2,D1,D2,I1,I2,X1,X2,⟨x,h1,h2,h3,_,_⟩,⟨h4,h5,_,_⟩,hD,hs'⟩:=he
    subst h1 h2 h3 h4 h5
    have e1:x=true:=by
      have hD':[(⟨.bo,x⟩:bZ)]=[⟨.bo,true⟩]:=hD
      injection hD' with hD' _
      injection hD' with _ hD'
    have hs2:=Sat.wJ (A:=X0.Γ) (Sat.wJ (A:=eI I) hs')
    exact ⟨by rw [e1],aj5 (i:=0) hs2 rfl⟩
  | panicked c=>exact he.elim
  | outgrown=>exact he.elim

set_option maxRecDepth 100000 in
/-- WHAT THE WALK GIVES, FOR EVERY ARGUMENT AND EVERY WORLD THAT HOLDS THE TABLES -/
theorem contract (H:Type) (enc:TypeId×Value→H) (W:World) (base:Nat) (args:Array Value) (ds gs:List (DataW H)) (before:List MemPlace)
    (hval: ∀ (j:Nat) t v,Tryz.f5.params[j]? =some t→args[j]? =some v→Value.okWide Tryz.prog W .any base t v)
    (hW:DataW.Whole enc Tryz.prog Tryz.f5.params.toList Rows.toolShowsSpec.vars false W args.toList ds gs before) (hL:laidMetH Tryz.prog Rows.toolShowsRow.laid W) (hSh:W.ShapedOpen Tryz.prog):
    Calls Tryz.prog 5 args W fun e W'=> ∃ v,e= .returned v∧Rows.toolShowsSpec.post enc Tryz.prog Tryz.f5 false true false false W args v W':=by
  have hW':=hW
  obtain ⟨p,q,hA0,hV,rfl,hfz,hnd⟩:=hW
  have hA:DataW.TrodAll enc Tryz.prog W 0 (fun _=>true) true Tryz.f5.params.toList args.toList ds p:=hA0
  rw [Tryz.params5] at hA hval
  obtain ⟨v0,vs0,d0,ds0,p0,q0,hargs,rfl,rfl,h0,r0⟩:=trodAll_cons hA
  obtain ⟨rfl,rfl,rfl⟩:=trodAll_nil r0
  obtain rfl:args= #[v0]:=by cases args;simp_all
  obtain ⟨rfl,rfl⟩:=trodVars_none hV
  have hw0: ∀ z∈p0,z.block<W.heap.size:=fun z hz=>by simpa using hW'.lt z (by simp [hz])
  obtain ⟨a0,x0,y0⟩:=adT (n:=20) (Q:=(fun _=>True)) (.p (.i .i64) (.p (.i .i64) (.p (.i .i64) (.p (.l (.i .i64)) (.p (.l (.l (.i .i64))) (.l (.l (.i .i64)))))))) (by kernel_rfl) (hval 0 28 v0 rfl rfl) (fun _ _=>trivial) h0
  clear hA0
  refine (walk W x0 y0 hL hSh).mono fun e W' ⟨he,bel⟩=> ?_
  subst he
  exact ⟨_,rfl,_,_,_,[],_,[],hW',trodAll_mk1 (shut_bool Tryz.underlying4 _),(trodAll_cons_mk (Below.trod laidOut (by kernel_rfl) (of_decide_eq_true (by kernel_rfl)) h0 bel hw0) trodAll_mk0),rfl,bel.frame _,fun h=>by cases h⟩

/-- a world for the witness: the settled one, with what the program's text lays -/
noncomputable def laidWorld (os:Os):World:=
  { World.holding Tryz.prog os ⟨#[],#[],[]⟩ with heap:=((((((((World.holding Tryz.prog os ⟨#[],#[],[]⟩).heap.modify 4 fun
      | .cells _ t frozen=> .cells #[.int .u8 0,.int .u8 1,.int .u8 28,.int .u8 2,.int .u8 29,.int .u8 14,.int .u8 24,.int .u8 3,.int .u8 30,.int .u8 22,.int .u8 20,.int .u8 15,.int .u8 25,.int .u8 17,.int .u8 4,.int .u8 8,.int .u8 31,.int .u8 27,.int .u8 13,.int .u8 23,.int .u8 21,.int .u8 19,.int .u8 16,.int .u8 7,.int .u8 26,.int .u8 12,.int .u8 18,.int .u8 6,.int .u8 11,.int .u8 5,.int .u8 10,.int .u8 9] t frozen
      | o=>o).modify 5 fun
      | .cells _ t frozen=> .cells #[.int .u8 0,.int .u8 1,.int .u8 56,.int .u8 2,.int .u8 57,.int .u8 49,.int .u8 28,.int .u8 3,.int .u8 61,.int .u8 58,.int .u8 42,.int .u8 50,.int .u8 38,.int .u8 29,.int .u8 17,.int .u8 4,.int .u8 62,.int .u8 47,.int .u8 59,.int .u8 36,.int .u8 45,.int .u8 43,.int .u8 51,.int .u8 22,.int .u8 53,.int .u8 39,.int .u8 33,.int .u8 30,.int .u8 24,.int .u8 18,.int .u8 12,.int .u8 5,.int .u8 63,.int .u8 55,.int .u8 48,.int .u8 27,.int .u8 60,.int .u8 41,.int .u8 37,.int .u8 16,.int .u8 46,.int .u8 35,.int .u8 44,.int .u8 21,.int .u8 52,.int .u8 32,.int .u8 23,.int .u8 11,.int .u8 54,.int .u8 26,.int .u8 40,.int .u8 15,.int .u8 34,.int .u8 20,.int .u8 31,.int .u8 10,.int .u8 25,.int .u8 14,.int .u8 19,.int .u8 9,.int .u8 13,.int .u8 8,.int .u8 7,.int .u8 6] t frozen
      | o=>o).modify 3 fun
      | .cells _ t frozen=> .cells #[.int .u64 1,.int .u64 10,.int .u64 100,.int .u64 1000,.int .u64 10000,.int .u64 100000,.int .u64 1000000,.int .u64 10000000,.int .u64 100000000,.int .u64 1000000000,.int .u64 10000000000,.int .u64 100000000000,.int .u64 1000000000000,.int .u64 10000000000000,.int .u64 100000000000000,.int .u64 1000000000000000,.int .u64 10000000000000000,.int .u64 100000000000000000,.int .u64 1000000000000000000,.int .u64 10000000000000000000] t frozen
      | o=>o).modify 6 fun
      | .cells _ t frozen=> .cells #[.string ⟨#[116,114,117,101]⟩,.string ⟨#[102,97,108,115,101]⟩,.string ⟨#[88]⟩,.string ⟨#[70]⟩,.string ⟨#[71]⟩,.string ⟨#[85]⟩,.string ⟨#[82]⟩,.string ⟨#[118,97,114]⟩,.string ⟨#[112,114,111,99]⟩] t frozen
      | o=>o).modify 7 fun
      | .cells _ t frozen=> .cells #[.string ⟨#[]⟩,.string ⟨#[]⟩,.string ⟨#[]⟩,.string ⟨#[43]⟩,.string ⟨#[45]⟩,.string ⟨#[42]⟩,.string ⟨#[45]⟩,.string ⟨#[61,61]⟩,.string ⟨#[33,61]⟩,.string ⟨#[60]⟩,.string ⟨#[60,61]⟩,.string ⟨#[62]⟩,.string ⟨#[62,61]⟩,.string ⟨#[116,114,117,101]⟩,.string ⟨#[102,97,108,115,101]⟩,.string ⟨#[33]⟩,.string ⟨#[38]⟩,.string ⟨#[124]⟩,.string ⟨#[45,62]⟩,.string ⟨#[60,45,62]⟩,.string ⟨#[88]⟩,.string ⟨#[70]⟩,.string ⟨#[71]⟩,.string ⟨#[85]⟩,.string ⟨#[82]⟩] t frozen
      | o=>o).modify 0 fun
      | .cells _ t frozen=> .cells #[.string ⟨#[112,108,97,105,110]⟩,.string ⟨#[112,97,114,116,115]⟩,.string ⟨#[116,114,101,101]⟩,.string ⟨#[119,111,114,100,115]⟩,.string ⟨#[108,111,115,115,121]⟩] t frozen
      | o=>o).modify 1 fun
      | .cells _ t frozen=> .cells #[.string ⟨#[101,114,114,111,114]⟩,.string ⟨#[104,111,108,100,115]⟩,.string ⟨#[118,105,111,108,97,116,101,100]⟩,.string ⟨#[110,111,116,104,105,110,103]⟩] t frozen
      | o=>o) }
set_option maxRecDepth 100000 in
theorem laid_met (os:Os):laidMet Tryz.prog Rows.toolShowsRow.laid ((laidWorld os).forCall (fun _ _=>0) ⟨#[],#[.agg #[.int .i64 0,.int .i64 0,.int .i64 0,.slice none 0 0,.slice none 0 0,.slice none 0 0]],[]⟩).memory:=
  laidMet_of_run' 8 (by kernel_rfl) (by kernel_rfl)
theorem reads (os:Os) {H:Type} (enc:TypeId×Value→H): ∃ places,DataW.whole enc Tryz.prog ((laidWorld os).forCall (fun _ _=>0) ⟨#[],#[.agg #[.int .i64 0,.int .i64 0,.int .i64 0,.slice none 0 0,.slice none 0 0,.slice none 0 0]],[]⟩).memory Tryz.f5.params.toList Rows.toolShowsSpec.vars false (#[.agg #[.int .i64 0,.int .i64 0,.int .i64 0,.slice none 0 0,.slice none 0 0,.slice none 0 0]]:Array Value).toList 8=some ([.agg [.lit (.int .i64 0),.lit (.int .i64 0),.lit (.int .i64 0),.nil,.agg [.nil,.nil]]],[],places):=
  ⟨[],by kernel_rfl⟩

set_option maxRecDepth 100000 in
theorem lifted (os:Os) (started:os.Started) (H:Type) (enc:TypeId×Value→H) (F:Stop.Interp):
    ReturnsInHanded {} Tryz.checked os 5 .any ((OpenSpec.ofChange Rows.toolShowsSpec).preRow enc Tryz.prog Tryz.f5 Rows.toolShowsRow.domain false Rows.toolShowsRow.laid) (((OpenSpec.ofChange Rows.toolShowsSpec).at F).post enc Tryz.prog Tryz.f5 false true false false):=by
  obtain ⟨places,hx⟩:=reads os enc
  refine returnsInHanded_of_row (C:=Tryz.checked) (s:=OpenSpec.ofChange Rows.toolShowsSpec) own started (by kernel_rfl) Tryz.func5
    (witness_row_at (enc:=enc) (C:=Tryz.checked) false (laidWorld os) #[.agg #[.int .i64 0,.int .i64 0,.int .i64 0,.slice none 0 0,.slice none 0 0,.slice none 0 0]] rfl (by kernel_rfl) (by kernel_rfl) (by kernel_rfl)
      (OpenSpec.preRow_of_cond 8 hx (by kernel_rfl) (fun k hk=>by cases hk) (by kernel_rfl) (laid_met os))) ?_
  intro W base args ds gs before hval hW _ _ _ hL hSh _
  exact contract H enc W base args ds gs before hval hW hL hSh

theorem and_t {a b:Bool} (h:a=true) (k:b=true):(a&&b)=true:=by rw [h,k];rfl
set_option maxRecDepth 100000 in
theorem mapsR:mapsRowed Tryz.prog=true:=by kernel_rfl
set_option maxRecDepth 100000 in
theorem inP:(Rows.toolShowsRow.inPlace==Tryz.prog.inPlace 5)=true:=by kernel_rfl
set_option maxRecDepth 100000 in
theorem unf:(Rows.toolShowsRow.unfollowed==Tryz.prog.unfollowed 5)=true:=by kernel_rfl
set_option maxRecDepth 100000 in
theorem recu:(Rows.toolShowsRow.recurses==Tryz.prog.recurses 5)=true:=by kernel_rfl
set_option maxRecDepth 100000 in
theorem vnam:(Rows.toolShowsRow.named==Tryz.prog.varsNamed 5)=true:=by kernel_rfl
set_option maxRecDepth 100000 in
theorem heard:Tryz.prog.stopsHeard=true:=by kernel_rfl
set_option maxRecDepth 100000 in
theorem entr:Tryz.prog.mayEnter=true:=by kernel_rfl
theorem facts:joinedFacts Tryz.prog 5 Tryz.f5 (OpenSpec.ofChange Rows.toolShowsSpec).bare Rows.toolShowsRow=true:=by unfold joinedFacts;exact and_t (and_t (and_t (and_t (and_t (and_t (and_t (and_t (and_t (and_t (and_t (and_t (and_t (and_t (and_t (and_t (and_t (and_t (and_t (and_t (and_t (and_t (and_t (and_t (and_t (and_t (and_t (and_t (and_t (and_t (and_t (by kernel_rfl) laidOut) mapsR) (by kernel_rfl)) (by kernel_rfl)) (by kernel_rfl)) (by kernel_rfl)) (by kernel_rfl)) (by kernel_rfl)) inP) unf) recu) vnam) (by kernel_rfl)) (by kernel_rfl)) (by kernel_rfl)) (by kernel_rfl)) (by kernel_rfl)) (by kernel_rfl)) (by kernel_rfl)) (by kernel_rfl)) (by kernel_rfl)) (by kernel_rfl)) (by kernel_rfl)) heard) entr) (by kernel_rfl)) (by kernel_rfl)) (by kernel_rfl)) (by kernel_rfl)) (by kernel_rfl)) (by kernel_rfl)
theorem said:Rows.ToolShowsSaid:=
  OpenClaim.holds_of_cond 5 Tryz.f5 rfl rfl rfl rfl rfl rfl rfl ⟨rfl,rfl,rfl,rfl,rfl⟩ rfl rfl rfl rfl rfl (by kernel_rfl) Tryz.func5 facts
    (of_decide_eq_true (by kernel_rfl)) (by unfold Func.isWrapper;first | (rw [if_pos (by decide+kernel)];kernel_rfl) | (rw [if_neg (by decide+kernel)];exact ⟨rfl,rfl⟩))
    (fun os started H enc _ F=>by rw [OpenClaim.pre_eq_preRow];exact lifted os started H enc F)

theorem plain (f:FuncId) (fn:Func) (hf:Tryz.pinned.checked.prog.funcNamed "scrutiny/scrutinylaw24.ToolShows" =some f) (hfn:Tryz.pinned.checked.prog.funcs[f]? =some fn):
    true=Tryz.pinned.checked.prog.looks []∧ ∀ (j:Nat) t,fn.params[j]? =some t→Tryz.pinned.checked.prog.wantsStandIn t=false:=by
  obtain rfl:f=5:=Option.some.inj ((show Tryz.prog.funcNamed "scrutiny/scrutinylaw24.ToolShows" =some 5 by kernel_rfl).symm.trans hf) |>.symm
  obtain rfl:fn=Tryz.f5:=(Option.some.inj (Tryz.func5.symm.trans hfn)).symm
  refine ⟨by kernel_rfl,fun j t ht=> ?_⟩
  rw [Tryz.params5] at ht
  have hm:=Array.mem_of_getElem? ht
  simp only [List.mem_toArray,List.mem_cons,List.not_mem_nil,or_false] at hm
  obtain rfl:=hm
  exact (show Tryz.prog.wantsStandIn 28=false by kernel_rfl)

/-- THE CARD -/
theorem proved:Rows.ToolShowsCardSaid:=
  Claim7.holds_tied_plain_at .later [] _ _ _ _ said (fun _ h=>by cases h) (by kernel_rfl) (fun _ h=>by cases h) toolShows_row_tie rfl ⟨rfl,rfl⟩ (by kernel_rfl) rfl plain (by kernel_rfl)
#print axioms proved
end Go.Proofs.YtkedhpmpejhekaaGreatDoor.toolShows

