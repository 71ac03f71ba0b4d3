/- Own texts for NestArgsQ, cut and joined by a program. -/
import Derived.Test.YtcgihjbfppkcfaaGreatDoorNestArgsQF
import Derived.Shelf.Strconv.Itoa3
import Derived.Ground.NamesProg
import Derived.Test.YtcgihjbfppkcfaaGreatDoorProg
import Derived.Lib.ItoaLen
set_option linter.all false
namespace Go.Proofs.YtcgihjbfppkcfaaGreatDoor
open Go.Lib
abbrev afR{R:Type}(X:Cx)(H:List Row)(fn:Func)(K:AV->aC->Option R)(st:aC):Option R:=match yi (Kf X ⟨[],H,fn.ntmps⟩ st) fn.results.toList with
 |some rs=>K (Is rs) st
 |none=>none
noncomputable def RQ{R:Type}(X:Cx)(fn:Func)(args:List AV)(H:List Row)(st:aC)(K:AV->aC->Option R):Option R:=match fn.body with
 |some body=>aD (Nat.ble args.length fn.ntmps) (den X [] [] body ⟨[],H,fn.ntmps⟩ (λe st'=>match e with
  | .ret=>afR X H fn K st'
  | .nrm=>afR X H fn K st'
  |_=>none) ⟨st.c,ra 0 args,st.G,.o⟩) none
 |none=>none
theorem UX{X:Cx}{f:FuncId}{fn:Func}(k:Enters X.P f)(j:X.P.funcs[f]? =some fn)(n:X.gls=[]):(⟨f,λargs H st K=>RQ X fn args H st K⟩:XC).Ok X.P:=by
 refine ⟨k,λ{R} r args H st K ρ Φ w m h=>?_⟩;have d:RQ X fn args H st K=some r:=h;unfold RQ at d;split at d
 .rename_i body hb;obtain ⟨s,q⟩:=aI d;refine nB j hb rfl (by rw [AV.bF];exact s) ?_;have p:az ρ [] (ra 0 args) []=iota 0 (AV.al ρ args):=by show aF.env ρ [] (ra 0 args)++[]=_;rw [Fw,ko]
  rw [<-p];have e:∀it∈X.Γ,it∈Φ:=λit bI=>by unfold Cx.Γ at bI;rw [n] at bI;cases bI
  refine gS (X:=X) (tb:=[]) (tp:=[]) (D:=[]) (fr:=⟨[],H,fn.ntmps⟩) (st:=⟨st.c,ra 0 args,st.G,.o⟩) e (λ_ h=>nomatch h) (λ_ h=>nomatch h) body m q (λx st' ρ' w' u t a b=>?_);have fin:Sat (ab ρ' [] st'.G++(ab ρ' [] H++Φ)) w'->afR X H fn K st'=some r->At (BP X.P fn (λv w'=>∃(ρ':ay) (st':aC) (av:AV),K av st'=some r/\aS st.c ρ ρ'/\st.c<=st'.c/\av.val ρ'=v/\Sat (ab ρ' [] st'.G++(ab ρ' [] H++Φ)) w') (λ_ _=>False))   .ret fn.ntmps [] (az ρ' [] st'.E []) w':=λb h=>by
   unfold afR at h;split at h
   next rs g=>exact aj4 (fr:=⟨[],H,fn.ntmps⟩) b g ⟨ρ',st',Is rs,h,u,t,rfl,b⟩
   .cases h
  cases x with
  |nrm=>exact fin b a
  |ret=>exact fin b a
  |ext i=>cases a
  |gto l=>cases a
  |kh v=>cases a
  |panE v=>cases a
  |panL v=>cases a
 .cases d
end Go.Proofs.YtcgihjbfppkcfaaGreatDoor
namespace Go.Proofs
open Go.Shelf
def Tryz.My:Go.Shelf.Ren:=⟨λ| 171=>131|243=>137|246=>139|283=>117|284=>118|285=>119|286=>120|129=>126|317=>125|318=>127|319=>128|320=>129|337=>134|338=>135|n=>n,λ| 3=>3|9=>9|2=>2|4=>4|171=>225|0=>0|53=>27|37=>74|5=>5|173=>228|212=>236|51=>237|20=>20|213=>238|46=>239|232=>252|233=>253|n=>n,λ| 17=>0|18=>1|19=>2|n=>n⟩
theorem Tryz.alm:Go.Proofs.LaysM.n171 Tryz.prog Tryz.My:={
 mixed:=by kernel_rfl
 f129:=Tryz.func126.trans (congrArg some (by kernel_rfl))
 f171:=Tryz.func131.trans (congrArg some (by kernel_rfl))
 f243:=Tryz.func137.trans (congrArg some (by kernel_rfl))
 f246:=Tryz.func139.trans (congrArg some (by kernel_rfl))
 f283:=Tryz.func117.trans (congrArg some (by kernel_rfl))
 f284:=Tryz.func118.trans (congrArg some (by kernel_rfl))
 f285:=Tryz.func119.trans (congrArg some (by kernel_rfl))
 f286:=Tryz.func120.trans (congrArg some (by kernel_rfl))
 f317:=Tryz.func125.trans (congrArg some (by kernel_rfl))
 f318:=Tryz.func127.trans (congrArg some (by kernel_rfl))
 f319:=Tryz.func128.trans (congrArg some (by kernel_rfl))
 f320:=Tryz.func129.trans (congrArg some (by kernel_rfl))
 f337:=Tryz.func134.trans (congrArg some (by kernel_rfl))
 f338:=Tryz.func135.trans (congrArg some (by kernel_rfl))
 t0:=Tryz.underlying0
 a0:=Tryz.isAgg0
 z0:=Tryz.sizeOf0
 v0:=Tryz.zeroValue0
 t2:=Tryz.underlying2
 a2:=Tryz.isAgg2
 z2:=Tryz.sizeOf2
 v2:=Tryz.zeroValue2
 t3:=Tryz.underlying3
 a3:=Tryz.isAgg3
 z3:=Tryz.sizeOf3
 v3:=Tryz.zeroValue3
 t4:=Tryz.underlying4
 a4:=Tryz.isAgg4
 z4:=Tryz.sizeOf4
 v4:=Tryz.zeroValue4
 t5:=Tryz.underlying5
 a5:=Tryz.isAgg5
 z5:=Tryz.sizeOf5
 v5:=Tryz.zeroValue5
 t9:=Tryz.underlying9
 a9:=Tryz.isAgg9
 z9:=Tryz.sizeOf9
 v9:=Tryz.zeroValue9
 t20:=Tryz.underlying20
 a20:=Tryz.isAgg20
 z20:=Tryz.sizeOf20
 v20:=Tryz.zeroValue20
 t37:=Tryz.underlying74
 a37:=Tryz.isAgg74
 z37:=Tryz.sizeOf74
 v37:=Tryz.zeroValue74
 t46:=Tryz.underlying239
 a46:=Tryz.isAgg239
 z46:=Tryz.sizeOf239
 v46:=Tryz.zeroValue239
 t51:=Tryz.underlying237
 a51:=Tryz.isAgg237
 z51:=Tryz.sizeOf237
 v51:=Tryz.zeroValue237
 t53:=Tryz.underlying27
 a53:=Tryz.isAgg27
 z53:=Tryz.sizeOf27
 v53:=Tryz.zeroValue27
 t171:=Tryz.underlying225
 a171:=Tryz.isAgg225
 z171:=Tryz.sizeOf225
 v171:=Tryz.zeroValue225
 t173:=Tryz.underlying228
 a173:=Tryz.isAgg228
 z173:=Tryz.sizeOf228
 v173:=Tryz.zeroValue228
 t212:=Tryz.underlying236
 a212:=Tryz.isAgg236
 z212:=Tryz.sizeOf236
 v212:=Tryz.zeroValue236
 t213:=Tryz.underlying238
 a213:=Tryz.isAgg238
 z213:=Tryz.sizeOf238
 t232:=Tryz.underlying252
 a232:=Tryz.isAgg252
 z232:=Tryz.sizeOf252
 v232:=Tryz.zeroValue252
 t233:=Tryz.underlying253
 a233:=Tryz.isAgg253
 z233:=Tryz.sizeOf253
 v233:=Tryz.zeroValue253
 g17:=by kernel_rfl
 g18:=by kernel_rfl
 g19:=by kernel_rfl
 i0:=by kernel_rfl
 i2:=by kernel_rfl
 i3:=by kernel_rfl
 i4:=by kernel_rfl
 i5:=by kernel_rfl
 i9:=by kernel_rfl
 i20:=by kernel_rfl
 i37:=by kernel_rfl
 i46:=by kernel_rfl
 i51:=by kernel_rfl
 i53:=by kernel_rfl
 i171:=by kernel_rfl
 i173:=by kernel_rfl
 i212:=by kernel_rfl
 i232:=by kernel_rfl
 i233:=by kernel_rfl
 m17:=by kernel_rfl
 m18:=by kernel_rfl
 m19:=by kernel_rfl }
end Go.Proofs
namespace Go.Proofs.YtcgihjbfppkcfaaGreatDoor
open Go.Proofs Go.Shelf Go.Lib
theorem anV{P:Program}{Γg:Ctx}{ρ:Go.Shelf.Ren}(L:Go.Proofs.LaysM.n171 P ρ)(p:Enters P (ρ.f 171)){G:Nat}{tab:zl}(o:P.globalNamed "internal/strconv.uint64pow10" =some G) (h:gl G (tab.map (Value.int .u64))∈Γg) (ht:Lib.pow10Tab=tab)
  (m:Int->Option aE) (hm:∀n r,m n=some r->aaM n=true/\r=Lib.itoa n):(⟨ρ.f 171,[.int .i64],.str,[],λs=>m s⟩:aA).Ok P Γg:=by
 refine ⟨p,λs r l vs N I X Φ w hS c g=>?_⟩;obtain ⟨v,j,D,C,B,A,z,y,N2,rfl,⟨x,rfl,rfl,rfl,rfl,rfl⟩,⟨rfl,rfl,rfl,rfl,rfl⟩,d,rfl,rfl⟩:=hS;obtain ⟨hn,rfl⟩:=hm s r l;have hx:x=s:=by have d:[(⟨.i .i64,s⟩:cr)]=[⟨.i .i64,x⟩]:=d;simp only [qa,and_true] at d;cases d;rfl
 subst hx;obtain ⟨u,q⟩:=abz.1 hn;have c:Sat Φ w:=c;obtain ⟨i,hi⟩:=List.getElem?_of_mem (g _ h);obtain ⟨_,t,fr,hb⟩:=c.gl0 hi;have a:Lib.TabIs P w "internal/strconv.uint64pow10" .u64 Lib.pow10Tab:=by unfold Lib.TabIs World.var?;rw [o,ht];simp [hb]
 refine Calls.mono (Any.strconv_Itoa L x u q w a) ?_;rintro e w' ⟨rfl,k,os,rfl⟩;refine ⟨[],[],[⟨.s,Lib.itoa x⟩],[],[],[],[],[],⟨_,rfl,rfl,rfl,rfl,rfl⟩,⟨rfl,rfl,rfl,rfl⟩,rfl,?_⟩;refine Sat.ext (Γ:=Φ) c ⟨rfl,rfl,rfl,?_,λb hb=>?_⟩
 .simp [Sort.grow,World.drewN]
 .simp [Sort.grow,World.drewN,Array.getElem?_append,hb]
open Go.Proofs Go.Shelf Go.Lib Go.Sort
section
variable {P : Program} {E : Env} {w : World} {dst : zf} {ty : TypeId} {pos : String} {af : zh} {gd : w4} {g : Bool}
theorem Qj{x y:Operand}{p:Addr}{len m bytes:Nat}{z:Value}{t e:TypeId}{k:IntKind}{h:Int}(ht:P.underlying t=some (.array len e))(b:TI P e m bytes z)(l:0<=h)(j:h<=len)
  (hx:ar E g x (.pointer (some p))) (i:ar E g y (.int k h)):
  bc P E g ⟨dst,.slice t x none (some y) none,ty,pos,af,gd⟩ w (.slice (some p) h.toNat len):=
 λn' a f d=>by obtain ⟨n,c,o,_,_⟩:=b.out;simp [execOp,hx n' a f d,i n' a f d,Instr.sliceAt,run_underlying ht,Instr.sureAddr,Instr.sliceBounds,run_sliceBound,sizeOf,typeInfo,c,Addr.add,l,j]
end
theorem aiF{M:Nat->Prop}{w:World}{b u c:Nat}{a:Array UInt8}{cs:zb}{e:TypeId}{fr:Nat×Nat}(g:¬M b)(hb:w.heap[b]? =some (.cells cs e fr))(m:nDigits u<=24)(d:cs.size=24)
  (f:∀j,j<nDigits u->cs[j]? =some (Value.int .u8 ((a[j]!).toNat:Int))) (hk:FmtInv (nDigits u) u 0 c a):
  bT (RI .u8) M w (.slice (some ⟨b,0,none⟩) (nDigits u) 24) (aQ (decDigits u)):=by
 have hl:(aQ (decDigits u)).length=nDigits u:=by simp [aQ,decDigits_length]
 refine .inr ⟨b,0,24,cs,e,fr,by rw [hl],g,hb,by omega,by show 0+24*1<=_;omega,?_⟩;rw [hl];refine ⟨?_,λi hi=>?_⟩
 .rw [hl];show (List.take (nDigits u*1) (List.drop 0 cs.toList)).length=nDigits u*1;simp only [dq,j0,fi];omega
 .rw [hl] at hi;have o:=f i hi;show ((List.drop (i*1) (List.take (nDigits u*1) (List.drop 0 cs.toList))).take 1)=[Value.int .u8 _];have n:(List.take (nDigits u*1) (List.drop 0 cs.toList))[i]? =some (Value.int .u8 ((a[i]!).toNat:Int)):=by rw [qk,du (by omega),n9];simpa using o
  obtain ⟨l,k⟩:=List.getElem?_eq_some_iff.1 n;rw [Nat.mul_one,nJ l,k];have h:=row_is_numeral hk i (by rw [decDigits_length];exact hi);simp only [aQ,List.getElem_map,h];rfl
theorem ard{P:Program}{Γ:Ctx}{w:World}{G:Nat}{tab:zl}(c:P.globalNamed "internal/strconv.uint64pow10" =some G) (a:gl G (tab.map (Value.int .u64))∈Γ) (ht:Lib.pow10Tab=tab) (b:Sat Γ w):
  Lib.TabIs P w "internal/strconv.uint64pow10" .u64 Lib.pow10Tab:=by
 obtain ⟨i,hi⟩:=List.getElem?_of_mem a;obtain ⟨_,t,fr,hb⟩:=b.gl0 hi;unfold Lib.TabIs World.var?;rw [c,ht];simp [hb]
set_option maxRecDepth 10000 in
theorem aiv{P:Program}{ρ:Go.Shelf.Ren}(L:Go.Proofs.LaysM.n288 P ρ){G:Nat}{tab:zl}(Y:P.globalNamed "internal/strconv.uint64pow10" =some G) (ht:Lib.pow10Tab=tab)
  {Φ:Ctx} (E:gl G (tab.map (Value.int .u64))∈Φ) {u:Nat} (H:u<18446744073709551616) {v:jU} {l:zl} {R:zm} {w:World} (Q:Sat (jW (RI .u8) (ρ.t 5) (sl v) l R::Φ) w) (d:aH (l.length+24) 1=true):
  jJ P (ρ.f 288) [sl v,.int .u64 (u:Int),.int .i64 10] w λm w'=>∃(p:jU) (D:zm),m=sl p/\Sat (jW (RI .u8) (ρ.t 5) (sl p) (l++aQ (decDigits u)) D::Φ) w':=by
 have C:Enters P (ρ.f 283):=enters_of L.f283 (by kernel_rfl) rfl;have B:Enters P (ρ.f 284):=enters_of L.f284 (by kernel_rfl) rfl;have z:Enters P (ρ.f 285):=enters_of L.f285 (by kernel_rfl) rfl;have o:TI P (ρ.t 5) 1 1 (.int .u8 0):=by
  have:=L.i5;unfold TI;cases hi:P.info? (ρ.t 5) with
  |none=>rw [hi] at this;cases this
  |some i=>rw [hi] at this;simp only [mj,ej,q7] at this ⊢; exact ⟨this.2.1,this.2.2,this.1⟩
 have r:TI P (ρ.t 171) 24 24 (.agg zeros24):=by
  have:=L.i171;unfold TI;cases hi:P.info? (ρ.t 171) with
  |none=>rw [hi] at this;cases this
  |some i=>rw [hi] at this;simp only [mj,ej,q7] at this ⊢; exact ⟨this.2.1,this.2.2,this.1⟩
 simp only [aH,au] at d;have V:=ei d.1;have q:∀k,k<=20->aH (l.length+k) 1=true:=λk hk=>by simp only [aH,au];exact ⟨qI (by omega),qI (by omega)⟩
 have hd:=nDigits_le20 u H;refine nB L.f288 rfl rfl rfl<|bq<|bp<|aL (dp ar.c) rfl rfl rfl rfl<|cg<|aZ<|bq<|bq<|bp<|aL (aM (ar.t rfl)) rfl rfl rfl rfl<|aL (xu (ar.t rfl) ar.c) rfl rfl rfl rfl<|cg<|aZ<|lj (ar.t rfl) (λ_=>?_) (λh=>by cases h);refine bq<|bq<|bp<|aL (aM (ar.t rfl)) rfl rfl rfl rfl<|aL (aee (ar.t rfl) ar.c) rfl rfl rfl rfl<|cg<|aZ<|lj (ar.t rfl) (λh=>?_) (λh=>?_)
 . -- small
  have a:u<100:=by have:=qB h;omega
  refine bq<|bp ?_;have U:IntKind.i64.wrap (u:Int)=(u:Int):=bB (by omega);refine aL (aM (ar.t rfl)) rfl rfl rfl rfl<|aL (aM (ar.t rfl)) rfl rfl rfl rfl<|aL (ab8 L.t53 L.t3 (ar.t rfl)) rfl rfl rfl rfl<|?_;rw [U];refine WZ (first:=[]) (cap:=[]) (vs:=[.int .i64 (u:Int)]) (args:=[.int .i64 (u:Int)]) (xs:=[.tmp 15]) (S:=λm w'=>m=S (decDigits u)/\w'=w) C ar.f (kr.cons (ar.t rfl) kr.nil) rfl rfl ?_ ?_
  .refine Calls.mono (Any.internal_strconv_small { L with } u a w) ?_;rintro e w' ⟨rfl,rfl⟩;exact ⟨rfl,rfl⟩
  .rintro m w' ⟨rfl,rfl⟩;refine afC Q 0 rfl L.t37 L.t9 o (ar.t rfl) (ar.t rfl) (q _ (by rw [decDigits_length];exact hd)) rfl ?_;intro p D w' J;refine aL (dp (ar.t rfl)) rfl rfl rfl rfl<|cg<|aZ<|BY ?_
   repeat refine vW ?_
   refine Uq rfl (nS.t rfl) ?_;exact ⟨p,D,rfl,J⟩
 . -- large
  have a:100<=u:=by have:=of_decide_eq_false h;omega
  refine u5<|aZ<|bq<|bp<|amJ (zs:=zeros24.toList) Q r (by simp [Value.cells]) rfl ?_;intro b w1 s;refine cg<|aZ<|bq<|bp<|aL (aM (ar.t rfl)) rfl rfl rfl rfl<|WZ (first:=[]) (cap:=[]) (vs:=[.int .u64 (u:Int)]) (args:=[.int .u64 (u:Int)]) (xs:=[.tmp 18]) (S:=λm w'=>m= .int .i64 (nDigits u:Int)/\w'=w1) B ar.f (kr.cons (ar.t rfl) kr.nil) rfl rfl ?_ ?_
  .refine Calls.mono (Any.internal_strconv_numDigits { L with } u (by omega) H w1 (ard Y (cp _ (cp _ E)) ht s)) ?_;rintro e w' ⟨rfl,rfl⟩;exact ⟨rfl,rfl⟩
  rintro m O ⟨rfl,F⟩;obtain rfl:w1=O:=F.symm;refine aL (dp (ar.t rfl)) rfl rfl rfl rfl<|cg<|aZ<|bq<|bp<|aL (aM (ar.t rfl)) rfl rfl rfl rfl<|aL (Qj L.t171 o (by omega) (by omega) (ar.t rfl) (ar.t rfl)) rfl rfl rfl rfl<|aL (aM (ar.t rfl)) rfl rfl rfl rfl<|?_;rw [gx];refine WZ (first:=[]) (cap:=[]) (vs:=[.slice (some ⟨b,0,none⟩) (nDigits u) 24,.int .u64 (u:Int)]) (args:=[.slice (some ⟨b,0,none⟩) (nDigits u) 24,.int .u64 (u:Int)]) (xs:=[.tmp 21,.tmp 22])
   (S:=λ_ w'=>Sat (LS (LP (RI .u8)) [.slice (some ⟨b,0,none⟩) (nDigits u) 24] (aQ (decDigits u))::jW (RI .u8) (ρ.t 5) (sl v) l R::Φ) w') z ar.f ?_ rfl rfl ?_ ?_
  .exact kr.cons (ar.t rfl) (kr.cons (ar.t rfl) kr.nil)
  .have N:=s.box (i:=0) rfl;have g:w1.heap[b]? =some (.cells zeros24.toList.toArray (ρ.t 171) (0,0)):=N;have Z:Holds (λ(b:UInt8)=>Value.int .u8 (b.toNat:Int)) w1 b 0 (Array.replicate (nDigits u) (0:UInt8)):=λj M=>by
    have X:j<nDigits u:=by simpa using M
    refine ⟨?_,?_⟩
    .simp only [World.cell?,g,mN];rw [getElem!_pos _ j M];simpa using zeros24_at j (by omega)
    .simp [World.frozen?,g]
   have key:=Any.internal_strconv_formatBase10 (P:=P) (ρ:=ρ) { L with } b 0 24 u (Array.replicate (nDigits u) (0:UInt8)) w1 Z (by rw [wb];exact lt_pow_nDigits u) H (by rw [wb];omega);rw [wb] at key;refine Calls.mono key ?_;rintro e w' ⟨rfl,n,m,T,rfl,hk⟩;have hp:∀k,((putRow (λ(b:UInt8)=>Value.int .u8 (b.toNat:Int)) w1 b 0 T).drewN n).heap[k]? =if k=b then some (.cells (putCells (λ(b:UInt8)=>Value.int .u8 (b.toNat:Int)) 0 T zeros24.toList.toArray) (ρ.t 171) (0,0)) else w1.heap[k]? :=λk=>by
    simp only [World.drewN,putRow,mapBlock,vc];by_cases hk:k=b
    .subst hk;simp [g,onCells]
    .rw [dk hk,dk (λe=>hk e.symm)]
   refine s.mM (i:=0) (new:=LS (LP (RI .u8)) [.slice (some ⟨b,0,none⟩) (nDigits u) 24] (aQ (decDigits u))) rfl ⟨rfl,rfl,rfl,?_,λk W K=>?_⟩ (λb hb=>by cases hb) (λM' hm x=>?_)
   .simp [World.drewN,putRow,mapBlock]
   .rw [hp,dk (by simpa [box] using K)]
   .refine bT.rsl (aiF (x b (by simp [box]) (by simp [LS])) (by rw [hp,du rfl]) (by omega) (by simp [putCells,zeros24]) (λj M=>?_) hk);have h1:=hk.size;have h2:zeros24[j]? =some (Value.int .u8 0):=zeros24_at j (by omega);simp only [putCells,Array.getElem?_mapIdx];rw [show zeros24.toList.toArray=zeros24 by simp,h2];simp only [mj,pF,true_and,Nat.sub_zero];rw [du (by omega)]
  .intro m O y;refine cg<|aZ<|bq<|bp<|aL (aM (ar.t rfl)) rfl rfl rfl rfl<|aL (aM (ar.t rfl)) rfl rfl rfl rfl<|aL (Qj L.t171 o (by omega) (by omega) (ar.t rfl) (ar.t rfl)) rfl rfl rfl rfl<|?_;rw [gx];refine aiD y 1 rfl L.t37 o rfl rfl (ar.t rfl) (ar.t rfl) (y.sl (i:=0) rfl) (q _ (by simp [aQ,decDigits_length];exact hd)) rfl ?_;intro p D w3 I;refine aL (dp (ar.t rfl)) rfl rfl rfl rfl<|cg<|aZ<|BY ?_
   repeat refine vW ?_
   refine Uq rfl (nS.t rfl) ?_;exact ⟨p,D,rfl,Sat.Bx (A:=[LS (LP (RI .u8)) [.slice (some ⟨b,0,none⟩) (nDigits u) 24] (aQ (decDigits u))]) I⟩
theorem akN{P:Program}{Γg:Ctx}{ρ:Go.Shelf.Ren}(L:Go.Proofs.LaysM.n288 P ρ)(hE:Enters P (ρ.f 288)){G:Nat}{tab:zl}(hg:P.globalNamed "internal/strconv.uint64pow10" =some G) (C:gl G (tab.map (Value.int .u64))∈Γg) (ht:Lib.pow10Tab=tab)
  (m:zl->Int->Int->Option zl) (hm:∀l u b r,m l u b=some r->b=10/\0<=u/\u<=18446744073709551615/\aH (l.length+24) 1=true/\r=l++aQ (decDigits u.toNat)):
  (⟨ρ.f 288,[.own (.i .u8) (ρ.t 5) true,.int .u64,.int .i64],.own (.i .u8) (ρ.t 5) true,[],λs=>m s.1 s.2.1 s.2.2⟩:aA).Ok P Γg:=by
 refine ⟨hE,λs r Z vs N I X Φ w hS F z=>?_⟩;obtain ⟨v1,T,D1,D2,I1,I2,X1,X2,N1,rfl,⟨a,l,rfl,_,rfl,rfl,rfl,rfl,_⟩,⟨v2,S,D3,D4,I3,I4,X3,X4,N2,rfl,⟨u,rfl,rfl,rfl,rfl,rfl⟩,⟨v3,R,D5,D6,I5,I6,X5,X6,N3,rfl,⟨b,rfl,rfl,rfl,rfl,rfl⟩,⟨rfl,rfl,rfl,rfl,rfl⟩,rfl,rfl,rfl⟩,rfl,rfl,rfl⟩,k,rfl,rfl⟩:=hS;obtain ⟨g,j,o⟩:=s;obtain ⟨hb,h0,h1,e,rfl⟩:=hm g j o r Z;have k:[(⟨.l (.i .u8),g⟩:cr),⟨.i .u64,j⟩,⟨.i .i64,o⟩]=[⟨.l (.i .u8),l⟩,⟨.i .u64,u⟩,⟨.i .i64,b⟩]:=k;simp only [qa,and_true] at k;obtain ⟨K,J,H⟩:=k;have W:g=l:=by cases K;rfl
 have V:j=u:=by cases J;rfl
 have U:o=b:=by cases H;rfl
 subst W V U;subst hb;obtain ⟨n,rfl⟩:∃n:Nat,j=(n:Int):=⟨j.toNat,(Int.toNat_of_nonneg h0).symm⟩;have F:Sat (uf (RI .u8) (ρ.t 5) a.v g True::Φ) w:=F;have E:Sat (jW (RI .u8) (ρ.t 5) (sl a.v) g (BO a.v)::Φ) w:=Sat.Hl (A:=[]) F ⟨λ_ h=>h,λM w h=>h.1⟩;refine jJ.mono (aiv L hg ht (z _ C) (u:=n) (by omega) E e) ?_;rintro v w' ⟨p,O,rfl,c⟩;obtain ⟨Y,Q⟩:∃Y:zl,Y=List.append (α:=Int) g (aQ (decDigits n)):=⟨_,rfl⟩;have c:Sat (jW (RI .u8) (ρ.t 5) (sl p) Y O::Φ) w':=by rw [Q];exact c
 refine ⟨[a,{ dA with v:=p,y:=⟨.l (.i .u8),Y⟩ }],[a,{ dA with v:=p,y:=⟨.l (.i .u8),Y⟩ }],[⟨.l (.i .u8),Y⟩],[],[(true,uf (RI .u8) (ρ.t 5) p Y True)],[],[],[],
  ⟨{ dA with v:=p,y:=⟨.l (.i .u8),Y⟩ },Y,rfl,(λq h=>by cases h),rfl,rfl,rfl,rfl,rfl⟩,⟨rfl,rfl,rfl,rfl⟩,by rw [Q];rfl,?_⟩
 have hO:=c.own (i:=0) rfl;have d:=hO.canon;have D:=Sat.nc (A:=[jW (RI .u8) (ρ.t 5) (sl p) Y O]) (B:=Φ) c [jH] (λit bI=>by rw [List.mem_singleton.1 bI];exact ⟨rfl,λ_ _=>trivial⟩);exact Sat.Hl (A:=[]) (B:=jH::Φ) (x:=jW (RI .u8) (ρ.t 5) (sl p) Y O) D ⟨λb hb=>d.1 b hb,λM w h=>⟨d.2 M w h,trivial⟩⟩
end Go.Proofs.YtcgihjbfppkcfaaGreatDoor
namespace Go.Proofs
open Go.Shelf
def Tryz.P7:Go.Shelf.Ren:=⟨λ| 288=>110|283=>117|284=>118|285=>119|286=>120|129=>126|317=>125|318=>127|319=>128|320=>129|337=>134|338=>135|n=>n,λ| 37=>74|53=>27|3=>3|4=>4|9=>9|171=>225|0=>0|173=>228|212=>236|51=>237|5=>5|20=>20|213=>238|46=>239|232=>252|233=>253|n=>n,λ| 17=>0|18=>1|19=>2|n=>n⟩
theorem Tryz.aqe:Go.Proofs.LaysM.n288 Tryz.prog Tryz.P7:={
 mixed:=by kernel_rfl
 f129:=Tryz.func126.trans (congrArg some (by kernel_rfl))
 f283:=Tryz.func117.trans (congrArg some (by kernel_rfl))
 f284:=Tryz.func118.trans (congrArg some (by kernel_rfl))
 f285:=Tryz.func119.trans (congrArg some (by kernel_rfl))
 f286:=Tryz.func120.trans (congrArg some (by kernel_rfl))
 f288:=Tryz.func110.trans (congrArg some (by kernel_rfl))
 f317:=Tryz.func125.trans (congrArg some (by kernel_rfl))
 f318:=Tryz.func127.trans (congrArg some (by kernel_rfl))
 f319:=Tryz.func128.trans (congrArg some (by kernel_rfl))
 f320:=Tryz.func129.trans (congrArg some (by kernel_rfl))
 f337:=Tryz.func134.trans (congrArg some (by kernel_rfl))
 f338:=Tryz.func135.trans (congrArg some (by kernel_rfl))
 t0:=Tryz.underlying0
 a0:=Tryz.isAgg0
 z0:=Tryz.sizeOf0
 v0:=Tryz.zeroValue0
 t3:=Tryz.underlying3
 a3:=Tryz.isAgg3
 z3:=Tryz.sizeOf3
 v3:=Tryz.zeroValue3
 t4:=Tryz.underlying4
 a4:=Tryz.isAgg4
 z4:=Tryz.sizeOf4
 v4:=Tryz.zeroValue4
 t5:=Tryz.underlying5
 a5:=Tryz.isAgg5
 z5:=Tryz.sizeOf5
 v5:=Tryz.zeroValue5
 t9:=Tryz.underlying9
 a9:=Tryz.isAgg9
 z9:=Tryz.sizeOf9
 v9:=Tryz.zeroValue9
 t20:=Tryz.underlying20
 a20:=Tryz.isAgg20
 z20:=Tryz.sizeOf20
 v20:=Tryz.zeroValue20
 t37:=Tryz.underlying74
 a37:=Tryz.isAgg74
 z37:=Tryz.sizeOf74
 v37:=Tryz.zeroValue74
 t46:=Tryz.underlying239
 a46:=Tryz.isAgg239
 z46:=Tryz.sizeOf239
 v46:=Tryz.zeroValue239
 t51:=Tryz.underlying237
 a51:=Tryz.isAgg237
 z51:=Tryz.sizeOf237
 v51:=Tryz.zeroValue237
 t53:=Tryz.underlying27
 a53:=Tryz.isAgg27
 z53:=Tryz.sizeOf27
 v53:=Tryz.zeroValue27
 t171:=Tryz.underlying225
 a171:=Tryz.isAgg225
 z171:=Tryz.sizeOf225
 v171:=Tryz.zeroValue225
 t173:=Tryz.underlying228
 a173:=Tryz.isAgg228
 z173:=Tryz.sizeOf228
 v173:=Tryz.zeroValue228
 t212:=Tryz.underlying236
 a212:=Tryz.isAgg236
 z212:=Tryz.sizeOf236
 v212:=Tryz.zeroValue236
 t213:=Tryz.underlying238
 a213:=Tryz.isAgg238
 z213:=Tryz.sizeOf238
 t232:=Tryz.underlying252
 a232:=Tryz.isAgg252
 z232:=Tryz.sizeOf252
 v232:=Tryz.zeroValue252
 t233:=Tryz.underlying253
 a233:=Tryz.isAgg253
 z233:=Tryz.sizeOf253
 v233:=Tryz.zeroValue253
 g17:=by kernel_rfl
 g18:=by kernel_rfl
 g19:=by kernel_rfl
 i0:=by kernel_rfl
 i3:=by kernel_rfl
 i4:=by kernel_rfl
 i5:=by kernel_rfl
 i9:=by kernel_rfl
 i20:=by kernel_rfl
 i37:=by kernel_rfl
 i46:=by kernel_rfl
 i51:=by kernel_rfl
 i53:=by kernel_rfl
 i171:=by kernel_rfl
 i173:=by kernel_rfl
 i212:=by kernel_rfl
 i232:=by kernel_rfl
 i233:=by kernel_rfl
 m17:=by kernel_rfl
 m18:=by kernel_rfl
 m19:=by kernel_rfl }
end Go.Proofs
namespace Go.Proofs.YtcgihjbfppkcfaaGreatDoor
variable {w : World}
open Go.Proofs
namespace I261
theorem yJ:TI Tryz.prog 384 2 16 (.agg #[(.int .u8 0),(.int .i64 0)]):=by unfold TI;kernel_rfl
set_option maxRecDepth 100000 in
theorem yC{w w':World}{p q:Option Addr}{n c m e:Nat}{d:Value}(hn:n<=c)(hm:0<m)(i:(Builtin.append_ #[271,271] 271 #[.slice p n c,.slice q m e]).run Tryz.prog w= .ok d w'):
  jJ Tryz.prog 261 [.slice p n c,.int .i64 (n:Int),.slice q m e] w (λr w1=>r=d/\w1=w'):=by
 have g:((m:Int)==0)=false:=by simp;omega
 have f:((n:Int)==(n:Int))=true:=by simp
 obtain ⟨b,a⟩:∃b,aa4 (.slice p n c) (n:Int) ((n:Nat):Int) 2 b:=⟨_,_,_,_,rfl,by omega,qc _,qc _,hn,rfl⟩;refine nB Tryz.func261 rfl Tryz.ntmps261 rfl<|bq<|bp<|aL (dp ar.c) rfl rfl rfl rfl<|cg<|aZ<|bq<|bp<|aL (aM (ar.t rfl)) rfl rfl rfl rfl<|aL (aM (ar.t rfl)) rfl rfl rfl rfl<|aL (He (lo:=some (.tmp 11)) (hi:=none) Tryz.underlying271 yJ (ar.t rfl) (λ_=>⟨_,_,rfl⟩) ⟨_,(ar.t rfl)⟩ rfl (λ_=>a)) rfl rfl rfl rfl<|?_;refine cg ?_;refine aZ<|bq<|bp<|aL (aM (ar.t rfl)) rfl rfl rfl rfl<|aL (sg Tryz.underlying271 (ar.t rfl) (λ_=>⟨_,_,rfl⟩)) rfl rfl rfl rfl<|aL (dp (ar.t rfl)) rfl rfl rfl rfl<|?_;refine cg ?_;refine aZ<|bq<|bq<|bp<|aL (aM (ar.t rfl)) rfl rfl rfl rfl<|aL (bc.XH (xu (ar.t rfl) ar.c) g) rfl rfl rfl rfl<|cg<|aZ<|lj (ar.t rfl) (λh=>by cases h) (λ_=>?_);refine u5<|aZ<|bq<|bp<|aL (aM (ar.t rfl)) rfl rfl rfl rfl<|aL (sg Tryz.underlying271 (ar.t rfl) (λ_=>⟨_,_,rfl⟩)) rfl rfl rfl rfl<|aL (dp (ar.t rfl)) rfl rfl rfl rfl<|?_;refine cg ?_;refine aZ<|bq<|bq<|bp<|aL (aM (ar.t rfl)) rfl rfl rfl rfl<|aL (aM (ar.t rfl)) rfl rfl rfl rfl<|aL (bc.XH (xu (ar.t rfl) (ar.t rfl)) f) rfl rfl rfl rfl<|cg<|aZ<|lj (ar.t rfl) (λ_=>?_) (λh=>by cases h);refine bq<|bp<|aL (aM (ar.t rfl)) rfl rfl rfl rfl<|aL (aM (ar.t rfl)) rfl rfl rfl rfl<|yI (Qy (ar.t rfl) (ar.t rfl) i) rfl rfl rfl rfl<|aL (dp (ar.t rfl)) rfl rfl rfl rfl<|cg<|aZ<|BY<|vW<|Uq rfl (nS.t rfl) ?_;exact ⟨rfl,rfl⟩
set_option maxRecDepth 100000 in
theorem Wz{w:World}{b p n c i m G:Nat}{cur d:zb}{ev:TypeId}(Y:i<n)(hm:0<m)(M:n+m<=c)(hc:c<=9223372036854775807)(H:p≠b)
  (hb:w.heap[b]? =some (.cells cur 384 (0,0))) (K:cur.size=c*2) (f:w.heap[p]? =some (.cells d ev (0,0))) (X:m*2<=d.size) (Z:∀v∈cur.toList.take (n*2),v.oneCell'=true) (Q:∀v∈d.toList.take (m*2),v.oneCell'=true):
  jJ Tryz.prog 261 [.slice (some ⟨b,0,none⟩) n c,.int .i64 (i:Int),.slice (some ⟨p,0,none⟩) m G] w (λr w1=>r= .slice (some ⟨b,0,none⟩) (n+m) c/\mO [b] w w1/\∃cur':zb,w1.heap[b]? =some (.cells cur' 384 (0,0))/\cur'.size=c*2/\cur'.toList.take ((n+m)*2)=(cur.toList.take (n*2)).take (i*2)++d.toList.take (m*2)++(cur.toList.take (n*2)).drop (i*2)):=by
 have V:((m:Int)==0)=false:=by simp;omega
 have U:((i:Int)==(n:Int))=false:=by simp;omega
 have S:IntKind.i64.wrap ((n:Int)+(m:Int))=((n+m:Nat):Int):=by rw [bB (by omega)];omega
 have R:IntKind.i64.wrap ((i:Int)+(m:Int))=((i+m:Nat):Int):=by rw [bB (by omega)];omega
 have a3:IntKind.i64.wrap (((n+m:Nat):Int)-(i:Int))=((n+m-i:Nat):Int):=by rw [bB (by omega)];omega
 have hl:cur.toList.length=c*2:=by rw [fi,K]
 have s:(d.toList.take (m*2)).length=m*2:=by rw [dq,fi];omega
 have T:decide ((c:Int)<((n+m:Nat):Int))=false:=by simp;omega
 have hC:mO [b] w w:=(Ext.refl w).xt _;have N:∀I J,(callFunc 266 [.slice (some ⟨p,0,none⟩) m G,.slice (some ⟨b,0+(i+m)*2,none⟩) I J].toArray).run Tryz.prog w= .ok (.value (.bool false)) w:=λI J=>by rw [run_callFunc_extern Tryz.func266 (by kernel_rfl) (by kernel_rfl) (by kernel_rfl) (e:=Extern.SlicesOverlaps.overlaps #[271,271] #[4]) (by kernel_rfl)];have:=Lib.run_overlaps_apart (P:=Tryz.prog) w 271 4 384 Tryz.underlying271 2 (λw=>by obtain ⟨i',O,L,_,_⟩:=yJ.out;simp [sizeOf,typeInfo,O,L]) ⟨p,0,none⟩ ⟨b,0+(i+m)*2,none⟩ m G I J H ev 384 d.size cur.size (by unfold World.shape?;rw [f]) (by unfold World.shape?;rw [hb]) (by omega) (by unfold World.frozen?;rw [f];rfl) (by unfold World.frozen?;rw [f];simp);show ((Extern.SlicesOverlaps.overlaps #[271,271] #[4] #[.slice (some ⟨p,0,none⟩) m G,.slice (some ⟨b,0+(i+m)*2,none⟩) I J]).run Tryz.prog w).andThen _=_;rw [this];rfl
 obtain ⟨x,j,g⟩:=aiG (l:=cur.toList) (vs:=d.toList.take (m*2)) (a:=i*2) (b:=m*2) (n:=n*2) (c:=c*2) (by omega) s (by omega) hl;have A:((cur.toList.drop (i*2)).take (n*2-i*2)).length=n*2-i*2:=by rw [dq,j0];omega
 obtain ⟨k,C⟩:∃k:zb,k=(cur.toList.take (i*2+m*2)++(cur.toList.drop (i*2)).take (n*2-i*2)++cur.toList.drop (i*2+m*2+((cur.toList.drop (i*2)).take (n*2-i*2)).length)).toArray:=⟨_,rfl⟩;have y:k.toList=cur.toList.take (i*2+m*2)++(cur.toList.drop (i*2)).take (n*2-i*2)++cur.toList.drop (i*2+m*2+((cur.toList.drop (i*2)).take (n*2-i*2)).length):=by rw [C]
 rw [<-y] at x j g;obtain ⟨D,B⟩:∃D:zb,D=(k.toList.take (i*2)++d.toList.take (m*2)++k.toList.drop (i*2+(d.toList.take (m*2)).length)).toArray:=⟨_,rfl⟩;have u:D.toList=k.toList.take (i*2)++d.toList.take (m*2)++k.toList.drop (i*2+(d.toList.take (m*2)).length):=by rw [B]
 rw [<-u] at j g;rw [fi] at x j;rw [show n*2+m*2=(n+m)*2 by omega] at g;have F:∀W:World,W.heap[b]? =some (.cells cur 384 (0,0))->∀ty dc sc,(Builtin.copy_ #[271,271] ty #[.slice (some ⟨b,0+(i+m)*2,none⟩) (n+m-(i+m)) dc,.slice (some ⟨b,0+i*2,none⟩) (n+m-i) sc]).run Tryz.prog W= .ok (goInt (Nat.min (n+m-i) (n+m-(i+m)))) (W.setRow b k):=λW hb ty dc sc=>by
  have o:Nat.min (n+m-i) (n+m-(i+m))=n-i:=by simp only [Nat.min_def];split <;> omega
  rw [C,show i*2+m*2=0+(i+m)*2 by omega];exact wq Tryz.underlying271 yJ (by rw [A,o];omega) (cell_of_heap hb _ _ (by rw [A,mN])) hb (by rw [A];omega) (λv f=>Z v (by rw [<-qy] at f;exact qY f))
 have E:∀W:World,W.heap[b]? =some (.cells k 384 (0,0))->W.heap[p]? =some (.cells d ev (0,0))->∀ty dc,(Builtin.copy_ #[271,271] ty #[.slice (some ⟨b,0+i*2,none⟩) (n+m-i) dc,.slice (some ⟨p,0,none⟩) m G]).run Tryz.prog W= .ok (goInt (Nat.min m (n+m-i))) (W.setRow b D):=λW hb f ty dc=>by
  have o:Nat.min m (n+m-i)=m:=by simp only [Nat.min_def];split <;> omega
  rw [B,mN];exact wq Tryz.underlying271 yJ (by rw [s,o]) (cell_of_heap f _ _ (by rw [s,n9])) hb (by rw [s];omega) Q
 clear C B y u;refine nB Tryz.func261 rfl Tryz.ntmps261 rfl<|bq<|bp<|aL (dp ar.c) rfl rfl rfl rfl<|cg<|aZ<|bq<|bp<|aL (aM (ar.t rfl)) rfl rfl rfl rfl<|aL (aM (ar.t rfl)) rfl rfl rfl rfl<|aL (sB Tryz.underlying271 yJ (ar.t rfl) (ar.t rfl) (by omega) (by omega) (by omega)) rfl rfl rfl rfl<|?_;refine cg ?_;refine aZ<|bq<|bp<|aL (aM (ar.t rfl)) rfl rfl rfl rfl<|aL (sg Tryz.underlying271 (ar.t rfl) (λ_=>⟨_,_,rfl⟩)) rfl rfl rfl rfl<|aL (dp (ar.t rfl)) rfl rfl rfl rfl<|?_;refine cg ?_;refine aZ<|bq<|bq<|bp<|aL (aM (ar.t rfl)) rfl rfl rfl rfl<|aL (bc.XH (xu (ar.t rfl) ar.c) V) rfl rfl rfl rfl<|cg<|aZ<|lj (ar.t rfl) (λh=>by cases h) (λ_=>?_);refine u5<|aZ<|bq<|bp<|aL (aM (ar.t rfl)) rfl rfl rfl rfl<|aL (sg Tryz.underlying271 (ar.t rfl) (λ_=>⟨_,_,rfl⟩)) rfl rfl rfl rfl<|aL (dp (ar.t rfl)) rfl rfl rfl rfl<|?_;refine cg ?_;refine aZ<|bq<|bq<|bp<|aL (aM (ar.t rfl)) rfl rfl rfl rfl<|aL (aM (ar.t rfl)) rfl rfl rfl rfl<|aL (bc.XH (xu (ar.t rfl) (ar.t rfl)) U) rfl rfl rfl rfl<|cg<|aZ<|lj (ar.t rfl) (λh=>by cases h) (λ_=>?_);refine u5<|aZ<|bq<|bq<|bp<|aL (aM (ar.t rfl)) rfl rfl rfl rfl<|aL (aM (ar.t rfl)) rfl rfl rfl rfl<|aL (bc.Yj (xz (ar.t rfl) (ar.t rfl)) S) rfl rfl rfl rfl<|aL (aM (ar.t rfl)) rfl rfl rfl rfl<|aL (Xf Tryz.underlying271 (ar.t rfl)) rfl rfl rfl rfl<|aL (bc.XH (WX (ar.t rfl) (ar.t rfl)) T) rfl rfl rfl rfl<|cg<|aZ<|lj (ar.t rfl) (λh=>by cases h) (λ_=>?_);refine u5<|aZ<|bq<|bp<|aL (aM (ar.t rfl)) rfl rfl rfl rfl<|aL (aM (ar.t rfl)) rfl rfl rfl rfl<|aL (aM (ar.t rfl)) rfl rfl rfl rfl<|aL (bc.Yj (xz (ar.t rfl) (ar.t rfl)) S) rfl rfl rfl rfl<|aL (aam Tryz.underlying271 yJ (ar.t rfl) (ar.t rfl) (by omega)) rfl rfl rfl rfl<|aL (dp (ar.t rfl)) rfl rfl rfl rfl<|?_;refine cg ?_;refine aZ<|bq<|bq<|bp<|aL (aM (ar.t rfl)) rfl rfl rfl rfl<|aL (aM (ar.t rfl)) rfl rfl rfl rfl<|aL (aM (ar.t rfl)) rfl rfl rfl rfl<|aL (aM (ar.t rfl)) rfl rfl rfl rfl<|aL (bc.Yj (xz (ar.t rfl) (ar.t rfl)) R) rfl rfl rfl rfl<|aL (sB Tryz.underlying271 yJ (ar.t rfl) (ar.t rfl) (by omega) (by omega) (by omega)) rfl rfl rfl rfl<|aL (afM (xs:=[(.tmp 61),(.tmp 66)]) (.cons (ar.t rfl) (.cons (ar.t rfl) .nil)) (N _ _)) rfl rfl rfl rfl<|aL (Zy (ar.t rfl)) rfl rfl rfl rfl<|?_;refine cg ?_;refine aZ<|lj (ar.t rfl) (λ_=>?_) (λh=>by cases h);refine bq<|yv [0,0,0,6,9,0,0,96,144] (.q 0 0 (.q 1 1 (.q 2 3 (.q 3 7 (.q 4 15 (.q 5 31 (.q 6 63 (.q 7 127 (.l 8 255 .nil))))))))) (by kernel_rfl) (by kernel_rfl) ?_;intro w1 z;replace hb:=(z.block _ (Array.getElem?_eq_some_iff.1 hb).1).trans hb;replace f:=(z.block _ (Array.getElem?_eq_some_iff.1 f).1).trans f;replace hC:=hC.trans (z.xt _);refine jP (λ_=>(aM (ar.t rfl))) rfl rfl rfl rfl<|jP (λ_=>(aM (ar.t rfl))) rfl rfl rfl rfl<|jP (λ_=>(aM (ar.t rfl))) rfl rfl rfl rfl<|jP (λ_=>(bc.Yj (xz (ar.t rfl) (ar.t rfl)) R)) rfl rfl rfl rfl<|jP (λ_=>(sB Tryz.underlying271 yJ (ar.t rfl) (ar.t rfl) (by omega) (by omega) (by omega))) rfl rfl rfl rfl<|jP (λ_=>(aM (ar.t rfl))) rfl rfl rfl rfl<|jP (λ_=>(aM (ar.t rfl))) rfl rfl rfl rfl<|jP (λ_=>(sB Tryz.underlying271 yJ (ar.t rfl) (ar.t rfl) (by omega) (by omega) (by omega))) rfl rfl rfl rfl<|?_;refine aeD (pend':=[]) rfl (by kernel_rfl) ?_;refine yI (BT (ar.t rfl) (ar.t rfl) (F _ hb _ _ _)) rfl rfl rfl rfl ?_;replace hb:=setRow_heap _ b cur k 384 (0,0) hb;replace f:=(setRow_other _ b p k H).trans f;replace hC:=hC.trans (yt b k);refine cg<|aoG abU<|ai5<|aZ<|bq<|bp<|aL (aM (ar.t rfl)) rfl rfl rfl rfl<|aL (aM (ar.t rfl)) rfl rfl rfl rfl<|aL (sB Tryz.underlying271 yJ (ar.t rfl) (ar.t rfl) (by omega) (by omega) (by omega)) rfl rfl rfl rfl<|aL (aM (ar.t rfl)) rfl rfl rfl rfl<|?_;refine yI (BT (ar.t rfl) (ar.t rfl) (E _ hb f _ _)) rfl rfl rfl rfl ?_;replace hb:=setRow_heap _ b k D 384 (0,0) hb;replace hC:=hC.trans (yt b D);refine cg<|aZ<|bq<|bp<|aL (aM (ar.t rfl)) rfl rfl rfl rfl<|aL (dp (ar.t rfl)) rfl rfl rfl rfl<|cg<|aZ<|BY<|vW<|Uq rfl (nS.t rfl) ?_;exact ⟨rfl,hC,D,hb,j,g⟩
set_option maxRecDepth 100000 in
theorem atK{w:World}{b J n c i m mc:Nat}{cur d:zb}{ev:TypeId}(hin:i<n)(hm:0<m)(hnc:n<=c)(hroom:c<n+m)(R:(n+m)*16<=140737488355328)
  (hb:w.heap[b]? =some (.cells cur 384 (0,0))) (hsz:cur.size=c*2) (g:w.heap[J]? =some (.cells d ev (0,0))) (hvs:m*2<=d.size) (h1:∀v∈cur.toList.take (n*2),v.oneCell'=true) (h1v:∀v∈d.toList.take (m*2),v.oneCell'=true):
  jJ Tryz.prog 261 [.slice (some ⟨b,0,none⟩) n c,.int .i64 (i:Int),.slice (some ⟨J,0,none⟩) m mc] w (λr w1=>r= .slice (some ⟨w.heap.size,0,none⟩) (n+m) (grownCap w (n+m) c 384)/\mO [w.heap.size] w w1/\∃cur':zb,w1.heap[w.heap.size]? =some (.cells cur' 384 (0,0))/\cur'.size=grownCap w (n+m) c 384*2/\cur'.toList.take ((n+m)*2)=(cur.toList.take (n*2)).take (i*2)++d.toList.take (m*2)++(cur.toList.take (n*2)).drop (i*2)):=by
 have z1:((m:Int)==0)=false:=by simp;omega
 have z2:((i:Int)==(n:Int))=false:=by simp;omega
 have a1:IntKind.i64.wrap ((n:Int)+(m:Int))=((n+m:Nat):Int):=by rw [bB (by omega)];omega
 have a2:IntKind.i64.wrap ((i:Int)+(m:Int))=((i+m:Nat):Int):=by rw [bB (by omega)];omega
 have a3:IntKind.i64.wrap (((n+m:Nat):Int)-(i:Int))=((n+m-i:Nat):Int):=by rw [bB (by omega)];omega
 have hl:cur.toList.length=c*2:=by rw [fi,hsz]
 have s:(d.toList.take (m*2)).length=m*2:=by rw [dq,fi];omega
 have z3:decide ((c:Int)<((n+m:Nat):Int))=true:=by simp;omega
 have hbN:b≠w.heap.size:=by have:=(Array.getElem?_eq_some_iff.1 hb).1;omega
 have hvN:J≠w.heap.size:=by have:=(Array.getElem?_eq_some_iff.1 g).1;omega
 obtain ⟨i0,hi0,hs0,S,Z⟩:=yJ.out;have Q:(cur.toList.take (n*2)).length=n*2:=by rw [dq];omega
 have D:((cur.toList.take (n*2)).take (i*2)).length=i*2:=by rw [dq];omega
 have u:(Builtin.firstCells i0.size i (.slice (some ⟨b,0,none⟩) i c)).run Tryz.prog w.drew= .ok ((cur.toList.take (n*2)).take (i*2)).toArray w.drew:=by rw [hs0];exact run_firstCells_some w.drew 2 i ⟨b,0,none⟩ i c _ (by rw [D]) (cell_of_heap (w:=w.drew) hb 0 _ (by rw [D,n9,qH,iQ (by omega)]))
 have e:=Lib.run_append_grow_zeros (P:=Tryz.prog) w 271 3 271 384 i0 _ .i64 .i64 Tryz.underlying271 Tryz.underlying3 hi0 Z (some ⟨b,0,none⟩) i c _ u (n+m-i) (by omega) (by omega) (by omega) (by omega) (by rw [S];omega) (by rw [S];exact growslice_fits (by omega) (by rw [show i+(n+m-i)=n+m by omega];exact R));rw [show i+(n+m-i)=n+m by omega] at e;obtain ⟨G,hG⟩:∃G,G=grownCap w (n+m) c 384:=⟨_,rfl⟩;have hGn:n+m<=G:=by rw [hG];exact grownCap_ge w _ _ _
 have hG63:G<=9223372036854775807:=by have:=grownCap_le_maxLen w (n+m) c 384 (by unfold maxLen;omega);rw [<-hG] at this;unfold maxLen at this;omega
 rw [<-hG] at e ⊢;obtain ⟨M,A⟩:∃M:zc,M=(Builtin.zeroCells ((.agg #[(.int .u8 0),(.int .i64 0)]):Value).cells (n+m-i)++Builtin.zeroCells ((.agg #[(.int .u8 0),(.int .i64 0)]):Value).cells (G-(n+m))).toList:=⟨_,rfl⟩;have B:M.length=(G-i)*2:=by have Y:((.agg #[(.int .u8 0),(.int .i64 0)]):Value).cells.size=2:=rfl;rw [A,fi,qW,size_zeroCells,size_zeroCells,Y];omega
 obtain ⟨f,H⟩:∃f:zb,f=((cur.toList.take (n*2)).take (i*2)).toArray++Builtin.zeroCells ((.agg #[(.int .u8 0),(.int .i64 0)]):Value).cells (n+m-i)++Builtin.zeroCells ((.agg #[(.int .u8 0),(.int .i64 0)]):Value).cells (G-(n+m)):=⟨_,rfl⟩;rw [<-H] at e;have o:f.toList=(cur.toList.take (n*2)).take (i*2)++M:=by rw [H,A];simp
 have V:f.size=G*2:=by have:=congrArg List.length o;rw [fi,eF,D,B] at this;omega
 have hrz:(Builtin.append_ #[271,3] 271 #[.slice (some ⟨b,0,none⟩) i c,.int .i64 ((n+m-i:Nat):Int)]).run Tryz.prog w= .ok (.slice (some ⟨w.heap.size,0,none⟩) (n+m) G) (w.drew.alloc (.cells f 384)):=e;obtain ⟨X,L,K⟩:=alK (l:=cur.toList.take (n*2)) (vs:=d.toList.take (m*2)) (z:=M) (a:=i*2) (b:=m*2) (n:=n*2) (by omega) s Q (by rw [B];omega);rw [<-o] at X L K;obtain ⟨j,F⟩:∃j:zb,j=(f.toList.take (i*2)++d.toList.take (m*2)++f.toList.drop (i*2+(d.toList.take (m*2)).length)).toArray:=⟨_,rfl⟩;have y:j.toList=f.toList.take (i*2)++d.toList.take (m*2)++f.toList.drop (i*2+(d.toList.take (m*2)).length):=by rw [F]
 rw [<-y] at X L K;have C:((cur.toList.take (n*2)).drop (i*2)).length=n*2-i*2:=by rw [j0,Q]
 obtain ⟨I,E⟩:∃I:zb,I=(j.toList.take (i*2+m*2)++(cur.toList.take (n*2)).drop (i*2)++j.toList.drop (i*2+m*2+((cur.toList.take (n*2)).drop (i*2)).length)).toArray:=⟨_,rfl⟩;have x:I.toList=j.toList.take (i*2+m*2)++(cur.toList.take (n*2)).drop (i*2)++j.toList.drop (i*2+m*2+((cur.toList.take (n*2)).drop (i*2)).length):=by rw [E]
 rw [<-x] at L K;rw [fi,fi,V] at X L;rw [show n*2+m*2=(n+m)*2 by omega] at K;have U:=L;have T:=K;have O:∀W:World,W.heap[w.heap.size]? =some (.cells f 384 (0,0))->W.heap[J]? =some (.cells d ev (0,0))->∀ty dc,(Builtin.copy_ #[271,271] ty #[.slice (some ⟨w.heap.size,0+i*2,none⟩) (n+m-i) dc,.slice (some ⟨J,0,none⟩) m mc]).run Tryz.prog W= .ok (goInt (Nat.min m (n+m-i))) (W.setRow w.heap.size j):=λW hN g ty dc=>by
  have k:Nat.min m (n+m-i)=m:=by simp only [Nat.min_def];split <;> omega
  rw [F,mN];exact wq Tryz.underlying271 yJ (by rw [s,k]) (cell_of_heap g _ _ (by rw [s,n9])) hN (by rw [s];omega) h1v
 have N:∀W:World,W.heap[w.heap.size]? =some (.cells j 384 (0,0))->W.heap[b]? =some (.cells cur 384 (0,0))->∀ty dc sc,(Builtin.copy_ #[271,271] ty #[.slice (some ⟨w.heap.size,0+(i+m)*2,none⟩) (n+m-(i+m)) dc,.slice (some ⟨b,0+i*2,none⟩) (n-i) sc]).run Tryz.prog W= .ok (goInt (Nat.min (n-i) (n+m-(i+m)))) (W.setRow w.heap.size I):=λW hN hb ty dc sc=>by
  have k:Nat.min (n-i) (n+m-(i+m))=n-i:=by simp only [Nat.min_def];split <;> omega
  rw [E,show i*2+m*2=0+(i+m)*2 by omega];exact wq Tryz.underlying271 yJ (by rw [C,k];omega) (cell_of_heap hb _ _ (by rw [C,mN,qy])) hN (by rw [C];omega) (λv g=>h1 v (qY g))
 have hC:mO [w.heap.size] w (w.drew.alloc (.cells f 384)):=⟨rfl,rfl,rfl,by simp,λb hb _=>heap_alloc_old w.drew _ hb⟩;clear F E y x H o A B X L K e u;refine nB Tryz.func261 rfl Tryz.ntmps261 rfl<|bq<|bp<|aL (dp ar.c) rfl rfl rfl rfl<|cg<|aZ<|bq<|bp<|aL (aM (ar.t rfl)) rfl rfl rfl rfl<|aL (aM (ar.t rfl)) rfl rfl rfl rfl<|aL (sB Tryz.underlying271 yJ (ar.t rfl) (ar.t rfl) (by omega) (by omega) (by omega)) rfl rfl rfl rfl<|?_;refine cg ?_;refine aZ<|bq<|bp<|aL (aM (ar.t rfl)) rfl rfl rfl rfl<|aL (sg Tryz.underlying271 (ar.t rfl) (λ_=>⟨_,_,rfl⟩)) rfl rfl rfl rfl<|aL (dp (ar.t rfl)) rfl rfl rfl rfl<|?_;refine cg ?_;refine aZ<|bq<|bq<|bp<|aL (aM (ar.t rfl)) rfl rfl rfl rfl<|aL (bc.XH (xu (ar.t rfl) ar.c) z1) rfl rfl rfl rfl<|cg<|aZ<|lj (ar.t rfl) (λh=>by cases h) (λ_=>?_);refine u5<|aZ<|bq<|bp<|aL (aM (ar.t rfl)) rfl rfl rfl rfl<|aL (sg Tryz.underlying271 (ar.t rfl) (λ_=>⟨_,_,rfl⟩)) rfl rfl rfl rfl<|aL (dp (ar.t rfl)) rfl rfl rfl rfl<|?_;refine cg ?_;refine aZ<|bq<|bq<|bp<|aL (aM (ar.t rfl)) rfl rfl rfl rfl<|aL (aM (ar.t rfl)) rfl rfl rfl rfl<|aL (bc.XH (xu (ar.t rfl) (ar.t rfl)) z2) rfl rfl rfl rfl<|cg<|aZ<|lj (ar.t rfl) (λh=>by cases h) (λ_=>?_);refine u5<|aZ<|bq<|bq<|bp<|aL (aM (ar.t rfl)) rfl rfl rfl rfl<|aL (aM (ar.t rfl)) rfl rfl rfl rfl<|aL (bc.Yj (xz (ar.t rfl) (ar.t rfl)) a1) rfl rfl rfl rfl<|aL (aM (ar.t rfl)) rfl rfl rfl rfl<|aL (Xf Tryz.underlying271 (ar.t rfl)) rfl rfl rfl rfl<|aL (bc.XH (WX (ar.t rfl) (ar.t rfl)) z3) rfl rfl rfl rfl<|cg<|aZ<|lj (ar.t rfl) (λ_=>?_) (λh=>by cases h);refine bq<|bp<|aL (aM (ar.t rfl)) rfl rfl rfl rfl<|aL (aM (ar.t rfl)) rfl rfl rfl rfl<|aL (aam Tryz.underlying271 yJ (ar.t rfl) (ar.t rfl) (by omega)) rfl rfl rfl rfl<|aL (aM (ar.t rfl)) rfl rfl rfl rfl<|aL (aM (ar.t rfl)) rfl rfl rfl rfl<|aL (bc.Yj (xz (ar.t rfl) (ar.t rfl)) a1) rfl rfl rfl rfl<|aL (aM (ar.t rfl)) rfl rfl rfl rfl<|aL (bc.Yj (ae5 (ar.t rfl) (ar.t rfl)) a3) rfl rfl rfl rfl<|?_;refine yI (Qy (ar.t rfl) (ar.t rfl) hrz) rfl rfl rfl rfl ?_;have hN:=heap_alloc_new w.drew (.cells f 384);replace hb:=(heap_alloc_old w.drew (.cells f 384) (Array.getElem?_eq_some_iff.1 hb).1).trans hb;replace g:=(heap_alloc_old w.drew (.cells f 384) (Array.getElem?_eq_some_iff.1 g).1).trans g;refine aL (dp (ar.t rfl)) rfl rfl rfl rfl<|cg<|aZ<|bq<|bp<|aL (aM (ar.t rfl)) rfl rfl rfl rfl<|aL (aM (ar.t rfl)) rfl rfl rfl rfl<|aL (sB Tryz.underlying271 yJ (ar.t rfl) (ar.t rfl) (by omega) (by omega) (by omega)) rfl rfl rfl rfl<|aL (aM (ar.t rfl)) rfl rfl rfl rfl<|?_;refine yI (BT (ar.t rfl) (ar.t rfl) (O _ hN g _ _)) rfl rfl rfl rfl ?_;replace hC:=hC.trans (yt w.heap.size j);replace hN:=setRow_heap _ w.heap.size f j 384 (0,0) hN;replace hb:=(setRow_other _ w.heap.size b j hbN).trans hb;replace g:=(setRow_other _ w.heap.size J j hvN).trans g;refine cg<|aZ<|bq<|yv [0,0,0,6,9,0,0,96,144] (.q 0 0 (.q 1 1 (.q 2 3 (.q 3 7 (.q 4 15 (.q 5 31 (.q 6 63 (.q 7 127 (.l 8 255 .nil))))))))) (by kernel_rfl) (by kernel_rfl) ?_;intro w1 p;replace hN:=(p.block _ (Array.getElem?_eq_some_iff.1 hN).1).trans hN;replace hb:=(p.block _ (Array.getElem?_eq_some_iff.1 hb).1).trans hb;replace g:=(p.block _ (Array.getElem?_eq_some_iff.1 g).1).trans g;replace hC:=hC.trans (p.xt _);refine jP (λ_=>(aM (ar.t rfl))) rfl rfl rfl rfl<|jP (λ_=>(aM (ar.t rfl))) rfl rfl rfl rfl<|jP (λ_=>(aM (ar.t rfl))) rfl rfl rfl rfl<|jP (λ_=>(bc.Yj (xz (ar.t rfl) (ar.t rfl)) a2)) rfl rfl rfl rfl<|jP (λ_=>(sB Tryz.underlying271 yJ (ar.t rfl) (ar.t rfl) (by omega) (by omega) (by omega))) rfl rfl rfl rfl<|jP (λ_=>(aM (ar.t rfl))) rfl rfl rfl rfl<|jP (λ_=>(aM (ar.t rfl))) rfl rfl rfl rfl<|jP (λ_=>(sB Tryz.underlying271 yJ (ar.t rfl) (ar.t rfl) (by omega) (by omega) (by omega))) rfl rfl rfl rfl<|?_;refine aeD (pend':=[]) rfl (by kernel_rfl) ?_;refine yI (BT (ar.t rfl) (ar.t rfl) (N _ hN hb _ _ _)) rfl rfl rfl rfl ?_;replace hC:=hC.trans (yt w.heap.size I);replace hN:=setRow_heap _ w.heap.size j I 384 (0,0) hN;refine cg<|aoG abU<|ai5<|aZ<|bq<|bp<|aL (aM (ar.t rfl)) rfl rfl rfl rfl<|aL (dp (ar.t rfl)) rfl rfl rfl rfl<|cg<|aZ<|BY<|vW<|Uq rfl (nS.t rfl) ?_;exact ⟨rfl,hC,I,hN,U,T⟩
theorem Zt{Φ:Ctx}{v P:jU}{xs ys:xb}{R Ry:zm}{i:Int}(H:Sat (jW (RP (RI .u8) (RI .i64)) 384 (sl v) xs R::jW (RP (RI .u8) (RI .i64)) 384 (sl P) ys Ry::Φ) w)(J:ys≠[])(hi:CF i xs.length=true)(g:aH (xs.length+ys.length) 16=true):
  jJ Tryz.prog 261 [sl v,.int .i64 i,sl P] w (λr w'=>∃(p:jU) (T:zm),r=sl p/\Sat (jW (RP (RI .u8) (RI .i64)) 384 (sl p) (nc xs i ys) T::LS (LP (RP (RI .u8) (RI .i64))) [sl P] ys::Φ) w'):=by
 obtain ⟨hi0,hi1⟩:=aaK.1 hi;obtain ⟨k,rfl⟩:∃k:Nat,i=k:=⟨i.toNat,by omega⟩;have hk:k<=xs.length:=by omega
 have B:0<ys.length:=List.length_pos_iff.2 J;have hO:=H.own (i:=0) rfl;obtain ⟨p,c,G,F⟩:=hO.shape;obtain ⟨Q,mc,j,l,Y,K,hmc,_,A,u⟩:=(H.own (i:=1) rfl).row J;have mono:∀{S S':Value->World->Prop} {args},jJ Tryz.prog 261 args w S->(∀r w',S r w'->S' r w')->jJ Tryz.prog 261 args w S':=λh hS=>o8.mono h hS (λ_ _ h=>h);by_cases L:k=xs.length
 . -- at the end
  subst L;have o:=H.freeze (i:=1) rfl;have o:Sat (jW (RP (RI .u8) (RI .i64)) 384 (sl v) xs R::LS (LP (RP (RI .u8) (RI .i64))) [sl P] ys::Φ) w:=o;obtain ⟨Z,T,w',hr,hC,O,hP⟩:=af3 (t:=271) (ty:=271) Tryz.underlying271 yJ rfl (by decide) (o.own (i:=0) rfl) (o.sl (i:=1) rfl) (λb hb=>Ctx.lh (i:=0) rfl hb) g;have hS:=o.mM (i:=0) rfl (new:=jW (RP (RI .u8) (RI .i64)) 384 Z (xs++ys) T) hC O (λM' m _=>hP M' m);have U:∃p,Z=sl p:=by obtain ⟨a,cap,G⟩:=(hS.own (i:=0) rfl).len;exact ⟨(a,_,cap),G⟩
  obtain ⟨p',rfl⟩:=U;rw [G,l] at hr ⊢;refine mono (yC F B hr) ?_;rintro r w1 ⟨rfl,rfl⟩;rw [<-l];refine ⟨p',T,rfl,?_⟩;rw [ann];exact hS
 .have z:k<xs.length:=by omega
  have I:xs≠[]:=λh=>by rw [h] at z;simp at z
  obtain ⟨b,c,cur,G,O,hh,F,N,D,x⟩:=hO.row I;have M:c<=9223372036854775807:=by unfold maxLen at N;omega
  have V:Q≠b:=by intro e;subst e;exact H.sep 0 1 _ _ rfl rfl (by decide) Q (by show Q∈R;rw [O];simp) (by show Q∈Ry;rw [Y];simp)
  have f:=alZ (ys:=ys) hk;simp only [aH,au] at g;have X:=ei g.1;have W:=ei g.2;have hcur:c*2=cur.size:=D.symm;by_cases y:xs.length+ys.length<=c
  . -- there is room
   rw [G,l];refine mono (Wz z B y M V hh D K (by rw [show j.size=mc*2 from A];omega) x.DY u.DY) ?_;rintro r w1 ⟨rfl,hC,s,q,E,C⟩;rw [<-l];refine ⟨(some ⟨b,0,none⟩,xs.length+ys.length,c),[b],rfl,?_⟩;have hS:=H.mM (i:=0) rfl (new:=jW (RP (RI .u8) (RI .i64)) 384 (.slice (some ⟨b,0,none⟩) (xs.length+ys.length) c) (nc xs (k:Int) ys) [b]) (by show mO R w w1;rw [O];exact hC) (λd hd=>by
    have:d=b:=by simpa [jW] using hd
    subst this;exact ⟨(Array.getElem?_eq_some_iff.1 q).1,.inl (by show d∈R;rw [O];simp)⟩) (λM' m _=>by
    show cj _ _ _ _ _ _ _;rw [<-f];refine cj.mk_ q (by omega) N E ?_;rw [f];have:=(aeX (i:=k) x u).mv m;have e:s.toList.take ((xs.length+ys.length)*((RP (RI .u8) (RI .i64))).n)=(cur.toList.take (xs.length*((RP (RI .u8) (RI .i64))).n)).take (k*((RP (RI .u8) (RI .i64))).n)++j.toList.take (ys.length*((RP (RI .u8) (RI .i64))).n)++(cur.toList.take (xs.length*((RP (RI .u8) (RI .i64))).n)).drop (k*((RP (RI .u8) (RI .i64))).n):=C;rw [e];exact this)
   exact hS.freeze (i:=1) rfl
  . -- a new row
   rw [G,l];refine mono (atK z B F (by omega) X hh D K (by rw [show j.size=mc*2 from A];omega) x.DY u.DY) ?_;rintro r w1 ⟨rfl,hC,s,q,E,C⟩;rw [<-l];refine ⟨(some ⟨w.heap.size,0,none⟩,xs.length+ys.length,_),[w.heap.size],rfl,?_⟩;have hE:mO R w w1:=⟨hC.os,hC.tape,hC.output,hC.size,λd hd _=>hC.block d hd (by simp;omega)⟩;have hS:=H.mM (i:=0) rfl (new:=jW (RP (RI .u8) (RI .i64)) 384 (.slice (some ⟨w.heap.size,0,none⟩) (xs.length+ys.length) (grownCap w (xs.length+ys.length) c 384)) (nc xs (k:Int) ys) [w.heap.size]) hE (λd hd=>by
    have:d=w.heap.size:=by simpa [jW] using hd
    subst this;exact ⟨(Array.getElem?_eq_some_iff.1 q).1,.inr (cK _)⟩) (λM' m _=>by
    show cj _ _ _ _ _ _ _;rw [<-f];refine cj.mk_ (by rw [f] at *; exact q) (by rw [f];exact grownCap_ge w _ _ _) (by rw [f];exact grownCap_le_maxLen w _ c 384 (by simpa [maxLen] using W)) (by rw [f];exact E) ?_;rw [f];have:=(aeX (i:=k) x u).mv m;have e:s.toList.take ((xs.length+ys.length)*((RP (RI .u8) (RI .i64))).n)=(cur.toList.take (xs.length*((RP (RI .u8) (RI .i64))).n)).take (k*((RP (RI .u8) (RI .i64))).n)++j.toList.take (ys.length*((RP (RI .u8) (RI .i64))).n)++(cur.toList.take (xs.length*((RP (RI .u8) (RI .i64))).n)).drop (k*((RP (RI .u8) (RI .i64))).n):=C;rw [e];exact this)
   exact hS.freeze (i:=1) rfl
end I261
open Go.Lib
theorem apz{P:Program}{Γg:Ctx}{f e bytes:Nat}{t:Ty}(hE:Enters P f)
  (o:∀{Φ:Ctx} {w:World} {v C:jU} {xs ys:List t.T} {R Ry:zm} {i:Int},Sat (jW t.rep e (sl v) xs R::jW t.rep e (sl C) ys Ry::Φ) w->ys≠[]->CF i xs.length=true->aH (xs.length+ys.length) bytes=true->
   jJ P f [sl v,.int .i64 i,sl C] w (λr w'=>∃(p:jU) (n:zm),r=sl p/\Sat (jW t.rep e (sl p) (nc xs i ys) n::LS (LP t.rep) [sl C] ys::Φ) w'))
  (m:List t.T->Int->List t.T->Option (List t.T)) (hm:∀xs i ys r,m xs i ys=some r->ys≠[]/\CF i xs.length=true/\aH (xs.length+ys.length) bytes=true/\r=nc xs i ys):
  (⟨f,[.own t e true,.int .i64,.own t e true],.own t e true,[],λs=>m s.1 s.2.1 s.2.2⟩:aA).Ok P Γg:=by
 refine ⟨hE,λs r hr vs N I X Φ w hS H hΦ=>?_⟩;obtain ⟨v1,W,D1,D2,I1,I2,X1,X2,N1,rfl,⟨a,l,rfl,_,rfl,rfl,rfl,rfl,_⟩,⟨v2,V,D3,D4,I3,I4,X3,X4,N2,rfl,⟨i,rfl,rfl,rfl,rfl,rfl⟩,⟨v3,U,D5,D6,I5,I6,X5,X6,N3,rfl,⟨b,Q,rfl,_,rfl,rfl,rfl,rfl,_⟩,⟨rfl,rfl,rfl,rfl,rfl⟩,rfl,rfl,rfl⟩,rfl,rfl,rfl⟩,z,rfl,rfl⟩:=hS;obtain ⟨c,u,g⟩:=s;obtain ⟨J,hb,k,rfl⟩:=hm c u g r hr;have z:[(⟨.l t,c⟩:cr),⟨.i .i64,u⟩,⟨.l t,g⟩]=[⟨.l t,l⟩,⟨.i .i64,i⟩,⟨.l t,Q⟩]:=z;simp only [qa,and_true] at z;obtain ⟨O,L,K⟩:=z;have q1:c=l:=by cases O;rfl
 have q2:u=i:=by cases L;rfl
 have Z:g=Q:=by cases K;rfl
 subst q1 q2 Z;have H:Sat (uf t.rep e a.v c True::uf t.rep e b.v g True::Φ) w:=H;have G:Sat (jW t.rep e (sl a.v) c (BO a.v)::uf t.rep e b.v g True::Φ) w:=Sat.Hl (A:=[]) H ⟨λ_ h=>h,λM w h=>h.1⟩;have F:Sat (jW t.rep e (sl a.v) c (BO a.v)::jW t.rep e (sl b.v) g (BO b.v)::Φ) w:=Sat.Hl (A:=[jW t.rep e (sl a.v) c (BO a.v)]) G ⟨λ_ h=>h,λM w h=>h.1⟩;refine jJ.mono (o F J hb k) ?_;rintro v w' ⟨p,n,rfl,j⟩;obtain ⟨Y,S⟩:∃Y:List t.T,Y=nc c u g:=⟨_,rfl⟩;rw [<-S] at j;refine ⟨[a,b,{ dA with v:=p,y:=⟨.l t,Y⟩ }],[a,b,{ dA with v:=p,y:=⟨.l t,Y⟩ }],[⟨.l t,Y⟩],[],[(true,uf t.rep e p Y True)],[],[],[],
  ⟨{ dA with v:=p,y:=⟨.l t,Y⟩ },Y,rfl,(λq h=>by cases h),rfl,rfl,rfl,rfl,rfl⟩,⟨rfl,rfl,rfl,rfl⟩,by rw [S];rfl,?_⟩
 have hO:=j.own (i:=0) rfl;have d:=hO.canon;have E:Sat ([jW t.rep e (sl p) Y n]++jH::Φ) w':=Sat.Hl (A:=[jW t.rep e (sl p) Y n]) (B:=Φ) j ⟨(λ_ h=>nomatch h),λ_ _ _=>trivial⟩;have D:=Sat.nc (A:=[jW t.rep e (sl p) Y n]) (B:=jH::Φ) E [jH] (λit bI=>by rw [List.mem_singleton.1 bI];exact ⟨rfl,λ_ _=>trivial⟩);exact Sat.Hl (A:=[]) (B:=jH::jH::Φ) (x:=jW t.rep e (sl p) Y n) D ⟨λb hb=>d.1 b hb,λM w h=>⟨d.2 M w h,trivial⟩⟩
end Go.Proofs.YtcgihjbfppkcfaaGreatDoor
