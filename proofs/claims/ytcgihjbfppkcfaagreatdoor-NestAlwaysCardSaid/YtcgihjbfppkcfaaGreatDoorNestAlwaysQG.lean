/- Own texts for NestAlwaysQ, cut and joined by a program. -/
import Derived.Test.YtcgihjbfppkcfaaGreatDoorNestAlwaysQF
import Derived.Shelf.Strconv.Itoa3
import Derived.Ground.NamesProg
import Derived.Test.YtcgihjbfppkcfaaGreatDoorProg
import Derived.Lib.ItoaLen
set_option linter.all false
namespace Go.Proofs.YtcgihjbfppkcfaaGreatDoor
open Go.Lib
abbrev adb{R:Type}(X:Cx)(H:List Row)(fn:Func)(K:AV->aB->Option R)(st:aB):Option R:=match wS (Ij X ⟨[],H,fn.ntmps⟩ st) fn.results.toList with
 |some rs=>K (FC rs) st
 |none=>none
noncomputable def O2{R:Type}(X:Cx)(fn:Func)(args:List AV)(H:List Row)(st:aB)(K:AV->aB->Option R):Option R:=match fn.body with
 |some body=>aD (Nat.ble args.length fn.ntmps) (den X [] [] body ⟨[],H,fn.ntmps⟩ (λe st'=>match e with
  | .ret=>adb X H fn K st'
  | .nrm=>adb X H fn K st'
  |_=>none) ⟨st.c,oS 0 args,st.G,.o⟩) none
 |none=>none
theorem PO{X:Cx}{f:FuncId}{fn:Func}(k:Enters X.P f)(j:X.P.funcs[f]? =some fn)(n:X.gls=[]):(⟨f,λargs H st K=>O2 X fn args H st K⟩:UO).Ok X.P:=by
 refine ⟨k,λ{R} r args H st K ρ Φ w m h=>?_⟩;have d:O2 X fn args H st K=some r:=h;unfold O2 at d;split at d
 .rename_i body hb;obtain ⟨s,q⟩:=aI d;refine mn j hb rfl (by rw [AV.bD];exact s) ?_;have p:ay ρ [] (oS 0 args) []=iota 0 (AV.aj ρ args):=by show aF.env ρ [] (oS 0 args)++[]=_;rw [C4,ma]
  rw [<-p];have e:∀it∈X.Γ,it∈Φ:=λit bH=>by unfold Cx.Γ at bH;rw [n] at bH;cases bH
  refine gw (X:=X) (tb:=[]) (tp:=[]) (D:=[]) (fr:=⟨[],H,fn.ntmps⟩) (st:=⟨st.c,oS 0 args,st.G,.o⟩) e (λ_ h=>nomatch h) (λ_ h=>nomatch h) body m q (λx st' ρ' w' u t a b=>?_);have fin:Sat (ab ρ' [] st'.G++(ab ρ' [] H++Φ)) w'->adb X H fn K st'=some r->At (BP X.P fn (λv w'=>∃(ρ':aw) (st':aB) (av:AV),K av st'=some r/\aQ st.c ρ ρ'/\st.c<=st'.c/\av.val ρ'=v/\Sat (ab ρ' [] st'.G++(ab ρ' [] H++Φ)) w') (λ_ _=>False))   .ret fn.ntmps [] (ay ρ' [] st'.E []) w':=λb h=>by
   unfold adb at h;split at h
   next rs g=>exact agG (fr:=⟨[],H,fn.ntmps⟩) b g ⟨ρ',st',FC rs,h,u,t,rfl,b⟩
   .cases h
  cases x with
  |nrm=>exact fin b a
  |ret=>exact fin b a
  |ext i=>cases a
  |gto l=>cases a
  |jI v=>cases a
  |panE v=>cases a
  |panL v=>cases a
 .cases d
end Go.Proofs.YtcgihjbfppkcfaaGreatDoor
namespace Go.Proofs
open Go.Shelf
def Tryz.LP:Go.Shelf.Ren:=⟨λ| 171=>131|243=>137|246=>139|283=>117|284=>118|285=>119|286=>120|129=>126|317=>125|318=>127|319=>128|320=>129|337=>134|338=>135|n=>n,λ| 3=>3|9=>9|2=>2|4=>4|171=>225|0=>0|53=>27|37=>74|5=>5|173=>228|212=>236|51=>237|20=>20|213=>238|46=>239|232=>252|233=>253|n=>n,λ| 17=>0|18=>1|19=>2|n=>n⟩
theorem Tryz.ai9:Go.Proofs.LaysM.n171 Tryz.prog Tryz.LP:={
 mixed:=by kernel_rfl
 f129:=Tryz.func126.trans (congrArg some (by kernel_rfl))
 f171:=Tryz.func131.trans (congrArg some (by kernel_rfl))
 f243:=Tryz.func137.trans (congrArg some (by kernel_rfl))
 f246:=Tryz.func139.trans (congrArg some (by kernel_rfl))
 f283:=Tryz.func117.trans (congrArg some (by kernel_rfl))
 f284:=Tryz.func118.trans (congrArg some (by kernel_rfl))
 f285:=Tryz.func119.trans (congrArg some (by kernel_rfl))
 f286:=Tryz.func120.trans (congrArg some (by kernel_rfl))
 f317:=Tryz.func125.trans (congrArg some (by kernel_rfl))
 f318:=Tryz.func127.trans (congrArg some (by kernel_rfl))
 f319:=Tryz.func128.trans (congrArg some (by kernel_rfl))
 f320:=Tryz.func129.trans (congrArg some (by kernel_rfl))
 f337:=Tryz.func134.trans (congrArg some (by kernel_rfl))
 f338:=Tryz.func135.trans (congrArg some (by kernel_rfl))
 t0:=Tryz.underlying0
 a0:=Tryz.isAgg0
 z0:=Tryz.sizeOf0
 v0:=Tryz.zeroValue0
 t2:=Tryz.underlying2
 a2:=Tryz.isAgg2
 z2:=Tryz.sizeOf2
 v2:=Tryz.zeroValue2
 t3:=Tryz.underlying3
 a3:=Tryz.isAgg3
 z3:=Tryz.sizeOf3
 v3:=Tryz.zeroValue3
 t4:=Tryz.underlying4
 a4:=Tryz.isAgg4
 z4:=Tryz.sizeOf4
 v4:=Tryz.zeroValue4
 t5:=Tryz.underlying5
 a5:=Tryz.isAgg5
 z5:=Tryz.sizeOf5
 v5:=Tryz.zeroValue5
 t9:=Tryz.underlying9
 a9:=Tryz.isAgg9
 z9:=Tryz.sizeOf9
 v9:=Tryz.zeroValue9
 t20:=Tryz.underlying20
 a20:=Tryz.isAgg20
 z20:=Tryz.sizeOf20
 v20:=Tryz.zeroValue20
 t37:=Tryz.underlying74
 a37:=Tryz.isAgg74
 z37:=Tryz.sizeOf74
 v37:=Tryz.zeroValue74
 t46:=Tryz.underlying239
 a46:=Tryz.isAgg239
 z46:=Tryz.sizeOf239
 v46:=Tryz.zeroValue239
 t51:=Tryz.underlying237
 a51:=Tryz.isAgg237
 z51:=Tryz.sizeOf237
 v51:=Tryz.zeroValue237
 t53:=Tryz.underlying27
 a53:=Tryz.isAgg27
 z53:=Tryz.sizeOf27
 v53:=Tryz.zeroValue27
 t171:=Tryz.underlying225
 a171:=Tryz.isAgg225
 z171:=Tryz.sizeOf225
 v171:=Tryz.zeroValue225
 t173:=Tryz.underlying228
 a173:=Tryz.isAgg228
 z173:=Tryz.sizeOf228
 v173:=Tryz.zeroValue228
 t212:=Tryz.underlying236
 a212:=Tryz.isAgg236
 z212:=Tryz.sizeOf236
 v212:=Tryz.zeroValue236
 t213:=Tryz.underlying238
 a213:=Tryz.isAgg238
 z213:=Tryz.sizeOf238
 t232:=Tryz.underlying252
 a232:=Tryz.isAgg252
 z232:=Tryz.sizeOf252
 v232:=Tryz.zeroValue252
 t233:=Tryz.underlying253
 a233:=Tryz.isAgg253
 z233:=Tryz.sizeOf253
 v233:=Tryz.zeroValue253
 g17:=by kernel_rfl
 g18:=by kernel_rfl
 g19:=by kernel_rfl
 i0:=by kernel_rfl
 i2:=by kernel_rfl
 i3:=by kernel_rfl
 i4:=by kernel_rfl
 i5:=by kernel_rfl
 i9:=by kernel_rfl
 i20:=by kernel_rfl
 i37:=by kernel_rfl
 i46:=by kernel_rfl
 i51:=by kernel_rfl
 i53:=by kernel_rfl
 i171:=by kernel_rfl
 i173:=by kernel_rfl
 i212:=by kernel_rfl
 i232:=by kernel_rfl
 i233:=by kernel_rfl
 m17:=by kernel_rfl
 m18:=by kernel_rfl
 m19:=by kernel_rfl }
end Go.Proofs
namespace Go.Proofs.YtcgihjbfppkcfaaGreatDoor
open Go.Proofs Go.Shelf Go.Lib
theorem akk{P:Program}{Γg:Ctx}{ρ:Go.Shelf.Ren}(L:Go.Proofs.LaysM.n171 P ρ)(p:Enters P (ρ.f 171)){G:Nat}{tab:zn}(o:P.globalNamed "internal/strconv.uint64pow10" =some G) (h:gl G (tab.map (Value.int .u64))∈Γg) (ht:Lib.pow10Tab=tab)
  (m:Int->Option aE) (hm:∀n r,m n=some r->Z7 n=true/\r=Lib.itoa n):(⟨ρ.f 171,[.int .i64],.str,[],λs=>m s⟩:aC).Ok P Γg:=by
 refine ⟨p,λs r l vs N I X Φ w hS c g=>?_⟩;obtain ⟨v,j,D,C,B,A,z,y,N2,rfl,⟨x,rfl,rfl,rfl,rfl,rfl⟩,⟨rfl,rfl,rfl,rfl,rfl⟩,d,rfl,rfl⟩:=hS;obtain ⟨hn,rfl⟩:=hm s r l;have hx:x=s:=by have d:[(⟨.i .i64,s⟩:ck)]=[⟨.i .i64,x⟩]:=d;simp only [qa,and_true] at d;cases d;rfl
 subst hx;obtain ⟨u,q⟩:=Zz.1 hn;have c:Sat Φ w:=c;obtain ⟨i,hi⟩:=List.getElem?_of_mem (g _ h);obtain ⟨_,t,fr,hb⟩:=c.gl0 hi;have a:Lib.TabIs P w "internal/strconv.uint64pow10" .u64 Lib.pow10Tab:=by unfold Lib.TabIs World.var?;rw [o,ht];simp [hb]
 refine Calls.mono (Any.strconv_Itoa L x u q w a) ?_;rintro e w' ⟨rfl,k,os,rfl⟩;refine ⟨[],[],[⟨.s,Lib.itoa x⟩],[],[],[],[],[],⟨_,rfl,rfl,rfl,rfl,rfl⟩,⟨rfl,rfl,rfl,rfl⟩,rfl,?_⟩;refine Sat.ext (Γ:=Φ) c ⟨rfl,rfl,rfl,?_,λb hb=>?_⟩
 .simp [Sort.grow,World.drewN]
 .simp [Sort.grow,World.drewN,Array.getElem?_append,hb]
open Go.Proofs Go.Shelf Go.Lib Go.Sort
section
variable {P : Program} {E : Env} {w : World} {dst : zh} {ty : TypeId} {pos : String} {af : zj} {gd : xb} {g : Bool}
theorem Nf{x y:Operand}{p:Addr}{len m bytes:Nat}{z:Value}{t e:TypeId}{k:IntKind}{h:Int}(ht:P.underlying t=some (.array len e))(b:TI P e m bytes z)(l:0<=h)(j:h<=len)
  (hx:al E g x (.pointer (some p))) (i:al E g y (.int k h)):
  bc P E g ⟨dst,.slice t x none (some y) none,ty,pos,af,gd⟩ w (.slice (some p) h.toNat len):=
 λn' a f d=>by obtain ⟨n,c,o,_,_⟩:=b.out;simp [execOp,hx n' a f d,i n' a f d,Instr.sliceAt,run_underlying ht,Instr.sureAddr,Instr.sliceBounds,run_sliceBound,sizeOf,typeInfo,c,Addr.add,l,j]
end
theorem agQ{M:Nat->Prop}{w:World}{b u c:Nat}{a:Array UInt8}{cs:zd}{e:TypeId}{fr:Nat×Nat}(g:¬M b)(hb:w.heap[b]? =some (.cells cs e fr))(m:nDigits u<=24)(d:cs.size=24)
  (f:∀j,j<nDigits u->cs[j]? =some (Value.int .u8 ((a[j]!).toNat:Int))) (hk:FmtInv (nDigits u) u 0 c a):
  bS (RI .u8) M w (.slice (some ⟨b,0,none⟩) (nDigits u) 24) (aP (decDigits u)):=by
 have hl:(aP (decDigits u)).length=nDigits u:=by simp [aP,decDigits_length]
 refine .inr ⟨b,0,24,cs,e,fr,by rw [hl],g,hb,by omega,by show 0+24*1<=_;omega,?_⟩;rw [hl];refine ⟨?_,λi hi=>?_⟩
 .rw [hl];show (List.take (nDigits u*1) (List.drop 0 cs.toList)).length=nDigits u*1;simp only [dk,j5,fb];omega
 .rw [hl] at hi;have o:=f i hi;show ((List.drop (i*1) (List.take (nDigits u*1) (List.drop 0 cs.toList))).take 1)=[Value.int .u8 _];have n:(List.take (nDigits u*1) (List.drop 0 cs.toList))[i]? =some (Value.int .u8 ((a[i]!).toNat:Int)):=by rw [ql,du (by omega),p5];simpa using o
  obtain ⟨l,k⟩:=List.getElem?_eq_some_iff.1 n;rw [Nat.mul_one,pA l,k];have h:=row_is_numeral hk i (by rw [decDigits_length];exact hi);simp only [aP,List.getElem_map,h];rfl
theorem apl{P:Program}{Γ:Ctx}{w:World}{G:Nat}{tab:zn}(c:P.globalNamed "internal/strconv.uint64pow10" =some G) (a:gl G (tab.map (Value.int .u64))∈Γ) (ht:Lib.pow10Tab=tab) (b:Sat Γ w):
  Lib.TabIs P w "internal/strconv.uint64pow10" .u64 Lib.pow10Tab:=by
 obtain ⟨i,hi⟩:=List.getElem?_of_mem a;obtain ⟨_,t,fr,hb⟩:=b.gl0 hi;unfold Lib.TabIs World.var?;rw [c,ht];simp [hb]
set_option maxRecDepth 10000 in
theorem agi{P:Program}{ρ:Go.Shelf.Ren}(L:Go.Proofs.LaysM.n288 P ρ){G:Nat}{tab:zn}(Y:P.globalNamed "internal/strconv.uint64pow10" =some G) (ht:Lib.pow10Tab=tab)
  {Φ:Ctx} (E:gl G (tab.map (Value.int .u64))∈Φ) {u:Nat} (H:u<18446744073709551616) {v:ju} {l:zn} {R:zo} {w:World} (Q:Sat (jq (RI .u8) (ρ.t 5) (sl v) l R::Φ) w) (d:aH (l.length+24) 1=true):
  jg P (ρ.f 288) [sl v,.int .u64 (u:Int),.int .i64 10] w λm w'=>∃(p:ju) (D:zo),m=sl p/\Sat (jq (RI .u8) (ρ.t 5) (sl p) (l++aP (decDigits u)) D::Φ) w':=by
 have C:Enters P (ρ.f 283):=enters_of L.f283 (by kernel_rfl) rfl;have B:Enters P (ρ.f 284):=enters_of L.f284 (by kernel_rfl) rfl;have z:Enters P (ρ.f 285):=enters_of L.f285 (by kernel_rfl) rfl;have o:TI P (ρ.t 5) 1 1 (.int .u8 0):=by
  have:=L.i5;unfold TI;cases hi:P.info? (ρ.t 5) with
  |none=>rw [hi] at this;cases this
  |some i=>rw [hi] at this;simp only [og,et,q8] at this ⊢; exact ⟨this.2.1,this.2.2,this.1⟩
 have r:TI P (ρ.t 171) 24 24 (.agg zeros24):=by
  have:=L.i171;unfold TI;cases hi:P.info? (ρ.t 171) with
  |none=>rw [hi] at this;cases this
  |some i=>rw [hi] at this;simp only [og,et,q8] at this ⊢; exact ⟨this.2.1,this.2.2,this.1⟩
 simp only [aH,an] at d;have V:=er d.1;have q:∀k,k<=20->aH (l.length+k) 1=true:=λk hk=>by simp only [aH,an];exact ⟨qH (by omega),qH (by omega)⟩
 have hd:=nDigits_le20 u H;refine mn L.f288 rfl rfl rfl<|bp<|bh<|aK (db al.c) rfl rfl rfl rfl<|cd<|ba<|bp<|bp<|bh<|aK (aL (al.t rfl)) rfl rfl rfl rfl<|aK (vL (al.t rfl) al.c) rfl rfl rfl rfl<|cd<|ba<|kB (al.t rfl) (λ_=>?_) (λh=>by cases h);refine bp<|bp<|bh<|aK (aL (al.t rfl)) rfl rfl rfl rfl<|aK (acH (al.t rfl) al.c) rfl rfl rfl rfl<|cd<|ba<|kB (al.t rfl) (λh=>?_) (λh=>?_)
 . -- small
  have a:u<100:=by have:=qM h;omega
  refine bp<|bh ?_;have U:IntKind.i64.wrap (u:Int)=(u:Int):=bR (by omega);refine aK (aL (al.t rfl)) rfl rfl rfl rfl<|aK (aL (al.t rfl)) rfl rfl rfl rfl<|aK (Yq L.t53 L.t3 (al.t rfl)) rfl rfl rfl rfl<|?_;rw [U];refine RQ (first:=[]) (cap:=[]) (vs:=[.int .i64 (u:Int)]) (args:=[.int .i64 (u:Int)]) (xs:=[.tmp 15]) (S:=λm w'=>m=S (decDigits u)/\w'=w) C al.f (jV.cons (al.t rfl) jV.nil) rfl rfl ?_ ?_
  .refine Calls.mono (Any.internal_strconv_small { L with } u a w) ?_;rintro e w' ⟨rfl,rfl⟩;exact ⟨rfl,rfl⟩
  .rintro m w' ⟨rfl,rfl⟩;refine ad4 Q 0 rfl L.t37 L.t9 o (al.t rfl) (al.t rfl) (q _ (by rw [decDigits_length];exact hd)) rfl ?_;intro p D w' J;refine aK (db (al.t rfl)) rfl rfl rfl rfl<|cd<|ba<|Ao ?_
   repeat refine uF ?_
   refine QG rfl (mP.t rfl) ?_;exact ⟨p,D,rfl,J⟩
 . -- large
  have a:100<=u:=by have:=of_decide_eq_false h;omega
  refine tz<|ba<|bp<|bh<|akc (zs:=zeros24.toList) Q r (by simp [Value.cells]) rfl ?_;intro b w1 s;refine cd<|ba<|bp<|bh<|aK (aL (al.t rfl)) rfl rfl rfl rfl<|RQ (first:=[]) (cap:=[]) (vs:=[.int .u64 (u:Int)]) (args:=[.int .u64 (u:Int)]) (xs:=[.tmp 18]) (S:=λm w'=>m= .int .i64 (nDigits u:Int)/\w'=w1) B al.f (jV.cons (al.t rfl) jV.nil) rfl rfl ?_ ?_
  .refine Calls.mono (Any.internal_strconv_numDigits { L with } u (by omega) H w1 (apl Y (b7 _ (b7 _ E)) ht s)) ?_;rintro e w' ⟨rfl,rfl⟩;exact ⟨rfl,rfl⟩
  rintro m O ⟨rfl,F⟩;obtain rfl:w1=O:=F.symm;refine aK (db (al.t rfl)) rfl rfl rfl rfl<|cd<|ba<|bp<|bh<|aK (aL (al.t rfl)) rfl rfl rfl rfl<|aK (Nf L.t171 o (by omega) (by omega) (al.t rfl) (al.t rfl)) rfl rfl rfl rfl<|aK (aL (al.t rfl)) rfl rfl rfl rfl<|?_;rw [lk];refine RQ (first:=[]) (cap:=[]) (vs:=[.slice (some ⟨b,0,none⟩) (nDigits u) 24,.int .u64 (u:Int)]) (args:=[.slice (some ⟨b,0,none⟩) (nDigits u) 24,.int .u64 (u:Int)]) (xs:=[.tmp 21,.tmp 22])
   (S:=λ_ w'=>Sat (Jz (Jk (RI .u8)) [.slice (some ⟨b,0,none⟩) (nDigits u) 24] (aP (decDigits u))::jq (RI .u8) (ρ.t 5) (sl v) l R::Φ) w') z al.f ?_ rfl rfl ?_ ?_
  .exact jV.cons (al.t rfl) (jV.cons (al.t rfl) jV.nil)
  .have N:=s.box (i:=0) rfl;have g:w1.heap[b]? =some (.cells zeros24.toList.toArray (ρ.t 171) (0,0)):=N;have Z:Holds (λ(b:UInt8)=>Value.int .u8 (b.toNat:Int)) w1 b 0 (Array.replicate (nDigits u) (0:UInt8)):=λj M=>by
    have X:j<nDigits u:=by simpa using M
    refine ⟨?_,?_⟩
    .simp only [World.cell?,g,nI];rw [getElem!_pos _ j M];simpa using zeros24_at j (by omega)
    .simp [World.frozen?,g]
   have key:=Any.internal_strconv_formatBase10 (P:=P) (ρ:=ρ) { L with } b 0 24 u (Array.replicate (nDigits u) (0:UInt8)) w1 Z (by rw [w4];exact lt_pow_nDigits u) H (by rw [w4];omega);rw [w4] at key;refine Calls.mono key ?_;rintro e w' ⟨rfl,n,m,T,rfl,hk⟩;have hp:∀k,((putRow (λ(b:UInt8)=>Value.int .u8 (b.toNat:Int)) w1 b 0 T).drewN n).heap[k]? =if k=b then some (.cells (putCells (λ(b:UInt8)=>Value.int .u8 (b.toNat:Int)) 0 T zeros24.toList.toArray) (ρ.t 171) (0,0)) else w1.heap[k]? :=λk=>by
    simp only [World.drewN,putRow,mapBlock,v7];by_cases hk:k=b
    .subst hk;simp [g,onCells]
    .rw [df hk,df (λe=>hk e.symm)]
   refine s.lJ (i:=0) (new:=Jz (Jk (RI .u8)) [.slice (some ⟨b,0,none⟩) (nDigits u) 24] (aP (decDigits u))) rfl ⟨rfl,rfl,rfl,?_,λk W K=>?_⟩ (λb hb=>by cases hb) (λM' hm x=>?_)
   .simp [World.drewN,putRow,mapBlock]
   .rw [hp,df (by simpa [box] using K)]
   .refine bS.rsl (agQ (x b (by simp [box]) (by simp [Jz])) (by rw [hp,du rfl]) (by omega) (by simp [putCells,zeros24]) (λj M=>?_) hk);have h1:=hk.size;have h2:zeros24[j]? =some (Value.int .u8 0):=zeros24_at j (by omega);simp only [putCells,Array.getElem?_mapIdx];rw [show zeros24.toList.toArray=zeros24 by simp,h2];simp only [og,pF,true_and,Nat.sub_zero];rw [du (by omega)]
  .intro m O y;refine cd<|ba<|bp<|bh<|aK (aL (al.t rfl)) rfl rfl rfl rfl<|aK (aL (al.t rfl)) rfl rfl rfl rfl<|aK (Nf L.t171 o (by omega) (by omega) (al.t rfl) (al.t rfl)) rfl rfl rfl rfl<|?_;rw [lk];refine agZ y 1 rfl L.t37 o rfl rfl (al.t rfl) (al.t rfl) (y.sl (i:=0) rfl) (q _ (by simp [aP,decDigits_length];exact hd)) rfl ?_;intro p D w3 I;refine aK (db (al.t rfl)) rfl rfl rfl rfl<|cd<|ba<|Ao ?_
   repeat refine uF ?_
   refine QG rfl (mP.t rfl) ?_;exact ⟨p,D,rfl,Sat.Ac (A:=[Jz (Jk (RI .u8)) [.slice (some ⟨b,0,none⟩) (nDigits u) 24] (aP (decDigits u))]) I⟩
theorem akS{P:Program}{Γg:Ctx}{ρ:Go.Shelf.Ren}(L:Go.Proofs.LaysM.n288 P ρ)(hE:Enters P (ρ.f 288)){G:Nat}{tab:zn}(hg:P.globalNamed "internal/strconv.uint64pow10" =some G) (C:gl G (tab.map (Value.int .u64))∈Γg) (ht:Lib.pow10Tab=tab)
  (m:zn->Int->Int->Option zn) (hm:∀l u b r,m l u b=some r->b=10/\0<=u/\u<=18446744073709551615/\aH (l.length+24) 1=true/\r=l++aP (decDigits u.toNat)):
  (⟨ρ.f 288,[.own (.i .u8) (ρ.t 5) true,.int .u64,.int .i64],.own (.i .u8) (ρ.t 5) true,[],λs=>m s.1 s.2.1 s.2.2⟩:aC).Ok P Γg:=by
 refine ⟨hE,λs r Z vs N I X Φ w hS F z=>?_⟩;obtain ⟨v1,T,D1,D2,I1,I2,X1,X2,N1,rfl,⟨a,l,rfl,_,rfl,rfl,rfl,rfl,_⟩,⟨v2,S,D3,D4,I3,I4,X3,X4,N2,rfl,⟨u,rfl,rfl,rfl,rfl,rfl⟩,⟨v3,R,D5,D6,I5,I6,X5,X6,N3,rfl,⟨b,rfl,rfl,rfl,rfl,rfl⟩,⟨rfl,rfl,rfl,rfl,rfl⟩,rfl,rfl,rfl⟩,rfl,rfl,rfl⟩,k,rfl,rfl⟩:=hS;obtain ⟨g,j,o⟩:=s;obtain ⟨hb,h0,h1,e,rfl⟩:=hm g j o r Z;have k:[(⟨.l (.i .u8),g⟩:ck),⟨.i .u64,j⟩,⟨.i .i64,o⟩]=[⟨.l (.i .u8),l⟩,⟨.i .u64,u⟩,⟨.i .i64,b⟩]:=k;simp only [qa,and_true] at k;obtain ⟨K,J,H⟩:=k;have W:g=l:=by cases K;rfl
 have V:j=u:=by cases J;rfl
 have U:o=b:=by cases H;rfl
 subst W V U;subst hb;obtain ⟨n,rfl⟩:∃n:Nat,j=(n:Int):=⟨j.toNat,(Int.toNat_of_nonneg h0).symm⟩;have F:Sat (te (RI .u8) (ρ.t 5) a.v g True::Φ) w:=F;have E:Sat (jq (RI .u8) (ρ.t 5) (sl a.v) g (Aw a.v)::Φ) w:=Sat.El (A:=[]) F ⟨λ_ h=>h,λM w h=>h.1⟩;refine jg.mono (agi L hg ht (z _ C) (u:=n) (by omega) E e) ?_;rintro v w' ⟨p,O,rfl,c⟩;obtain ⟨Y,Q⟩:∃Y:zn,Y=List.append (α:=Int) g (aP (decDigits n)):=⟨_,rfl⟩;have c:Sat (jq (RI .u8) (ρ.t 5) (sl p) Y O::Φ) w':=by rw [Q];exact c
 refine ⟨[a,{ dm with v:=p,y:=⟨.l (.i .u8),Y⟩ }],[a,{ dm with v:=p,y:=⟨.l (.i .u8),Y⟩ }],[⟨.l (.i .u8),Y⟩],[],[(true,te (RI .u8) (ρ.t 5) p Y True)],[],[],[],
  ⟨{ dm with v:=p,y:=⟨.l (.i .u8),Y⟩ },Y,rfl,(λq h=>by cases h),rfl,rfl,rfl,rfl,rfl⟩,⟨rfl,rfl,rfl,rfl⟩,by rw [Q];rfl,?_⟩
 have hO:=c.own (i:=0) rfl;have d:=hO.canon;have D:=Sat.lT (A:=[jq (RI .u8) (ρ.t 5) (sl p) Y O]) (B:=Φ) c [jb] (λit bH=>by rw [List.mem_singleton.1 bH];exact ⟨rfl,λ_ _=>trivial⟩);exact Sat.El (A:=[]) (B:=jb::Φ) (x:=jq (RI .u8) (ρ.t 5) (sl p) Y O) D ⟨λb hb=>d.1 b hb,λM w h=>⟨d.2 M w h,trivial⟩⟩
end Go.Proofs.YtcgihjbfppkcfaaGreatDoor
namespace Go.Proofs
open Go.Shelf
def Tryz.Na:Go.Shelf.Ren:=⟨λ| 288=>110|283=>117|284=>118|285=>119|286=>120|129=>126|317=>125|318=>127|319=>128|320=>129|337=>134|338=>135|n=>n,λ| 37=>74|53=>27|3=>3|4=>4|9=>9|171=>225|0=>0|173=>228|212=>236|51=>237|5=>5|20=>20|213=>238|46=>239|232=>252|233=>253|n=>n,λ| 17=>0|18=>1|19=>2|n=>n⟩
theorem Tryz.anr:Go.Proofs.LaysM.n288 Tryz.prog Tryz.Na:={
 mixed:=by kernel_rfl
 f129:=Tryz.func126.trans (congrArg some (by kernel_rfl))
 f283:=Tryz.func117.trans (congrArg some (by kernel_rfl))
 f284:=Tryz.func118.trans (congrArg some (by kernel_rfl))
 f285:=Tryz.func119.trans (congrArg some (by kernel_rfl))
 f286:=Tryz.func120.trans (congrArg some (by kernel_rfl))
 f288:=Tryz.func110.trans (congrArg some (by kernel_rfl))
 f317:=Tryz.func125.trans (congrArg some (by kernel_rfl))
 f318:=Tryz.func127.trans (congrArg some (by kernel_rfl))
 f319:=Tryz.func128.trans (congrArg some (by kernel_rfl))
 f320:=Tryz.func129.trans (congrArg some (by kernel_rfl))
 f337:=Tryz.func134.trans (congrArg some (by kernel_rfl))
 f338:=Tryz.func135.trans (congrArg some (by kernel_rfl))
 t0:=Tryz.underlying0
 a0:=Tryz.isAgg0
 z0:=Tryz.sizeOf0
 v0:=Tryz.zeroValue0
 t3:=Tryz.underlying3
 a3:=Tryz.isAgg3
 z3:=Tryz.sizeOf3
 v3:=Tryz.zeroValue3
 t4:=Tryz.underlying4
 a4:=Tryz.isAgg4
 z4:=Tryz.sizeOf4
 v4:=Tryz.zeroValue4
 t5:=Tryz.underlying5
 a5:=Tryz.isAgg5
 z5:=Tryz.sizeOf5
 v5:=Tryz.zeroValue5
 t9:=Tryz.underlying9
 a9:=Tryz.isAgg9
 z9:=Tryz.sizeOf9
 v9:=Tryz.zeroValue9
 t20:=Tryz.underlying20
 a20:=Tryz.isAgg20
 z20:=Tryz.sizeOf20
 v20:=Tryz.zeroValue20
 t37:=Tryz.underlying74
 a37:=Tryz.isAgg74
 z37:=Tryz.sizeOf74
 v37:=Tryz.zeroValue74
 t46:=Tryz.underlying239
 a46:=Tryz.isAgg239
 z46:=Tryz.sizeOf239
 v46:=Tryz.zeroValue239
 t51:=Tryz.underlying237
 a51:=Tryz.isAgg237
 z51:=Tryz.sizeOf237
 v51:=Tryz.zeroValue237
 t53:=Tryz.underlying27
 a53:=Tryz.isAgg27
 z53:=Tryz.sizeOf27
 v53:=Tryz.zeroValue27
 t171:=Tryz.underlying225
 a171:=Tryz.isAgg225
 z171:=Tryz.sizeOf225
 v171:=Tryz.zeroValue225
 t173:=Tryz.underlying228
 a173:=Tryz.isAgg228
 z173:=Tryz.sizeOf228
 v173:=Tryz.zeroValue228
 t212:=Tryz.underlying236
 a212:=Tryz.isAgg236
 z212:=Tryz.sizeOf236
 v212:=Tryz.zeroValue236
 t213:=Tryz.underlying238
 a213:=Tryz.isAgg238
 z213:=Tryz.sizeOf238
 t232:=Tryz.underlying252
 a232:=Tryz.isAgg252
 z232:=Tryz.sizeOf252
 v232:=Tryz.zeroValue252
 t233:=Tryz.underlying253
 a233:=Tryz.isAgg253
 z233:=Tryz.sizeOf253
 v233:=Tryz.zeroValue253
 g17:=by kernel_rfl
 g18:=by kernel_rfl
 g19:=by kernel_rfl
 i0:=by kernel_rfl
 i3:=by kernel_rfl
 i4:=by kernel_rfl
 i5:=by kernel_rfl
 i9:=by kernel_rfl
 i20:=by kernel_rfl
 i37:=by kernel_rfl
 i46:=by kernel_rfl
 i51:=by kernel_rfl
 i53:=by kernel_rfl
 i171:=by kernel_rfl
 i173:=by kernel_rfl
 i212:=by kernel_rfl
 i232:=by kernel_rfl
 i233:=by kernel_rfl
 m17:=by kernel_rfl
 m18:=by kernel_rfl
 m19:=by kernel_rfl }
end Go.Proofs
namespace Go.Proofs.YtcgihjbfppkcfaaGreatDoor
variable {w : World}
open Go.Proofs
namespace I261
theorem wF:TI Tryz.prog 384 2 16 (.agg #[(.int .u8 0),(.int .i64 0)]):=by unfold TI;kernel_rfl
set_option maxRecDepth 100000 in
theorem vw{w w':World}{p q:Option Addr}{n c m e:Nat}{d:Value}(hn:n<=c)(hm:0<m)(i:(Builtin.append_ #[271,271] 271 #[.slice p n c,.slice q m e]).run Tryz.prog w= .ok d w'):
  jg Tryz.prog 261 [.slice p n c,.int .i64 (n:Int),.slice q m e] w (λr w1=>r=d/\w1=w'):=by
 have g:((m:Int)==0)=false:=by simp;omega
 have f:((n:Int)==(n:Int))=true:=by simp
 obtain ⟨b,a⟩:∃b,Xh (.slice p n c) (n:Int) ((n:Nat):Int) 2 b:=⟨_,_,_,_,rfl,by omega,qV _,qV _,hn,rfl⟩;refine mn Tryz.func261 rfl Tryz.ntmps261 rfl<|bp<|bh<|aK (db al.c) rfl rfl rfl rfl<|cd<|ba<|bp<|bh<|aK (aL (al.t rfl)) rfl rfl rfl rfl<|aK (aL (al.t rfl)) rfl rfl rfl rfl<|aK (EX (lo:=some (.tmp 11)) (hi:=none) Tryz.underlying271 wF (al.t rfl) (λ_=>⟨_,_,rfl⟩) ⟨_,(al.t rfl)⟩ rfl (λ_=>a)) rfl rfl rfl rfl<|?_;refine cd ?_;refine ba<|bp<|bh<|aK (aL (al.t rfl)) rfl rfl rfl rfl<|aK (pz Tryz.underlying271 (al.t rfl) (λ_=>⟨_,_,rfl⟩)) rfl rfl rfl rfl<|aK (db (al.t rfl)) rfl rfl rfl rfl<|?_;refine cd ?_;refine ba<|bp<|bp<|bh<|aK (aL (al.t rfl)) rfl rfl rfl rfl<|aK (bc.Vb (vL (al.t rfl) al.c) g) rfl rfl rfl rfl<|cd<|ba<|kB (al.t rfl) (λh=>by cases h) (λ_=>?_);refine tz<|ba<|bp<|bh<|aK (aL (al.t rfl)) rfl rfl rfl rfl<|aK (pz Tryz.underlying271 (al.t rfl) (λ_=>⟨_,_,rfl⟩)) rfl rfl rfl rfl<|aK (db (al.t rfl)) rfl rfl rfl rfl<|?_;refine cd ?_;refine ba<|bp<|bp<|bh<|aK (aL (al.t rfl)) rfl rfl rfl rfl<|aK (aL (al.t rfl)) rfl rfl rfl rfl<|aK (bc.Vb (vL (al.t rfl) (al.t rfl)) f) rfl rfl rfl rfl<|cd<|ba<|kB (al.t rfl) (λ_=>?_) (λh=>by cases h);refine bp<|bh<|aK (aL (al.t rfl)) rfl rfl rfl rfl<|aK (aL (al.t rfl)) rfl rfl rfl rfl<|xq (Nx (al.t rfl) (al.t rfl) i) rfl rfl rfl rfl<|aK (db (al.t rfl)) rfl rfl rfl rfl<|cd<|ba<|Ao<|uF<|QG rfl (mP.t rfl) ?_;exact ⟨rfl,rfl⟩
set_option maxRecDepth 100000 in
theorem OR{w:World}{b p n c i m G:Nat}{cur d:zd}{ev:TypeId}(Y:i<n)(hm:0<m)(M:n+m<=c)(hc:c<=9223372036854775807)(H:p≠b)
  (hb:w.heap[b]? =some (.cells cur 384 (0,0))) (K:cur.size=c*2) (f:w.heap[p]? =some (.cells d ev (0,0))) (X:m*2<=d.size) (Z:∀v∈cur.toList.take (n*2),v.oneCell'=true) (Q:∀v∈d.toList.take (m*2),v.oneCell'=true):
  jg Tryz.prog 261 [.slice (some ⟨b,0,none⟩) n c,.int .i64 (i:Int),.slice (some ⟨p,0,none⟩) m G] w (λr w1=>r= .slice (some ⟨b,0,none⟩) (n+m) c/\lE [b] w w1/\∃cur':zd,w1.heap[b]? =some (.cells cur' 384 (0,0))/\cur'.size=c*2/\cur'.toList.take ((n+m)*2)=(cur.toList.take (n*2)).take (i*2)++d.toList.take (m*2)++(cur.toList.take (n*2)).drop (i*2)):=by
 have V:((m:Int)==0)=false:=by simp;omega
 have U:((i:Int)==(n:Int))=false:=by simp;omega
 have S:IntKind.i64.wrap ((n:Int)+(m:Int))=((n+m:Nat):Int):=by rw [bR (by omega)];omega
 have R:IntKind.i64.wrap ((i:Int)+(m:Int))=((i+m:Nat):Int):=by rw [bR (by omega)];omega
 have a3:IntKind.i64.wrap (((n+m:Nat):Int)-(i:Int))=((n+m-i:Nat):Int):=by rw [bR (by omega)];omega
 have hl:cur.toList.length=c*2:=by rw [fb,K]
 have s:(d.toList.take (m*2)).length=m*2:=by rw [dk,fb];omega
 have T:decide ((c:Int)<((n+m:Nat):Int))=false:=by simp;omega
 have hC:lE [b] w w:=(Ext.refl w).vV _;have N:∀I J,(callFunc 266 [.slice (some ⟨p,0,none⟩) m G,.slice (some ⟨b,0+(i+m)*2,none⟩) I J].toArray).run Tryz.prog w= .ok (.value (.bool false)) w:=λI J=>by rw [run_callFunc_extern Tryz.func266 (by kernel_rfl) (by kernel_rfl) (by kernel_rfl) (e:=Extern.SlicesOverlaps.overlaps #[271,271] #[4]) (by kernel_rfl)];have:=Lib.run_overlaps_apart (P:=Tryz.prog) w 271 4 384 Tryz.underlying271 2 (λw=>by obtain ⟨i',O,L,_,_⟩:=wF.out;simp [sizeOf,typeInfo,O,L]) ⟨p,0,none⟩ ⟨b,0+(i+m)*2,none⟩ m G I J H ev 384 d.size cur.size (by unfold World.shape?;rw [f]) (by unfold World.shape?;rw [hb]) (by omega) (by unfold World.frozen?;rw [f];rfl) (by unfold World.frozen?;rw [f];simp);show ((Extern.SlicesOverlaps.overlaps #[271,271] #[4] #[.slice (some ⟨p,0,none⟩) m G,.slice (some ⟨b,0+(i+m)*2,none⟩) I J]).run Tryz.prog w).andThen _=_;rw [this];rfl
 obtain ⟨x,j,g⟩:=afS (l:=cur.toList) (vs:=d.toList.take (m*2)) (a:=i*2) (b:=m*2) (n:=n*2) (c:=c*2) (by omega) s (by omega) hl;have A:((cur.toList.drop (i*2)).take (n*2-i*2)).length=n*2-i*2:=by rw [dk,j5];omega
 obtain ⟨k,C⟩:∃k:zd,k=(cur.toList.take (i*2+m*2)++(cur.toList.drop (i*2)).take (n*2-i*2)++cur.toList.drop (i*2+m*2+((cur.toList.drop (i*2)).take (n*2-i*2)).length)).toArray:=⟨_,rfl⟩;have y:k.toList=cur.toList.take (i*2+m*2)++(cur.toList.drop (i*2)).take (n*2-i*2)++cur.toList.drop (i*2+m*2+((cur.toList.drop (i*2)).take (n*2-i*2)).length):=by rw [C]
 rw [<-y] at x j g;obtain ⟨D,B⟩:∃D:zd,D=(k.toList.take (i*2)++d.toList.take (m*2)++k.toList.drop (i*2+(d.toList.take (m*2)).length)).toArray:=⟨_,rfl⟩;have u:D.toList=k.toList.take (i*2)++d.toList.take (m*2)++k.toList.drop (i*2+(d.toList.take (m*2)).length):=by rw [B]
 rw [<-u] at j g;rw [fb] at x j;rw [show n*2+m*2=(n+m)*2 by omega] at g;have F:∀W:World,W.heap[b]? =some (.cells cur 384 (0,0))->∀ty dc sc,(Builtin.copy_ #[271,271] ty #[.slice (some ⟨b,0+(i+m)*2,none⟩) (n+m-(i+m)) dc,.slice (some ⟨b,0+i*2,none⟩) (n+m-i) sc]).run Tryz.prog W= .ok (goInt (Nat.min (n+m-i) (n+m-(i+m)))) (W.setRow b k):=λW hb ty dc sc=>by
  have o:Nat.min (n+m-i) (n+m-(i+m))=n-i:=by simp only [Nat.min_def];split <;> omega
  rw [C,show i*2+m*2=0+(i+m)*2 by omega];exact uC Tryz.underlying271 wF (by rw [A,o];omega) (cell_of_heap hb _ _ (by rw [A,nI])) hb (by rw [A];omega) (λv f=>Z v (by rw [<-qz] at f;exact qU f))
 have E:∀W:World,W.heap[b]? =some (.cells k 384 (0,0))->W.heap[p]? =some (.cells d ev (0,0))->∀ty dc,(Builtin.copy_ #[271,271] ty #[.slice (some ⟨b,0+i*2,none⟩) (n+m-i) dc,.slice (some ⟨p,0,none⟩) m G]).run Tryz.prog W= .ok (goInt (Nat.min m (n+m-i))) (W.setRow b D):=λW hb f ty dc=>by
  have o:Nat.min m (n+m-i)=m:=by simp only [Nat.min_def];split <;> omega
  rw [B,nI];exact uC Tryz.underlying271 wF (by rw [s,o]) (cell_of_heap f _ _ (by rw [s,p5])) hb (by rw [s];omega) Q
 clear C B y u;refine mn Tryz.func261 rfl Tryz.ntmps261 rfl<|bp<|bh<|aK (db al.c) rfl rfl rfl rfl<|cd<|ba<|bp<|bh<|aK (aL (al.t rfl)) rfl rfl rfl rfl<|aK (aL (al.t rfl)) rfl rfl rfl rfl<|aK (pE Tryz.underlying271 wF (al.t rfl) (al.t rfl) (by omega) (by omega) (by omega)) rfl rfl rfl rfl<|?_;refine cd ?_;refine ba<|bp<|bh<|aK (aL (al.t rfl)) rfl rfl rfl rfl<|aK (pz Tryz.underlying271 (al.t rfl) (λ_=>⟨_,_,rfl⟩)) rfl rfl rfl rfl<|aK (db (al.t rfl)) rfl rfl rfl rfl<|?_;refine cd ?_;refine ba<|bp<|bp<|bh<|aK (aL (al.t rfl)) rfl rfl rfl rfl<|aK (bc.Vb (vL (al.t rfl) al.c) V) rfl rfl rfl rfl<|cd<|ba<|kB (al.t rfl) (λh=>by cases h) (λ_=>?_);refine tz<|ba<|bp<|bh<|aK (aL (al.t rfl)) rfl rfl rfl rfl<|aK (pz Tryz.underlying271 (al.t rfl) (λ_=>⟨_,_,rfl⟩)) rfl rfl rfl rfl<|aK (db (al.t rfl)) rfl rfl rfl rfl<|?_;refine cd ?_;refine ba<|bp<|bp<|bh<|aK (aL (al.t rfl)) rfl rfl rfl rfl<|aK (aL (al.t rfl)) rfl rfl rfl rfl<|aK (bc.Vb (vL (al.t rfl) (al.t rfl)) U) rfl rfl rfl rfl<|cd<|ba<|kB (al.t rfl) (λh=>by cases h) (λ_=>?_);refine tz<|ba<|bp<|bp<|bh<|aK (aL (al.t rfl)) rfl rfl rfl rfl<|aK (aL (al.t rfl)) rfl rfl rfl rfl<|aK (bc.Vw (vT (al.t rfl) (al.t rfl)) S) rfl rfl rfl rfl<|aK (aL (al.t rfl)) rfl rfl rfl rfl<|aK (Vv Tryz.underlying271 (al.t rfl)) rfl rfl rfl rfl<|aK (bc.Vb (Uc (al.t rfl) (al.t rfl)) T) rfl rfl rfl rfl<|cd<|ba<|kB (al.t rfl) (λh=>by cases h) (λ_=>?_);refine tz<|ba<|bp<|bh<|aK (aL (al.t rfl)) rfl rfl rfl rfl<|aK (aL (al.t rfl)) rfl rfl rfl rfl<|aK (aL (al.t rfl)) rfl rfl rfl rfl<|aK (bc.Vw (vT (al.t rfl) (al.t rfl)) S) rfl rfl rfl rfl<|aK (W3 Tryz.underlying271 wF (al.t rfl) (al.t rfl) (by omega)) rfl rfl rfl rfl<|aK (db (al.t rfl)) rfl rfl rfl rfl<|?_;refine cd ?_;refine ba<|bp<|bp<|bh<|aK (aL (al.t rfl)) rfl rfl rfl rfl<|aK (aL (al.t rfl)) rfl rfl rfl rfl<|aK (aL (al.t rfl)) rfl rfl rfl rfl<|aK (aL (al.t rfl)) rfl rfl rfl rfl<|aK (bc.Vw (vT (al.t rfl) (al.t rfl)) R) rfl rfl rfl rfl<|aK (pE Tryz.underlying271 wF (al.t rfl) (al.t rfl) (by omega) (by omega) (by omega)) rfl rfl rfl rfl<|aK (adP (xs:=[(.tmp 61),(.tmp 66)]) (.cons (al.t rfl) (.cons (al.t rfl) .nil)) (N _ _)) rfl rfl rfl rfl<|aK (YR (al.t rfl)) rfl rfl rfl rfl<|?_;refine cd ?_;refine ba<|kB (al.t rfl) (λ_=>?_) (λh=>by cases h);refine bp<|wU [0,0,0,6,9,0,0,96,144] (.q 0 0 (.q 1 1 (.q 2 3 (.q 3 7 (.q 4 15 (.q 5 31 (.q 6 63 (.q 7 127 (.l 8 255 .nil))))))))) (by kernel_rfl) (by kernel_rfl) ?_;intro w1 z;replace hb:=(z.block _ (Array.getElem?_eq_some_iff.1 hb).1).trans hb;replace f:=(z.block _ (Array.getElem?_eq_some_iff.1 f).1).trans f;replace hC:=hC.trans (z.vV _);refine jl (λ_=>(aL (al.t rfl))) rfl rfl rfl rfl<|jl (λ_=>(aL (al.t rfl))) rfl rfl rfl rfl<|jl (λ_=>(aL (al.t rfl))) rfl rfl rfl rfl<|jl (λ_=>(bc.Vw (vT (al.t rfl) (al.t rfl)) R)) rfl rfl rfl rfl<|jl (λ_=>(pE Tryz.underlying271 wF (al.t rfl) (al.t rfl) (by omega) (by omega) (by omega))) rfl rfl rfl rfl<|jl (λ_=>(aL (al.t rfl))) rfl rfl rfl rfl<|jl (λ_=>(aL (al.t rfl))) rfl rfl rfl rfl<|jl (λ_=>(pE Tryz.underlying271 wF (al.t rfl) (al.t rfl) (by omega) (by omega) (by omega))) rfl rfl rfl rfl<|?_;refine ab7 (pend':=[]) rfl (by kernel_rfl) ?_;refine xq (AJ (al.t rfl) (al.t rfl) (F _ hb _ _ _)) rfl rfl rfl rfl ?_;replace hb:=setRow_heap _ b cur k 384 (0,0) hb;replace f:=(setRow_other _ b p k H).trans f;replace hC:=hC.trans (wV b k);refine cd<|al3 Y9<|agf<|ba<|bp<|bh<|aK (aL (al.t rfl)) rfl rfl rfl rfl<|aK (aL (al.t rfl)) rfl rfl rfl rfl<|aK (pE Tryz.underlying271 wF (al.t rfl) (al.t rfl) (by omega) (by omega) (by omega)) rfl rfl rfl rfl<|aK (aL (al.t rfl)) rfl rfl rfl rfl<|?_;refine xq (AJ (al.t rfl) (al.t rfl) (E _ hb f _ _)) rfl rfl rfl rfl ?_;replace hb:=setRow_heap _ b k D 384 (0,0) hb;replace hC:=hC.trans (wV b D);refine cd<|ba<|bp<|bh<|aK (aL (al.t rfl)) rfl rfl rfl rfl<|aK (db (al.t rfl)) rfl rfl rfl rfl<|cd<|ba<|Ao<|uF<|QG rfl (mP.t rfl) ?_;exact ⟨rfl,hC,D,hb,j,g⟩
set_option maxRecDepth 100000 in
theorem aqP{w:World}{b J n c i m mc:Nat}{cur d:zd}{ev:TypeId}(hin:i<n)(hm:0<m)(hnc:n<=c)(hroom:c<n+m)(R:(n+m)*16<=140737488355328)
  (hb:w.heap[b]? =some (.cells cur 384 (0,0))) (hsz:cur.size=c*2) (g:w.heap[J]? =some (.cells d ev (0,0))) (hvs:m*2<=d.size) (h1:∀v∈cur.toList.take (n*2),v.oneCell'=true) (h1v:∀v∈d.toList.take (m*2),v.oneCell'=true):
  jg Tryz.prog 261 [.slice (some ⟨b,0,none⟩) n c,.int .i64 (i:Int),.slice (some ⟨J,0,none⟩) m mc] w (λr w1=>r= .slice (some ⟨w.heap.size,0,none⟩) (n+m) (grownCap w (n+m) c 384)/\lE [w.heap.size] w w1/\∃cur':zd,w1.heap[w.heap.size]? =some (.cells cur' 384 (0,0))/\cur'.size=grownCap w (n+m) c 384*2/\cur'.toList.take ((n+m)*2)=(cur.toList.take (n*2)).take (i*2)++d.toList.take (m*2)++(cur.toList.take (n*2)).drop (i*2)):=by
 have z1:((m:Int)==0)=false:=by simp;omega
 have z2:((i:Int)==(n:Int))=false:=by simp;omega
 have a1:IntKind.i64.wrap ((n:Int)+(m:Int))=((n+m:Nat):Int):=by rw [bR (by omega)];omega
 have a2:IntKind.i64.wrap ((i:Int)+(m:Int))=((i+m:Nat):Int):=by rw [bR (by omega)];omega
 have a3:IntKind.i64.wrap (((n+m:Nat):Int)-(i:Int))=((n+m-i:Nat):Int):=by rw [bR (by omega)];omega
 have hl:cur.toList.length=c*2:=by rw [fb,hsz]
 have s:(d.toList.take (m*2)).length=m*2:=by rw [dk,fb];omega
 have z3:decide ((c:Int)<((n+m:Nat):Int))=true:=by simp;omega
 have hbN:b≠w.heap.size:=by have:=(Array.getElem?_eq_some_iff.1 hb).1;omega
 have hvN:J≠w.heap.size:=by have:=(Array.getElem?_eq_some_iff.1 g).1;omega
 obtain ⟨i0,hi0,hs0,S,Z⟩:=wF.out;have Q:(cur.toList.take (n*2)).length=n*2:=by rw [dk];omega
 have D:((cur.toList.take (n*2)).take (i*2)).length=i*2:=by rw [dk];omega
 have u:(Builtin.firstCells i0.size i (.slice (some ⟨b,0,none⟩) i c)).run Tryz.prog w.drew= .ok ((cur.toList.take (n*2)).take (i*2)).toArray w.drew:=by rw [hs0];exact run_firstCells_some w.drew 2 i ⟨b,0,none⟩ i c _ (by rw [D]) (cell_of_heap (w:=w.drew) hb 0 _ (by rw [D,p5,qG,j0 (by omega)]))
 have e:=Lib.run_append_grow_zeros (P:=Tryz.prog) w 271 3 271 384 i0 _ .i64 .i64 Tryz.underlying271 Tryz.underlying3 hi0 Z (some ⟨b,0,none⟩) i c _ u (n+m-i) (by omega) (by omega) (by omega) (by omega) (by rw [S];omega) (by rw [S];exact growslice_fits (by omega) (by rw [show i+(n+m-i)=n+m by omega];exact R));rw [show i+(n+m-i)=n+m by omega] at e;obtain ⟨G,hG⟩:∃G,G=grownCap w (n+m) c 384:=⟨_,rfl⟩;have hGn:n+m<=G:=by rw [hG];exact grownCap_ge w _ _ _
 have hG63:G<=9223372036854775807:=by have:=grownCap_le_maxLen w (n+m) c 384 (by unfold maxLen;omega);rw [<-hG] at this;unfold maxLen at this;omega
 rw [<-hG] at e ⊢;obtain ⟨M,A⟩:∃M:ze,M=(Builtin.zeroCells ((.agg #[(.int .u8 0),(.int .i64 0)]):Value).cells (n+m-i)++Builtin.zeroCells ((.agg #[(.int .u8 0),(.int .i64 0)]):Value).cells (G-(n+m))).toList:=⟨_,rfl⟩;have B:M.length=(G-i)*2:=by have Y:((.agg #[(.int .u8 0),(.int .i64 0)]):Value).cells.size=2:=rfl;rw [A,fb,qR,size_zeroCells,size_zeroCells,Y];omega
 obtain ⟨f,H⟩:∃f:zd,f=((cur.toList.take (n*2)).take (i*2)).toArray++Builtin.zeroCells ((.agg #[(.int .u8 0),(.int .i64 0)]):Value).cells (n+m-i)++Builtin.zeroCells ((.agg #[(.int .u8 0),(.int .i64 0)]):Value).cells (G-(n+m)):=⟨_,rfl⟩;rw [<-H] at e;have o:f.toList=(cur.toList.take (n*2)).take (i*2)++M:=by rw [H,A];simp
 have V:f.size=G*2:=by have:=congrArg List.length o;rw [fb,eP,D,B] at this;omega
 have hrz:(Builtin.append_ #[271,3] 271 #[.slice (some ⟨b,0,none⟩) i c,.int .i64 ((n+m-i:Nat):Int)]).run Tryz.prog w= .ok (.slice (some ⟨w.heap.size,0,none⟩) (n+m) G) (w.drew.alloc (.cells f 384)):=e;obtain ⟨X,L,K⟩:=ajV (l:=cur.toList.take (n*2)) (vs:=d.toList.take (m*2)) (z:=M) (a:=i*2) (b:=m*2) (n:=n*2) (by omega) s Q (by rw [B];omega);rw [<-o] at X L K;obtain ⟨j,F⟩:∃j:zd,j=(f.toList.take (i*2)++d.toList.take (m*2)++f.toList.drop (i*2+(d.toList.take (m*2)).length)).toArray:=⟨_,rfl⟩;have y:j.toList=f.toList.take (i*2)++d.toList.take (m*2)++f.toList.drop (i*2+(d.toList.take (m*2)).length):=by rw [F]
 rw [<-y] at X L K;have C:((cur.toList.take (n*2)).drop (i*2)).length=n*2-i*2:=by rw [j5,Q]
 obtain ⟨I,E⟩:∃I:zd,I=(j.toList.take (i*2+m*2)++(cur.toList.take (n*2)).drop (i*2)++j.toList.drop (i*2+m*2+((cur.toList.take (n*2)).drop (i*2)).length)).toArray:=⟨_,rfl⟩;have x:I.toList=j.toList.take (i*2+m*2)++(cur.toList.take (n*2)).drop (i*2)++j.toList.drop (i*2+m*2+((cur.toList.take (n*2)).drop (i*2)).length):=by rw [E]
 rw [<-x] at L K;rw [fb,fb,V] at X L;rw [show n*2+m*2=(n+m)*2 by omega] at K;have U:=L;have T:=K;have O:∀W:World,W.heap[w.heap.size]? =some (.cells f 384 (0,0))->W.heap[J]? =some (.cells d ev (0,0))->∀ty dc,(Builtin.copy_ #[271,271] ty #[.slice (some ⟨w.heap.size,0+i*2,none⟩) (n+m-i) dc,.slice (some ⟨J,0,none⟩) m mc]).run Tryz.prog W= .ok (goInt (Nat.min m (n+m-i))) (W.setRow w.heap.size j):=λW hN g ty dc=>by
  have k:Nat.min m (n+m-i)=m:=by simp only [Nat.min_def];split <;> omega
  rw [F,nI];exact uC Tryz.underlying271 wF (by rw [s,k]) (cell_of_heap g _ _ (by rw [s,p5])) hN (by rw [s];omega) h1v
 have N:∀W:World,W.heap[w.heap.size]? =some (.cells j 384 (0,0))->W.heap[b]? =some (.cells cur 384 (0,0))->∀ty dc sc,(Builtin.copy_ #[271,271] ty #[.slice (some ⟨w.heap.size,0+(i+m)*2,none⟩) (n+m-(i+m)) dc,.slice (some ⟨b,0+i*2,none⟩) (n-i) sc]).run Tryz.prog W= .ok (goInt (Nat.min (n-i) (n+m-(i+m)))) (W.setRow w.heap.size I):=λW hN hb ty dc sc=>by
  have k:Nat.min (n-i) (n+m-(i+m))=n-i:=by simp only [Nat.min_def];split <;> omega
  rw [E,show i*2+m*2=0+(i+m)*2 by omega];exact uC Tryz.underlying271 wF (by rw [C,k];omega) (cell_of_heap hb _ _ (by rw [C,nI,qz])) hN (by rw [C];omega) (λv g=>h1 v (qU g))
 have hC:lE [w.heap.size] w (w.drew.alloc (.cells f 384)):=⟨rfl,rfl,rfl,by simp,λb hb _=>heap_alloc_old w.drew _ hb⟩;clear F E y x H o A B X L K e u;refine mn Tryz.func261 rfl Tryz.ntmps261 rfl<|bp<|bh<|aK (db al.c) rfl rfl rfl rfl<|cd<|ba<|bp<|bh<|aK (aL (al.t rfl)) rfl rfl rfl rfl<|aK (aL (al.t rfl)) rfl rfl rfl rfl<|aK (pE Tryz.underlying271 wF (al.t rfl) (al.t rfl) (by omega) (by omega) (by omega)) rfl rfl rfl rfl<|?_;refine cd ?_;refine ba<|bp<|bh<|aK (aL (al.t rfl)) rfl rfl rfl rfl<|aK (pz Tryz.underlying271 (al.t rfl) (λ_=>⟨_,_,rfl⟩)) rfl rfl rfl rfl<|aK (db (al.t rfl)) rfl rfl rfl rfl<|?_;refine cd ?_;refine ba<|bp<|bp<|bh<|aK (aL (al.t rfl)) rfl rfl rfl rfl<|aK (bc.Vb (vL (al.t rfl) al.c) z1) rfl rfl rfl rfl<|cd<|ba<|kB (al.t rfl) (λh=>by cases h) (λ_=>?_);refine tz<|ba<|bp<|bh<|aK (aL (al.t rfl)) rfl rfl rfl rfl<|aK (pz Tryz.underlying271 (al.t rfl) (λ_=>⟨_,_,rfl⟩)) rfl rfl rfl rfl<|aK (db (al.t rfl)) rfl rfl rfl rfl<|?_;refine cd ?_;refine ba<|bp<|bp<|bh<|aK (aL (al.t rfl)) rfl rfl rfl rfl<|aK (aL (al.t rfl)) rfl rfl rfl rfl<|aK (bc.Vb (vL (al.t rfl) (al.t rfl)) z2) rfl rfl rfl rfl<|cd<|ba<|kB (al.t rfl) (λh=>by cases h) (λ_=>?_);refine tz<|ba<|bp<|bp<|bh<|aK (aL (al.t rfl)) rfl rfl rfl rfl<|aK (aL (al.t rfl)) rfl rfl rfl rfl<|aK (bc.Vw (vT (al.t rfl) (al.t rfl)) a1) rfl rfl rfl rfl<|aK (aL (al.t rfl)) rfl rfl rfl rfl<|aK (Vv Tryz.underlying271 (al.t rfl)) rfl rfl rfl rfl<|aK (bc.Vb (Uc (al.t rfl) (al.t rfl)) z3) rfl rfl rfl rfl<|cd<|ba<|kB (al.t rfl) (λ_=>?_) (λh=>by cases h);refine bp<|bh<|aK (aL (al.t rfl)) rfl rfl rfl rfl<|aK (aL (al.t rfl)) rfl rfl rfl rfl<|aK (W3 Tryz.underlying271 wF (al.t rfl) (al.t rfl) (by omega)) rfl rfl rfl rfl<|aK (aL (al.t rfl)) rfl rfl rfl rfl<|aK (aL (al.t rfl)) rfl rfl rfl rfl<|aK (bc.Vw (vT (al.t rfl) (al.t rfl)) a1) rfl rfl rfl rfl<|aK (aL (al.t rfl)) rfl rfl rfl rfl<|aK (bc.Vw (abd (al.t rfl) (al.t rfl)) a3) rfl rfl rfl rfl<|?_;refine xq (Nx (al.t rfl) (al.t rfl) hrz) rfl rfl rfl rfl ?_;have hN:=heap_alloc_new w.drew (.cells f 384);replace hb:=(heap_alloc_old w.drew (.cells f 384) (Array.getElem?_eq_some_iff.1 hb).1).trans hb;replace g:=(heap_alloc_old w.drew (.cells f 384) (Array.getElem?_eq_some_iff.1 g).1).trans g;refine aK (db (al.t rfl)) rfl rfl rfl rfl<|cd<|ba<|bp<|bh<|aK (aL (al.t rfl)) rfl rfl rfl rfl<|aK (aL (al.t rfl)) rfl rfl rfl rfl<|aK (pE Tryz.underlying271 wF (al.t rfl) (al.t rfl) (by omega) (by omega) (by omega)) rfl rfl rfl rfl<|aK (aL (al.t rfl)) rfl rfl rfl rfl<|?_;refine xq (AJ (al.t rfl) (al.t rfl) (O _ hN g _ _)) rfl rfl rfl rfl ?_;replace hC:=hC.trans (wV w.heap.size j);replace hN:=setRow_heap _ w.heap.size f j 384 (0,0) hN;replace hb:=(setRow_other _ w.heap.size b j hbN).trans hb;replace g:=(setRow_other _ w.heap.size J j hvN).trans g;refine cd<|ba<|bp<|wU [0,0,0,6,9,0,0,96,144] (.q 0 0 (.q 1 1 (.q 2 3 (.q 3 7 (.q 4 15 (.q 5 31 (.q 6 63 (.q 7 127 (.l 8 255 .nil))))))))) (by kernel_rfl) (by kernel_rfl) ?_;intro w1 p;replace hN:=(p.block _ (Array.getElem?_eq_some_iff.1 hN).1).trans hN;replace hb:=(p.block _ (Array.getElem?_eq_some_iff.1 hb).1).trans hb;replace g:=(p.block _ (Array.getElem?_eq_some_iff.1 g).1).trans g;replace hC:=hC.trans (p.vV _);refine jl (λ_=>(aL (al.t rfl))) rfl rfl rfl rfl<|jl (λ_=>(aL (al.t rfl))) rfl rfl rfl rfl<|jl (λ_=>(aL (al.t rfl))) rfl rfl rfl rfl<|jl (λ_=>(bc.Vw (vT (al.t rfl) (al.t rfl)) a2)) rfl rfl rfl rfl<|jl (λ_=>(pE Tryz.underlying271 wF (al.t rfl) (al.t rfl) (by omega) (by omega) (by omega))) rfl rfl rfl rfl<|jl (λ_=>(aL (al.t rfl))) rfl rfl rfl rfl<|jl (λ_=>(aL (al.t rfl))) rfl rfl rfl rfl<|jl (λ_=>(pE Tryz.underlying271 wF (al.t rfl) (al.t rfl) (by omega) (by omega) (by omega))) rfl rfl rfl rfl<|?_;refine ab7 (pend':=[]) rfl (by kernel_rfl) ?_;refine xq (AJ (al.t rfl) (al.t rfl) (N _ hN hb _ _ _)) rfl rfl rfl rfl ?_;replace hC:=hC.trans (wV w.heap.size I);replace hN:=setRow_heap _ w.heap.size j I 384 (0,0) hN;refine cd<|al3 Y9<|agf<|ba<|bp<|bh<|aK (aL (al.t rfl)) rfl rfl rfl rfl<|aK (db (al.t rfl)) rfl rfl rfl rfl<|cd<|ba<|Ao<|uF<|QG rfl (mP.t rfl) ?_;exact ⟨rfl,hC,I,hN,U,T⟩
theorem WZ{Φ:Ctx}{v P:ju}{xs ys:yx}{R Ry:zo}{i:Int}(H:Sat (jq (RP (RI .u8) (RI .i64)) 384 (sl v) xs R::jq (RP (RI .u8) (RI .i64)) 384 (sl P) ys Ry::Φ) w)(J:ys≠[])(hi:A4 i xs.length=true)(g:aH (xs.length+ys.length) 16=true):
  jg Tryz.prog 261 [sl v,.int .i64 i,sl P] w (λr w'=>∃(p:ju) (T:zo),r=sl p/\Sat (jq (RP (RI .u8) (RI .i64)) 384 (sl p) (lT xs i ys) T::Jz (Jk (RP (RI .u8) (RI .i64))) [sl P] ys::Φ) w'):=by
 obtain ⟨hi0,hi1⟩:=ZU.1 hi;obtain ⟨k,rfl⟩:∃k:Nat,i=k:=⟨i.toNat,by omega⟩;have hk:k<=xs.length:=by omega
 have B:0<ys.length:=List.length_pos_iff.2 J;have hO:=H.own (i:=0) rfl;obtain ⟨p,c,G,F⟩:=hO.shape;obtain ⟨Q,mc,j,l,Y,K,hmc,_,A,u⟩:=(H.own (i:=1) rfl).row J;have mono:∀{S S':Value->World->Prop} {args},jg Tryz.prog 261 args w S->(∀r w',S r w'->S' r w')->jg Tryz.prog 261 args w S':=λh hS=>nz.mono h hS (λ_ _ h=>h);by_cases L:k=xs.length
 . -- at the end
  subst L;have o:=H.freeze (i:=1) rfl;have o:Sat (jq (RP (RI .u8) (RI .i64)) 384 (sl v) xs R::Jz (Jk (RP (RI .u8) (RI .i64))) [sl P] ys::Φ) w:=o;obtain ⟨Z,T,w',hr,hC,O,hP⟩:=aei (t:=271) (ty:=271) Tryz.underlying271 wF rfl (by decide) (o.own (i:=0) rfl) (o.sl (i:=1) rfl) (λb hb=>Ctx.kG (i:=0) rfl hb) g;have hS:=o.lJ (i:=0) rfl (new:=jq (RP (RI .u8) (RI .i64)) 384 Z (xs++ys) T) hC O (λM' m _=>hP M' m);have U:∃p,Z=sl p:=by obtain ⟨a,cap,G⟩:=(hS.own (i:=0) rfl).len;exact ⟨(a,_,cap),G⟩
  obtain ⟨p',rfl⟩:=U;rw [G,l] at hr ⊢;refine mono (vw F B hr) ?_;rintro r w1 ⟨rfl,rfl⟩;rw [<-l];refine ⟨p',T,rfl,?_⟩;rw [aj8];exact hS
 .have z:k<xs.length:=by omega
  have I:xs≠[]:=λh=>by rw [h] at z;simp at z
  obtain ⟨b,c,cur,G,O,hh,F,N,D,x⟩:=hO.row I;have M:c<=9223372036854775807:=by unfold maxLen at N;omega
  have V:Q≠b:=by intro e;subst e;exact H.sep 0 1 _ _ rfl rfl (by decide) Q (by show Q∈R;rw [O];simp) (by show Q∈Ry;rw [Y];simp)
  have f:=akR (ys:=ys) hk;simp only [aH,an] at g;have X:=er g.1;have W:=er g.2;have hcur:c*2=cur.size:=D.symm;by_cases y:xs.length+ys.length<=c
  . -- there is room
   rw [G,l];refine mono (OR z B y M V hh D K (by rw [show j.size=mc*2 from A];omega) x.Ci u.Ci) ?_;rintro r w1 ⟨rfl,hC,s,q,E,C⟩;rw [<-l];refine ⟨(some ⟨b,0,none⟩,xs.length+ys.length,c),[b],rfl,?_⟩;have hS:=H.lJ (i:=0) rfl (new:=jq (RP (RI .u8) (RI .i64)) 384 (.slice (some ⟨b,0,none⟩) (xs.length+ys.length) c) (lT xs (k:Int) ys) [b]) (by show lE R w w1;rw [O];exact hC) (λd hd=>by
    have:d=b:=by simpa [jq] using hd
    subst this;exact ⟨(Array.getElem?_eq_some_iff.1 q).1,.inl (by show d∈R;rw [O];simp)⟩) (λM' m _=>by
    show cf _ _ _ _ _ _ _;rw [<-f];refine cf.mk_ q (by omega) N E ?_;rw [f];have:=(aby (i:=k) x u).mv m;have e:s.toList.take ((xs.length+ys.length)*((RP (RI .u8) (RI .i64))).n)=(cur.toList.take (xs.length*((RP (RI .u8) (RI .i64))).n)).take (k*((RP (RI .u8) (RI .i64))).n)++j.toList.take (ys.length*((RP (RI .u8) (RI .i64))).n)++(cur.toList.take (xs.length*((RP (RI .u8) (RI .i64))).n)).drop (k*((RP (RI .u8) (RI .i64))).n):=C;rw [e];exact this)
   exact hS.freeze (i:=1) rfl
  . -- a new row
   rw [G,l];refine mono (aqP z B F (by omega) X hh D K (by rw [show j.size=mc*2 from A];omega) x.Ci u.Ci) ?_;rintro r w1 ⟨rfl,hC,s,q,E,C⟩;rw [<-l];refine ⟨(some ⟨w.heap.size,0,none⟩,xs.length+ys.length,_),[w.heap.size],rfl,?_⟩;have hE:lE R w w1:=⟨hC.os,hC.tape,hC.output,hC.size,λd hd _=>hC.block d hd (by simp;omega)⟩;have hS:=H.lJ (i:=0) rfl (new:=jq (RP (RI .u8) (RI .i64)) 384 (.slice (some ⟨w.heap.size,0,none⟩) (xs.length+ys.length) (grownCap w (xs.length+ys.length) c 384)) (lT xs (k:Int) ys) [w.heap.size]) hE (λd hd=>by
    have:d=w.heap.size:=by simpa [jq] using hd
    subst this;exact ⟨(Array.getElem?_eq_some_iff.1 q).1,.inr (c8 _)⟩) (λM' m _=>by
    show cf _ _ _ _ _ _ _;rw [<-f];refine cf.mk_ (by rw [f] at *; exact q) (by rw [f];exact grownCap_ge w _ _ _) (by rw [f];exact grownCap_le_maxLen w _ c 384 (by simpa [maxLen] using W)) (by rw [f];exact E) ?_;rw [f];have:=(aby (i:=k) x u).mv m;have e:s.toList.take ((xs.length+ys.length)*((RP (RI .u8) (RI .i64))).n)=(cur.toList.take (xs.length*((RP (RI .u8) (RI .i64))).n)).take (k*((RP (RI .u8) (RI .i64))).n)++j.toList.take (ys.length*((RP (RI .u8) (RI .i64))).n)++(cur.toList.take (xs.length*((RP (RI .u8) (RI .i64))).n)).drop (k*((RP (RI .u8) (RI .i64))).n):=C;rw [e];exact this)
   exact hS.freeze (i:=1) rfl
end I261
open Go.Lib
theorem amY{P:Program}{Γg:Ctx}{f e bytes:Nat}{t:Ty}(hE:Enters P f)
  (o:∀{Φ:Ctx} {w:World} {v C:ju} {xs ys:List t.T} {R Ry:zo} {i:Int},Sat (jq t.rep e (sl v) xs R::jq t.rep e (sl C) ys Ry::Φ) w->ys≠[]->A4 i xs.length=true->aH (xs.length+ys.length) bytes=true->
   jg P f [sl v,.int .i64 i,sl C] w (λr w'=>∃(p:ju) (n:zo),r=sl p/\Sat (jq t.rep e (sl p) (lT xs i ys) n::Jz (Jk t.rep) [sl C] ys::Φ) w'))
  (m:List t.T->Int->List t.T->Option (List t.T)) (hm:∀xs i ys r,m xs i ys=some r->ys≠[]/\A4 i xs.length=true/\aH (xs.length+ys.length) bytes=true/\r=lT xs i ys):
  (⟨f,[.own t e true,.int .i64,.own t e true],.own t e true,[],λs=>m s.1 s.2.1 s.2.2⟩:aC).Ok P Γg:=by
 refine ⟨hE,λs r hr vs N I X Φ w hS H hΦ=>?_⟩;obtain ⟨v1,W,D1,D2,I1,I2,X1,X2,N1,rfl,⟨a,l,rfl,_,rfl,rfl,rfl,rfl,_⟩,⟨v2,V,D3,D4,I3,I4,X3,X4,N2,rfl,⟨i,rfl,rfl,rfl,rfl,rfl⟩,⟨v3,U,D5,D6,I5,I6,X5,X6,N3,rfl,⟨b,Q,rfl,_,rfl,rfl,rfl,rfl,_⟩,⟨rfl,rfl,rfl,rfl,rfl⟩,rfl,rfl,rfl⟩,rfl,rfl,rfl⟩,z,rfl,rfl⟩:=hS;obtain ⟨c,u,g⟩:=s;obtain ⟨J,hb,k,rfl⟩:=hm c u g r hr;have z:[(⟨.l t,c⟩:ck),⟨.i .i64,u⟩,⟨.l t,g⟩]=[⟨.l t,l⟩,⟨.i .i64,i⟩,⟨.l t,Q⟩]:=z;simp only [qa,and_true] at z;obtain ⟨O,L,K⟩:=z;have q1:c=l:=by cases O;rfl
 have q2:u=i:=by cases L;rfl
 have Z:g=Q:=by cases K;rfl
 subst q1 q2 Z;have H:Sat (te t.rep e a.v c True::te t.rep e b.v g True::Φ) w:=H;have G:Sat (jq t.rep e (sl a.v) c (Aw a.v)::te t.rep e b.v g True::Φ) w:=Sat.El (A:=[]) H ⟨λ_ h=>h,λM w h=>h.1⟩;have F:Sat (jq t.rep e (sl a.v) c (Aw a.v)::jq t.rep e (sl b.v) g (Aw b.v)::Φ) w:=Sat.El (A:=[jq t.rep e (sl a.v) c (Aw a.v)]) G ⟨λ_ h=>h,λM w h=>h.1⟩;refine jg.mono (o F J hb k) ?_;rintro v w' ⟨p,n,rfl,j⟩;obtain ⟨Y,S⟩:∃Y:List t.T,Y=lT c u g:=⟨_,rfl⟩;rw [<-S] at j;refine ⟨[a,b,{ dm with v:=p,y:=⟨.l t,Y⟩ }],[a,b,{ dm with v:=p,y:=⟨.l t,Y⟩ }],[⟨.l t,Y⟩],[],[(true,te t.rep e p Y True)],[],[],[],
  ⟨{ dm with v:=p,y:=⟨.l t,Y⟩ },Y,rfl,(λq h=>by cases h),rfl,rfl,rfl,rfl,rfl⟩,⟨rfl,rfl,rfl,rfl⟩,by rw [S];rfl,?_⟩
 have hO:=j.own (i:=0) rfl;have d:=hO.canon;have E:Sat ([jq t.rep e (sl p) Y n]++jb::Φ) w':=Sat.El (A:=[jq t.rep e (sl p) Y n]) (B:=Φ) j ⟨(λ_ h=>nomatch h),λ_ _ _=>trivial⟩;have D:=Sat.lT (A:=[jq t.rep e (sl p) Y n]) (B:=jb::Φ) E [jb] (λit bH=>by rw [List.mem_singleton.1 bH];exact ⟨rfl,λ_ _=>trivial⟩);exact Sat.El (A:=[]) (B:=jb::jb::Φ) (x:=jq t.rep e (sl p) Y n) D ⟨λb hb=>d.1 b hb,λM w h=>⟨d.2 M w h,trivial⟩⟩
end Go.Proofs.YtcgihjbfppkcfaaGreatDoor
