/- Own texts for TopStores, cut and joined by a program. -/
import Derived.Test.YtdolcddlmodkkaaGreatDoorTopStoresF
import Derived.Shelf.Strconv.Itoa3
import Derived.Ground.NamesProg
import Derived.Test.YtdolcddlmodkkaaGreatDoorProg
import Derived.Lib.ItoaLen
import Derived.Shelf.Spec.SlicesGrow
set_option linter.all false
namespace Go.Proofs.YtdolcddlmodkkaaGreatDoor
open Go.Lib
abbrev ald{R:Type}(X:Cx)(H:List Row)(fn:Func)(K:AV->aE->Option R)(st:aE):Option R:=match yp (LV X ⟨[],H,fn.ntmps⟩ st) fn.results.toList with
 |some rs=>K (H2 rs) st
 |none=>none
noncomputable def UU{R:Type}(X:Cx)(fn:Func)(args:List AV)(H:List Row)(st:aE)(K:AV->aE->Option R):Option R:=match fn.body with
 |some body=>aC (Nat.ble args.length fn.ntmps) (den X [] [] body ⟨[],H,fn.ntmps⟩ (λe st'=>match e with
  | .ret=>ald X H fn K st'
  | .nrm=>ald X H fn K st'
  |_=>none) ⟨st.c,kf 0 args,st.G,.o⟩) none
 |none=>none
theorem W7{X:Cx}{f:FuncId}{fn:Func}(n:Enters X.P f)(m:X.P.funcs[f]? =some fn)(q:X.gls=[]):(⟨f,λargs H st K=>UU X fn args H st K⟩:Inl).Ok X.P:=by
 refine ⟨n,λ{R} r args H st K ρ Φ w p h=>?_⟩;have g:UU X fn args H st K=some r:=h;unfold UU at g;split at g
 .rename_i body hb;obtain ⟨u,t⟩:=aI g;refine jG m hb rfl (by rw [AV.bu];exact u) ?_;have s:az ρ [] (kf 0 args) []=iota 0 (AV.ar ρ args):=by show aG.env ρ [] (kf 0 args)++[]=_;rw [yW,hV]
  rw [<-s];have j:∀it∈X.Γ,it∈Φ:=λit a=>by unfold Cx.Γ at a;rw [q] at a;cases a
  refine gf (X:=X) (tb:=[]) (tp:=[]) (D:=[]) (fr:=⟨[],H,fn.ntmps⟩) (st:=⟨st.c,kf 0 args,st.G,.o⟩) j (λ_ h=>nomatch h) (λ_ h=>nomatch h) body p t (λx st' ρ' w' z y b e=>?_);have d:Sat (ab ρ' [] st'.G++(ab ρ' [] H++Φ)) w'->ald X H fn K st'=some r->At (BP X.P fn (λv w'=>∃(ρ':aB) (st':aE) (av:AV),K av st'=some r/\aW st.c ρ ρ'/\st.c<=st'.c/\av.val ρ'=v/\Sat (ab ρ' [] st'.G++(ab ρ' [] H++Φ)) w') (λ_ _=>False))   .ret fn.ntmps [] (az ρ' [] st'.E []) w':=λe h=>by
   unfold ald at h;split at h
   next rs k=>exact anL (fr:=⟨[],H,fn.ntmps⟩) e k ⟨ρ',st',H2 rs,h,z,y,rfl,e⟩
   .cases h
  cases x with
  |nrm=>exact d e b
  |ret=>exact d e b
  |ext i=>cases b
  |gto l=>cases b
  |je v=>cases b
  |panE v=>cases b
  |panL v=>cases b
 .cases g
end Go.Proofs.YtdolcddlmodkkaaGreatDoor
namespace Go.Proofs
open Go.Shelf
def Tryz.PT:Go.Shelf.Ren:=⟨λ| 171=>130|243=>192|246=>232|283=>253|284=>254|285=>255|286=>256|129=>266|317=>265|318=>267|319=>268|320=>269|337=>274|338=>275|n=>n,λ| 3=>3|9=>9|2=>2|4=>4|171=>383|0=>0|53=>25|37=>57|5=>5|173=>386|212=>395|51=>380|20=>20|213=>396|46=>355|232=>402|233=>403|n=>n,λ| 17=>5|18=>6|19=>7|n=>n⟩
theorem Tryz.ap8:Go.Proofs.LaysM.n171 Tryz.prog Tryz.PT:={
 mixed:=by kernel_rfl
 f129:=Tryz.func266.trans (congrArg some (by kernel_rfl))
 f171:=Tryz.func130.trans (congrArg some (by kernel_rfl))
 f243:=Tryz.func192.trans (congrArg some (by kernel_rfl))
 f246:=Tryz.func232.trans (congrArg some (by kernel_rfl))
 f283:=Tryz.func253.trans (congrArg some (by kernel_rfl))
 f284:=Tryz.func254.trans (congrArg some (by kernel_rfl))
 f285:=Tryz.func255.trans (congrArg some (by kernel_rfl))
 f286:=Tryz.func256.trans (congrArg some (by kernel_rfl))
 f317:=Tryz.func265.trans (congrArg some (by kernel_rfl))
 f318:=Tryz.func267.trans (congrArg some (by kernel_rfl))
 f319:=Tryz.func268.trans (congrArg some (by kernel_rfl))
 f320:=Tryz.func269.trans (congrArg some (by kernel_rfl))
 f337:=Tryz.func274.trans (congrArg some (by kernel_rfl))
 f338:=Tryz.func275.trans (congrArg some (by kernel_rfl))
 t0:=Tryz.underlying0
 a0:=Tryz.isAgg0
 z0:=Tryz.sizeOf0
 v0:=Tryz.zeroValue0
 t2:=Tryz.underlying2
 a2:=Tryz.isAgg2
 z2:=Tryz.sizeOf2
 v2:=Tryz.zeroValue2
 t3:=Tryz.underlying3
 a3:=Tryz.isAgg3
 z3:=Tryz.sizeOf3
 v3:=Tryz.zeroValue3
 t4:=Tryz.underlying4
 a4:=Tryz.isAgg4
 z4:=Tryz.sizeOf4
 v4:=Tryz.zeroValue4
 t5:=Tryz.underlying5
 a5:=Tryz.isAgg5
 z5:=Tryz.sizeOf5
 v5:=Tryz.zeroValue5
 t9:=Tryz.underlying9
 a9:=Tryz.isAgg9
 z9:=Tryz.sizeOf9
 v9:=Tryz.zeroValue9
 t20:=Tryz.underlying20
 a20:=Tryz.isAgg20
 z20:=Tryz.sizeOf20
 v20:=Tryz.zeroValue20
 t37:=Tryz.underlying57
 a37:=Tryz.isAgg57
 z37:=Tryz.sizeOf57
 v37:=Tryz.zeroValue57
 t46:=Tryz.underlying355
 a46:=Tryz.isAgg355
 z46:=Tryz.sizeOf355
 v46:=Tryz.zeroValue355
 t51:=Tryz.underlying380
 a51:=Tryz.isAgg380
 z51:=Tryz.sizeOf380
 v51:=Tryz.zeroValue380
 t53:=Tryz.underlying25
 a53:=Tryz.isAgg25
 z53:=Tryz.sizeOf25
 v53:=Tryz.zeroValue25
 t171:=Tryz.underlying383
 a171:=Tryz.isAgg383
 z171:=Tryz.sizeOf383
 v171:=Tryz.zeroValue383
 t173:=Tryz.underlying386
 a173:=Tryz.isAgg386
 z173:=Tryz.sizeOf386
 v173:=Tryz.zeroValue386
 t212:=Tryz.underlying395
 a212:=Tryz.isAgg395
 z212:=Tryz.sizeOf395
 v212:=Tryz.zeroValue395
 t213:=Tryz.underlying396
 a213:=Tryz.isAgg396
 z213:=Tryz.sizeOf396
 t232:=Tryz.underlying402
 a232:=Tryz.isAgg402
 z232:=Tryz.sizeOf402
 v232:=Tryz.zeroValue402
 t233:=Tryz.underlying403
 a233:=Tryz.isAgg403
 z233:=Tryz.sizeOf403
 v233:=Tryz.zeroValue403
 g17:=by kernel_rfl
 g18:=by kernel_rfl
 g19:=by kernel_rfl
 i0:=by kernel_rfl
 i2:=by kernel_rfl
 i3:=by kernel_rfl
 i4:=by kernel_rfl
 i5:=by kernel_rfl
 i9:=by kernel_rfl
 i20:=by kernel_rfl
 i37:=by kernel_rfl
 i46:=by kernel_rfl
 i51:=by kernel_rfl
 i53:=by kernel_rfl
 i171:=by kernel_rfl
 i173:=by kernel_rfl
 i212:=by kernel_rfl
 i232:=by kernel_rfl
 i233:=by kernel_rfl
 m17:=by kernel_rfl
 m18:=by kernel_rfl
 m19:=by kernel_rfl }
end Go.Proofs
namespace Go.Proofs.YtdolcddlmodkkaaGreatDoor
open Go.Proofs Go.Shelf Go.Lib
theorem ao2{P:Program}{Γg:Ctx}{ρ:Go.Shelf.Ren}(L:Go.Proofs.LaysM.n171 P ρ)(y:Enters P (ρ.f 171)){G:Nat}{tab:zB}(u:P.globalNamed "internal/strconv.uint64pow10" =some G) (h:gl G (tab.map (Value.int .u64))∈Γg) (l:Lib.pow10Tab=tab)
  (m:Int->Option aS) (q:∀n r,m n=some r->alH n=true/\r=Lib.itoa n):(⟨ρ.f 171,[.int .i64],.str,[],λs=>m s⟩:au).Ok P Γg:=by
 refine ⟨y,λs r o vs N I X Φ w v c g=>?_⟩;obtain ⟨B,j,J,H,F,E,D,C,N2,rfl,⟨x,rfl,rfl,rfl,rfl,rfl⟩,⟨rfl,rfl,rfl,rfl,rfl⟩,d,rfl,rfl⟩:=v;obtain ⟨p,rfl⟩:=q s r o;have hx:x=s:=by have d:[(⟨.i .i64,s⟩:cn)]=[⟨.i .i64,x⟩]:=d;simp only [nI,uc] at d;cases d;rfl
 subst hx;obtain ⟨A,z⟩:=aq1.1 p;have c:Sat Φ w:=c;obtain ⟨i,hi⟩:=zc (g _ h);obtain ⟨_,t,fr,hb⟩:=c.gl0 hi;have a:Lib.TabIs P w "internal/strconv.uint64pow10" .u64 Lib.pow10Tab:=by unfold Lib.TabIs World.var?;rw [u,l];simp [hb]
 refine Calls.mono (Any.strconv_Itoa L x A z w a) ?_;rintro e w' ⟨rfl,k,os,rfl⟩;refine ⟨[],[],[⟨.s,Lib.itoa x⟩],[],[],[],[],[],⟨_,rfl,rfl,rfl,rfl,rfl⟩,⟨rfl,rfl,rfl,rfl⟩,rfl,?_⟩;refine Sat.ext (Γ:=Φ) c ⟨rfl,rfl,rfl,?_,λb hb=>?_⟩
 .simp [Sort.grow,World.drewN]
 .simp [Sort.grow,World.drewN,Array.getElem?_append,hb]
open Go.Proofs Go.Shelf Go.Lib Go.Sort
section
variable {P : Program} {E : Env} {w : World} {dst : zu} {ty : TypeId} {pos : String} {af : zw} {gd : zg} {g : Bool}
theorem Sb{x y:Operand}{p:Addr}{len m bytes:Nat}{z:Value}{t e:TypeId}{k:IntKind}{h:Int}(j:P.underlying t=some (.array len e))(b:TI P e m bytes z)(n:0<=h)(l:h<=len)
  (hx:aw E g x (.pointer (some p))) (i:aw E g y (.int k h)):
  bk P E g ⟨dst,.slice t x none (some y) none,ty,pos,af,gd⟩ w (.slice (some p) h.toNat len):=
 λn' a f d=>by obtain ⟨o,c,q,_,_⟩:=b.out;simp [execOp,hx n' a f d,i n' a f d,Instr.sliceAt,run_underlying j,Instr.sureAddr,Instr.sliceBounds,run_sliceBound,sizeOf,typeInfo,c,Addr.add,n,l]
end
theorem ams{M:Nat->Prop}{w:World}{b u v':Nat}{c:Array UInt8}{cs:zp}{e:TypeId}{fr:Nat×Nat}(h:¬M b)(hb:w.heap[b]? =some (.cells cs e fr))(n:nDigits u<=24)(f:cs.size=24)
  (g:∀j,j<nDigits u->cs[j]? =some (Value.int .u8 ((c[j]!).toNat:Int))) (d:FmtInv (nDigits u) u 0 v' c):
  bW (RI .u8) M w (.slice (some ⟨b,0,none⟩) (nDigits u) 24) (bS (decDigits u)):=by
 have a:(bS (decDigits u)).length=nDigits u:=by simp [bS,decDigits_length]
 refine .inr ⟨b,0,24,cs,e,fr,by rw [a],h,hb,by omega,by show 0+24*1<=_;omega,?_⟩;rw [a];refine ⟨?_,λi hi=>?_⟩
 .rw [a];show (List.take (nDigits u*1) (List.drop 0 cs.toList)).length=nDigits u*1;simp only [b9,ec,de];omega
 .rw [a] at hi;have p:=g i hi;show ((List.drop (i*1) (List.take (nDigits u*1) (List.drop 0 cs.toList))).take 1)=[Value.int .u8 _];have o:(List.take (nDigits u*1) (List.drop 0 cs.toList))[i]? =some (Value.int .u8 ((c[i]!).toNat:Int)):=by rw [mo,cN (by omega),qa];simpa using p
  obtain ⟨m,l⟩:=List.getElem?_eq_some_iff.1 o;rw [xa,qG m,l];have k:=row_is_numeral d i (by rw [decDigits_length];exact hi);simp only [bS,List.getElem_map,k];rfl
theorem aua{P:Program}{Γ:Ctx}{w:World}{G:Nat}{tab:zB}(d:P.globalNamed "internal/strconv.uint64pow10" =some G) (a:gl G (tab.map (Value.int .u64))∈Γ) (b:Lib.pow10Tab=tab) (c:Sat Γ w):
  Lib.TabIs P w "internal/strconv.uint64pow10" .u64 Lib.pow10Tab:=by
 obtain ⟨i,hi⟩:=zc a;obtain ⟨_,t,fr,hb⟩:=c.gl0 hi;unfold Lib.TabIs World.var?;rw [d,b];simp [hb]
set_option maxRecDepth 10000 in
theorem amH{P:Program}{ρ:Go.Shelf.Ren}(L:Go.Proofs.LaysM.n288 P ρ){G:Nat}{tab:zB}(hg:P.globalNamed "internal/strconv.uint64pow10" =some G) (W:Lib.pow10Tab=tab)
  {Φ:Ctx} (E:gl G (tab.map (Value.int .u64))∈Φ) {u:Nat} (H:u<18446744073709551616) {v:gP} {l:zB} {R:zC} {w:World} (Q:Sat (iB (RI .u8) (ρ.t 5) (sl v) l R::Φ) w) (d:aH (l.length+24) 1=true):
  gK P (ρ.f 288) [sl v,.int .u64 (u:Int),.int .i64 10] w λv' w'=>∃(p:gP) (D:zC),v'=sl p/\Sat (iB (RI .u8) (ρ.t 5) (sl p) (l++bS (decDigits u)) D::Φ) w':=by
 have C:Enters P (ρ.f 283):=enters_of L.f283 (by kernel_rfl) rfl;have B:Enters P (ρ.f 284):=enters_of L.f284 (by kernel_rfl) rfl;have z:Enters P (ρ.f 285):=enters_of L.f285 (by kernel_rfl) rfl;have m:TI P (ρ.t 5) 1 1 (.int .u8 0):=by
  have:=L.i5;unfold TI;cases hi:P.info? (ρ.t 5) with
  |none=>rw [hi] at this;cases this
  |some i=>rw [hi] at this;simp only [mj,cH,p8] at this ⊢; exact ⟨this.2.1,this.2.2,this.1⟩
 have q:TI P (ρ.t 171) 24 24 (.agg zeros24):=by
  have:=L.i171;unfold TI;cases hi:P.info? (ρ.t 171) with
  |none=>rw [hi] at this;cases this
  |some i=>rw [hi] at this;simp only [mj,cH,p8] at this ⊢; exact ⟨this.2.1,this.2.2,this.1⟩
 simp only [aH,ah] at d;have X:=dk d.1;have o:∀k,k<=20->aH (l.length+k) 1=true:=λk s=>by simp only [aH,ah];exact ⟨qc (by omega),qc (by omega)⟩
 have T:=nDigits_le20 u H;refine jG L.f288 rfl rfl rfl<|bB<|bn<|aL (da aw.c) rfl rfl rfl rfl<|cg<|bg<|bB<|bB<|bn<|aL (aM (aw.t rfl)) rfl rfl rfl rfl<|aL (tO (aw.t rfl) aw.c) rfl rfl rfl rfl<|cg<|bg<|j4 (aw.t rfl) (λ_=>?_) (λh=>by cases h);refine bB<|bB<|bn<|aL (aM (aw.t rfl)) rfl rfl rfl rfl<|aL (ajK (aw.t rfl) aw.c) rfl rfl rfl rfl<|cg<|bg<|j4 (aw.t rfl) (λh=>?_) (λh=>?_)
 . -- small
  have a:u<100:=by have:=qp h;omega
  refine bB<|bn ?_;have V:IntKind.i64.wrap (u:Int)=(u:Int):=dP (by omega);refine aL (aM (aw.t rfl)) rfl rfl rfl rfl<|aL (aM (aw.t rfl)) rfl rfl rfl rfl<|aL (ahi L.t53 L.t3 (aw.t rfl)) rfl rfl rfl rfl<|?_;rw [V];refine Zf (first:=[]) (cap:=[]) (vs:=[.int .i64 (u:Int)]) (args:=[.int .i64 (u:Int)]) (xs:=[.tmp 15]) (S:=λv' w'=>v'=S (decDigits u)/\w'=w) C aw.f (iQ.cons (aw.t rfl) iQ.nil) rfl rfl ?_ ?_
  .refine Calls.mono (Any.internal_strconv_small { L with } u a w) ?_;rintro e w' ⟨rfl,rfl⟩;exact ⟨rfl,rfl⟩
  .rintro v' w' ⟨rfl,rfl⟩;refine akF Q 0 rfl L.t37 L.t9 m (aw.t rfl) (aw.t rfl) (o _ (by rw [decDigits_length];exact T)) rfl ?_;intro p D w' J;refine aL (da (aw.t rfl)) rfl rfl rfl rfl<|cg<|bg<|wV ?_
   repeat refine pW ?_
   refine QM rfl (kK.t rfl) ?_;exact ⟨p,D,rfl,J⟩
 . -- large
  have a:100<=u:=by have:=of_decide_eq_false h;omega
  refine tw<|bg<|bB<|bn<|apM (zs:=zeros24.toList) Q q (by simp [Value.cells]) rfl ?_;intro b w1 r;refine cg<|bg<|bB<|bn<|aL (aM (aw.t rfl)) rfl rfl rfl rfl<|Zf (first:=[]) (cap:=[]) (vs:=[.int .u64 (u:Int)]) (args:=[.int .u64 (u:Int)]) (xs:=[.tmp 18]) (S:=λv' w'=>v'= .int .i64 (nDigits u:Int)/\w'=w1) B aw.f (iQ.cons (aw.t rfl) iQ.nil) rfl rfl ?_ ?_
  .refine Calls.mono (Any.internal_strconv_numDigits { L with } u (by omega) H w1 (aua hg (cb _ (cb _ E)) W r)) ?_;rintro e w' ⟨rfl,rfl⟩;exact ⟨rfl,rfl⟩
  rintro v' O ⟨rfl,F⟩;obtain rfl:w1=O:=F.symm;refine aL (da (aw.t rfl)) rfl rfl rfl rfl<|cg<|bg<|bB<|bn<|aL (aM (aw.t rfl)) rfl rfl rfl rfl<|aL (Sb L.t171 m (by omega) (by omega) (aw.t rfl) (aw.t rfl)) rfl rfl rfl rfl<|aL (aM (aw.t rfl)) rfl rfl rfl rfl<|?_;rw [e9];refine Zf (first:=[]) (cap:=[]) (vs:=[.slice (some ⟨b,0,none⟩) (nDigits u) 24,.int .u64 (u:Int)]) (args:=[.slice (some ⟨b,0,none⟩) (nDigits u) 24,.int .u64 (u:Int)]) (xs:=[.tmp 21,.tmp 22])
   (S:=λ_ w'=>Sat (Mi (Mw (RI .u8)) [.slice (some ⟨b,0,none⟩) (nDigits u) 24] (bS (decDigits u))::iB (RI .u8) (ρ.t 5) (sl v) l R::Φ) w') z aw.f ?_ rfl rfl ?_ ?_
  .exact iQ.cons (aw.t rfl) (iQ.cons (aw.t rfl) iQ.nil)
  .have N:=r.box (i:=0) rfl;have g:w1.heap[b]? =some (.cells zeros24.toList.toArray (ρ.t 171) (0,0)):=N;have hH:Holds (λ(b:UInt8)=>Value.int .u8 (b.toNat:Int)) w1 b 0 (Array.replicate (nDigits u) (0:UInt8)):=λj M=>by
    have Z:j<nDigits u:=by simpa using M
    refine ⟨?_,?_⟩
    .simp only [World.cell?,g,l7];rw [getElem!_pos _ j M];simpa using zeros24_at j (by omega)
    .simp [World.frozen?,g]
   have key:=Any.internal_strconv_formatBase10 (P:=P) (ρ:=ρ) { L with } b 0 24 u (Array.replicate (nDigits u) (0:UInt8)) w1 hH (by rw [zd];exact lt_pow_nDigits u) H (by rw [zd];omega);rw [zd] at key;refine Calls.mono key ?_;rintro e w' ⟨rfl,n,v',U,rfl,s⟩;have hp:∀k,((putRow (λ(b:UInt8)=>Value.int .u8 (b.toNat:Int)) w1 b 0 U).drewN n).heap[k]? =if k=b then some (.cells (putCells (λ(b:UInt8)=>Value.int .u8 (b.toNat:Int)) 0 U zeros24.toList.toArray) (ρ.t 171) (0,0)) else w1.heap[k]? :=λk=>by
    simp only [World.drewN,putRow,mapBlock,yK];by_cases s:k=b
    .subst s;simp [g,onCells]
    .rw [cx s,cx (λe=>s e.symm)]
   refine r.iP (i:=0) (new:=Mi (Mw (RI .u8)) [.slice (some ⟨b,0,none⟩) (nDigits u) 24] (bS (decDigits u))) rfl ⟨rfl,rfl,rfl,?_,λk Y K=>?_⟩ (λb hb=>by cases hb) (λM' hm x=>?_)
   .simp [World.drewN,putRow,mapBlock]
   .rw [hp,cx (by simpa [box] using K)]
   .refine bW.rsl (ams (x b (by simp [box]) (by simp [Mi])) (by rw [hp,cN rfl]) (by omega) (by simp [putCells,zeros24]) (λj M=>?_) s);have h1:=s.size;have h2:zeros24[j]? =some (Value.int .u8 0):=zeros24_at j (by omega);simp only [putCells,Array.getElem?_mapIdx];rw [show zeros24.toList.toArray=zeros24 by simp,h2];simp only [mj,qf,true_and,Nat.sub_zero];rw [cN (by omega)]
  .intro v' O y;refine cg<|bg<|bB<|bn<|aL (aM (aw.t rfl)) rfl rfl rfl rfl<|aL (aM (aw.t rfl)) rfl rfl rfl rfl<|aL (Sb L.t171 m (by omega) (by omega) (aw.t rfl) (aw.t rfl)) rfl rfl rfl rfl<|?_;rw [e9];refine an2 y 1 rfl L.t37 m rfl rfl (aw.t rfl) (aw.t rfl) (y.sl (i:=0) rfl) (o _ (by simp [bS,decDigits_length];exact T)) rfl ?_;intro p D w3 I;refine aL (da (aw.t rfl)) rfl rfl rfl rfl<|cg<|bg<|wV ?_
   repeat refine pW ?_
   refine QM rfl (kK.t rfl) ?_;exact ⟨p,D,rfl,Sat.AT (A:=[Mi (Mw (RI .u8)) [.slice (some ⟨b,0,none⟩) (nDigits u) 24] (bS (decDigits u))]) I⟩
theorem aqB{P:Program}{Γg:Ctx}{ρ:Go.Shelf.Ren}(L:Go.Proofs.LaysM.n288 P ρ)(hE:Enters P (ρ.f 288)){G:Nat}{tab:zB}(hg:P.globalNamed "internal/strconv.uint64pow10" =some G) (C:gl G (tab.map (Value.int .u64))∈Γg) (ht:Lib.pow10Tab=tab)
  (m:zB->Int->Int->Option zB) (hm:∀l u b r,m l u b=some r->b=10/\0<=u/\u<=18446744073709551615/\aH (l.length+24) 1=true/\r=l++bS (decDigits u.toNat)):
  (⟨ρ.f 288,[.own (.i .u8) (ρ.t 5) true,.int .u64,.int .i64],.own (.i .u8) (ρ.t 5) true,[],λs=>m s.1 s.2.1 s.2.2⟩:au).Ok P Γg:=by
 refine ⟨hE,λs r hr vs N I X Φ w hS F z=>?_⟩;obtain ⟨v1,U,D1,D2,I1,I2,X1,X2,N1,rfl,⟨a,l,rfl,_,rfl,rfl,rfl,rfl,_⟩,⟨v2,T,D3,D4,I3,I4,X3,X4,N2,rfl,⟨u,rfl,rfl,rfl,rfl,rfl⟩,⟨v3,S,D5,D6,I5,I6,X5,X6,N3,rfl,⟨b,rfl,rfl,rfl,rfl,rfl⟩,⟨rfl,rfl,rfl,rfl,rfl⟩,rfl,rfl,rfl⟩,rfl,rfl,rfl⟩,k,rfl,rfl⟩:=hS;obtain ⟨g,j,o⟩:=s;obtain ⟨hb,h0,h1,e,rfl⟩:=hm g j o r hr;have k:[(⟨.l (.i .u8),g⟩:cn),⟨.i .u64,j⟩,⟨.i .i64,o⟩]=[⟨.l (.i .u8),l⟩,⟨.i .u64,u⟩,⟨.i .i64,b⟩]:=k;simp only [nI,uc] at k;obtain ⟨O,K,J⟩:=k;have Z:g=l:=by cases O;rfl
 have W:j=u:=by cases K;rfl
 have V:o=b:=by cases J;rfl
 subst Z W V;subst hb;obtain ⟨n,rfl⟩:∃n:Nat,j=(n:Int):=⟨j.toNat,(Int.toNat_of_nonneg h0).symm⟩;have F:Sat (pw (RI .u8) (ρ.t 5) a.v g True::Φ) w:=F;have E:Sat (iB (RI .u8) (ρ.t 5) (sl a.v) g (wg a.v)::Φ) w:=Sat.Ge (A:=[]) F ⟨λ_ h=>h,λM w h=>h.1⟩;refine gK.mono (amH L hg ht (z _ C) (u:=n) (by omega) E e) ?_;rintro v w' ⟨p,Q,rfl,c⟩;obtain ⟨Y,R⟩:∃Y:zB,Y=List.append (α:=Int) g (bS (decDigits n)):=⟨_,rfl⟩;have c:Sat (iB (RI .u8) (ρ.t 5) (sl p) Y Q::Φ) w':=by rw [R];exact c
 refine ⟨[a,{ df with v:=p,y:=⟨.l (.i .u8),Y⟩ }],[a,{ df with v:=p,y:=⟨.l (.i .u8),Y⟩ }],[⟨.l (.i .u8),Y⟩],[],[(true,pw (RI .u8) (ρ.t 5) p Y True)],[],[],[],
  ⟨{ df with v:=p,y:=⟨.l (.i .u8),Y⟩ },Y,rfl,(λq h=>by cases h),rfl,rfl,rfl,rfl,rfl⟩,⟨rfl,rfl,rfl,rfl⟩,by rw [R];rfl,?_⟩
 have hO:=c.own (i:=0) rfl;have d:=hO.canon;have D:=Sat.kE (A:=[iB (RI .u8) (ρ.t 5) (sl p) Y Q]) (B:=Φ) c [gS] (λit H=>by rw [List.mem_singleton.1 H];exact ⟨rfl,λ_ _=>trivial⟩);exact Sat.Ge (A:=[]) (B:=gS::Φ) (x:=iB (RI .u8) (ρ.t 5) (sl p) Y Q) D ⟨λb hb=>d.1 b hb,λM w h=>⟨d.2 M w h,trivial⟩⟩
end Go.Proofs.YtdolcddlmodkkaaGreatDoor
namespace Go.Proofs
open Go.Shelf
def Tryz.SJ:Go.Shelf.Ren:=⟨λ| 288=>277|283=>253|284=>254|285=>255|286=>256|129=>266|317=>265|318=>267|319=>268|320=>269|337=>274|338=>275|n=>n,λ| 37=>57|53=>25|3=>3|4=>4|9=>9|171=>383|0=>0|173=>386|212=>395|51=>380|5=>5|20=>20|213=>396|46=>355|232=>402|233=>403|n=>n,λ| 17=>5|18=>6|19=>7|n=>n⟩
theorem Tryz.ar9:Go.Proofs.LaysM.n288 Tryz.prog Tryz.SJ:={
 mixed:=by kernel_rfl
 f129:=Tryz.func266.trans (congrArg some (by kernel_rfl))
 f283:=Tryz.func253.trans (congrArg some (by kernel_rfl))
 f284:=Tryz.func254.trans (congrArg some (by kernel_rfl))
 f285:=Tryz.func255.trans (congrArg some (by kernel_rfl))
 f286:=Tryz.func256.trans (congrArg some (by kernel_rfl))
 f288:=Tryz.func277.trans (congrArg some (by kernel_rfl))
 f317:=Tryz.func265.trans (congrArg some (by kernel_rfl))
 f318:=Tryz.func267.trans (congrArg some (by kernel_rfl))
 f319:=Tryz.func268.trans (congrArg some (by kernel_rfl))
 f320:=Tryz.func269.trans (congrArg some (by kernel_rfl))
 f337:=Tryz.func274.trans (congrArg some (by kernel_rfl))
 f338:=Tryz.func275.trans (congrArg some (by kernel_rfl))
 t0:=Tryz.underlying0
 a0:=Tryz.isAgg0
 z0:=Tryz.sizeOf0
 v0:=Tryz.zeroValue0
 t3:=Tryz.underlying3
 a3:=Tryz.isAgg3
 z3:=Tryz.sizeOf3
 v3:=Tryz.zeroValue3
 t4:=Tryz.underlying4
 a4:=Tryz.isAgg4
 z4:=Tryz.sizeOf4
 v4:=Tryz.zeroValue4
 t5:=Tryz.underlying5
 a5:=Tryz.isAgg5
 z5:=Tryz.sizeOf5
 v5:=Tryz.zeroValue5
 t9:=Tryz.underlying9
 a9:=Tryz.isAgg9
 z9:=Tryz.sizeOf9
 v9:=Tryz.zeroValue9
 t20:=Tryz.underlying20
 a20:=Tryz.isAgg20
 z20:=Tryz.sizeOf20
 v20:=Tryz.zeroValue20
 t37:=Tryz.underlying57
 a37:=Tryz.isAgg57
 z37:=Tryz.sizeOf57
 v37:=Tryz.zeroValue57
 t46:=Tryz.underlying355
 a46:=Tryz.isAgg355
 z46:=Tryz.sizeOf355
 v46:=Tryz.zeroValue355
 t51:=Tryz.underlying380
 a51:=Tryz.isAgg380
 z51:=Tryz.sizeOf380
 v51:=Tryz.zeroValue380
 t53:=Tryz.underlying25
 a53:=Tryz.isAgg25
 z53:=Tryz.sizeOf25
 v53:=Tryz.zeroValue25
 t171:=Tryz.underlying383
 a171:=Tryz.isAgg383
 z171:=Tryz.sizeOf383
 v171:=Tryz.zeroValue383
 t173:=Tryz.underlying386
 a173:=Tryz.isAgg386
 z173:=Tryz.sizeOf386
 v173:=Tryz.zeroValue386
 t212:=Tryz.underlying395
 a212:=Tryz.isAgg395
 z212:=Tryz.sizeOf395
 v212:=Tryz.zeroValue395
 t213:=Tryz.underlying396
 a213:=Tryz.isAgg396
 z213:=Tryz.sizeOf396
 t232:=Tryz.underlying402
 a232:=Tryz.isAgg402
 z232:=Tryz.sizeOf402
 v232:=Tryz.zeroValue402
 t233:=Tryz.underlying403
 a233:=Tryz.isAgg403
 z233:=Tryz.sizeOf403
 v233:=Tryz.zeroValue403
 g17:=by kernel_rfl
 g18:=by kernel_rfl
 g19:=by kernel_rfl
 i0:=by kernel_rfl
 i3:=by kernel_rfl
 i4:=by kernel_rfl
 i5:=by kernel_rfl
 i9:=by kernel_rfl
 i20:=by kernel_rfl
 i37:=by kernel_rfl
 i46:=by kernel_rfl
 i51:=by kernel_rfl
 i53:=by kernel_rfl
 i171:=by kernel_rfl
 i173:=by kernel_rfl
 i212:=by kernel_rfl
 i232:=by kernel_rfl
 i233:=by kernel_rfl
 m17:=by kernel_rfl
 m18:=by kernel_rfl
 m19:=by kernel_rfl }
end Go.Proofs
namespace Go.Proofs
open Go.Shelf
def Tryz.abo:Go.Shelf.Ren:=⟨λ| 4=>172|n=>n,λ| 22=>31|25=>30|3=>3|4=>4|9=>9|20=>20|0=>0|n=>n,λ| n=>n⟩
theorem Tryz.avz:Go.Proofs.Lays8.n4 Tryz.prog Tryz.abo:={
 mixed:=by kernel_rfl
 f4:=⟨Tryz.f172.name,by decide,Tryz.func172.trans (congrArg some (by kernel_rfl))⟩
 t0:=Tryz.underlying0
 a0:=Tryz.isAgg0
 z0:=Tryz.sizeOf0
 v0:=Tryz.zeroValue0
 t3:=Tryz.underlying3
 a3:=Tryz.isAgg3
 z3:=Tryz.sizeOf3
 v3:=Tryz.zeroValue3
 t4:=Tryz.underlying4
 a4:=Tryz.isAgg4
 z4:=Tryz.sizeOf4
 v4:=Tryz.zeroValue4
 t9:=Tryz.underlying9
 a9:=Tryz.isAgg9
 z9:=Tryz.sizeOf9
 v9:=Tryz.zeroValue9
 t20:=Tryz.underlying20
 a20:=Tryz.isAgg20
 z20:=Tryz.sizeOf20
 v20:=Tryz.zeroValue20
 t22:=Tryz.underlying31
 a22:=Tryz.isAgg31
 z22:=Tryz.sizeOf31
 v22:=Tryz.zeroValue31 }
end Go.Proofs
namespace Go.Proofs.YtdolcddlmodkkaaGreatDoor
open Go.Proofs Go.Shelf Go.Lib
theorem apr{P:Program}{ρ:Go.Shelf.Ren}(L:Go.Proofs.Lays8.n4 P ρ){z:Value}{bytes:Nat}(g:TI P (ρ.t 25) 1 bytes z){α:Type}(A:eB α)(y:A.n=1)(d:z.cells.size=1)(m:0<bytes)(n:Nat)(c:aH n bytes=true)(w:World):
  gK P (ρ.f 4) [.slice none 0 0,.int .i64 (n:Int)] w λv w'=>∃p:gP,v=sl p/\Ext w w'/\(∀b∈wg p,b<w'.heap.size/\w.heap.size<=b)/\∀M':Nat->Prop,bR A (ρ.t 25) M' w' (sl p) ([]:List α) (wg p):=by
 obtain ⟨i,hi,j,l,q⟩:=g.out;simp only [aH,ah] at c;have o:=dk c.1;have u:=dk c.2;have s:n<=n*bytes:=Nat.le_mul_of_pos_right n m;by_cases B:n=0
 .subst B;refine Calls.mono (Go.Proofs.Any8.slices_Grow_room L none 0 0 0 w (by omega) (by omega) (by omega) (by omega)) ?_;rintro e w' ⟨rfl,rfl⟩;exact ⟨(none,0,0),rfl,Ext.refl _,(λb hb=>by cases hb),λM'=>bR.nil.D9⟩
 .refine Calls.mono (Go.Proofs.Any8.slices_Grow_grow L i z hi q (by rw [j];omega) none 0 0 n [] w (by omega) (by omega) (by rw [l];simpa using o) (by omega) (by simp) (λ_=>rfl) (λa h=>by cases h)) ?_;rintro e w' ⟨rfl,rfl⟩;have k:grownCap w (0+n) 0 (ρ.t 25)<=maxLen:=grownCap_le_maxLen w (0+n) 0 _ (by simp only [maxLen];omega);have r:=grownCap_ge w (0+n) 0 (ρ.t 25);refine ⟨(some ⟨w.heap.size,0,none⟩,0,grownCap w (0+n) 0 (ρ.t 25)),rfl,⟨rfl,rfl,rfl,by simp,λb hb=>heap_alloc_old w.drew _ hb⟩,λb hb=>?_,λM'=>?_⟩
  .have:=Dr hb;rw [Gd] at this;simp only [l5] at this;subst this;simp
  .have x:iv A (ρ.t 25) M' (w.drew.alloc (.cells (([]:zq).toArray++Builtin.zeroCells z.cells (0+n-0)++Builtin.zeroCells z.cells (grownCap w (0+n) 0 (ρ.t 25)-(0+n))) (ρ.t 25))) (.slice (some ⟨w.heap.size,0,none⟩) 0 (grownCap w (0+n) 0 (ρ.t 25))) ([]:List α):=by refine ⟨[],.of (b:=0) ⟨by simp,.inr ⟨w.heap.size,_,_,rfl,qf _,heap_alloc_new w.drew _,qf _,k,?_,by simp⟩⟩,db.nil⟩;simp only [qJ,n7,size_zeroCells,d,y,qg];omega
   exact (bR.of x).D9
theorem apI{P:Program}{Γg:Ctx}{ρ:Go.Shelf.Ren}(L:Go.Proofs.Lays8.n4 P ρ)(G:Enters P (ρ.f 4)){z:Value}{bytes:Nat}{t:Ty}(c:TI P (ρ.t 25) 1 bytes z)(k:t.rep.n=1)(b:z.cells.size=1)(d:0<bytes)
  (m:Int->Option (List t.T)) (B:∀n r,m n=some r->0<=n/\aH n.toNat bytes=true/\r=[]):
  (⟨ρ.f 4,[.kB (.raw (.slice none 0 0)),.int .i64],.own t (ρ.t 25) true,[],λs=>m s⟩:au).Ok P Γg:=by
 refine ⟨G,λs r u vs N I X Φ w D o j=>?_⟩;obtain ⟨M,g,D1,D2,Z,Y,S,R,U,rfl,⟨⟨rfl,_⟩,rfl,rfl,rfl,rfl⟩,⟨K,e,D3,D4,W,V,Q,O,N2,rfl,⟨x,rfl,rfl,rfl,rfl,rfl⟩,⟨rfl,rfl,rfl,rfl,rfl⟩,rfl,rfl,rfl⟩,a,rfl,rfl⟩:=D;obtain ⟨J,H,rfl⟩:=B s r u;have hx:x=s:=by have a:[(⟨.i .i64,s⟩:cn)]=[⟨.i .i64,x⟩]:=a;simp only [nI,uc] at a;cases a;rfl
 subst hx;have A:((x.toNat:Nat):Int)=x:=Int.toNat_of_nonneg J;have key:=apr L c t.rep k b d x.toNat H w;rw [A] at key;refine gK.mono key ?_;rintro v w' ⟨p,rfl,C,E,F⟩;refine ⟨[{ df with v:=p,y:=⟨.l t,[]⟩ }],[{ df with v:=p,y:=⟨.l t,[]⟩ }],[⟨.l t,[]⟩],[],[(true,pw t.rep (ρ.t 25) p [] True)],[],[],[],⟨_,[],rfl,(λq h=>by cases h),rfl,rfl,rfl,rfl,rfl⟩,⟨rfl,rfl,rfl,rfl⟩,rfl,?_⟩;exact Sat.push (new:=pw t.rep (ρ.t 25) p [] True) o C E (λM' _=>⟨F M',trivial⟩)
variable {w : World}
open Go.Proofs
namespace I412
theorem x5:TI Tryz.prog 531 2 16 (.agg #[(.int .u8 0),(.int .i64 0)]):=by unfold TI;kernel_rfl
set_option maxRecDepth 100000 in
theorem yi{w w':World}{p q:Option Addr}{n c m d:Nat}{v':Value}(i:n<=c)(j:0<m)(g:(Builtin.append_ #[418,418] 418 #[.slice p n c,.slice q m d]).run Tryz.prog w= .ok v' w'):
  gK Tryz.prog 412 [.slice p n c,.int .i64 (n:Int),.slice q m d] w (λr w1=>r=v'/\w1=w'):=by
 have f:((m:Int)==0)=false:=by simp;omega
 have e:((n:Int)==(n:Int))=true:=by simp
 obtain ⟨b,a⟩:∃b,VH (.slice p n c) (n:Int) ((n:Nat):Int) 2 b:=⟨_,_,_,_,rfl,by omega,Int.le_refl _,Int.le_refl _,i,rfl⟩;refine jG Tryz.func412 rfl Tryz.ntmps412 rfl<|bB<|bn<|aL (da aw.c) rfl rfl rfl rfl<|cg<|bg<|bB<|bn<|aL (aM (aw.t rfl)) rfl rfl rfl rfl<|aL (aM (aw.t rfl)) rfl rfl rfl rfl<|aL (G4 (lo:=some (.tmp 11)) (hi:=none) Tryz.underlying418 x5 (aw.t rfl) (λ_=>⟨_,_,rfl⟩) ⟨_,(aw.t rfl)⟩ rfl (λ_=>a)) rfl rfl rfl rfl<|?_;refine cg ?_;refine bg<|bB<|bn<|aL (aM (aw.t rfl)) rfl rfl rfl rfl<|aL (oE Tryz.underlying418 (aw.t rfl) (λ_=>⟨_,_,rfl⟩)) rfl rfl rfl rfl<|aL (da (aw.t rfl)) rfl rfl rfl rfl<|?_;refine cg ?_;refine bg<|bB<|bB<|bn<|aL (aM (aw.t rfl)) rfl rfl rfl rfl<|aL (bk.eqB (tO (aw.t rfl) aw.c) f) rfl rfl rfl rfl<|cg<|bg<|j4 (aw.t rfl) (λh=>by cases h) (λ_=>?_);refine tw<|bg<|bB<|bn<|aL (aM (aw.t rfl)) rfl rfl rfl rfl<|aL (oE Tryz.underlying418 (aw.t rfl) (λ_=>⟨_,_,rfl⟩)) rfl rfl rfl rfl<|aL (da (aw.t rfl)) rfl rfl rfl rfl<|?_;refine cg ?_;refine bg<|bB<|bB<|bn<|aL (aM (aw.t rfl)) rfl rfl rfl rfl<|aL (aM (aw.t rfl)) rfl rfl rfl rfl<|aL (bk.eqB (tO (aw.t rfl) (aw.t rfl)) e) rfl rfl rfl rfl<|cg<|bg<|j4 (aw.t rfl) (λ_=>?_) (λh=>by cases h);refine bB<|bn<|aL (aM (aw.t rfl)) rfl rfl rfl rfl<|aL (aM (aw.t rfl)) rfl rfl rfl rfl<|xP (Ua (aw.t rfl) (aw.t rfl) g) rfl rfl rfl rfl<|aL (da (aw.t rfl)) rfl rfl rfl rfl<|cg<|bg<|wV<|pW<|QM rfl (kK.t rfl) ?_;exact ⟨rfl,rfl⟩
set_option maxRecDepth 100000 in
theorem O1{w:World}{b p n c i m H:Nat}{cur d:zp}{S:TypeId}(hin:i<n)(hm:0<m)(N:n+m<=c)(hc:c<=9223372036854775807)(I:p≠b)
  (hb:w.heap[b]? =some (.cells cur 531 (0,0))) (L:cur.size=c*2) (f:w.heap[p]? =some (.cells d S (0,0))) (Z:m*2<=d.size) (h1:∀v∈cur.toList.take (n*2),v.oneCell'=true) (R:∀v∈d.toList.take (m*2),v.oneCell'=true):
  gK Tryz.prog 412 [.slice (some ⟨b,0,none⟩) n c,.int .i64 (i:Int),.slice (some ⟨p,0,none⟩) m H] w (λr w1=>r= .slice (some ⟨b,0,none⟩) (n+m) c/\kP [b] w w1/\∃cur':zp,w1.heap[b]? =some (.cells cur' 531 (0,0))/\cur'.size=c*2/\cur'.toList.take ((n+m)*2)=(cur.toList.take (n*2)).take (i*2)++d.toList.take (m*2)++(cur.toList.take (n*2)).drop (i*2)):=by
 have Y:((m:Int)==0)=false:=by simp;omega
 have X:((i:Int)==(n:Int))=false:=by simp;omega
 have U:IntKind.i64.wrap ((n:Int)+(m:Int))=((n+m:Nat):Int):=by rw [dP (by omega)];omega
 have T:IntKind.i64.wrap ((i:Int)+(m:Int))=((i+m:Nat):Int):=by rw [dP (by omega)];omega
 have a3:IntKind.i64.wrap (((n+m:Nat):Int)-(i:Int))=((n+m-i:Nat):Int):=by rw [dP (by omega)];omega
 have hl:cur.toList.length=c*2:=by rw [de,L]
 have s:(d.toList.take (m*2)).length=m*2:=by rw [b9,de];omega
 have V:decide ((c:Int)<((n+m:Nat):Int))=false:=by simp;omega
 have D:kP [b] w w:=(Ext.refl w).uP _;have O:∀J K,(callFunc 417 [.slice (some ⟨p,0,none⟩) m H,.slice (some ⟨b,0+(i+m)*2,none⟩) J K].toArray).run Tryz.prog w= .ok (.value (.bool false)) w:=λJ K=>by rw [run_callFunc_extern Tryz.func417 (by kernel_rfl) (by kernel_rfl) (by kernel_rfl) (e:=Extern.SlicesOverlaps.overlaps #[418,418] #[4]) (by kernel_rfl)];have:=Lib.run_overlaps_apart (P:=Tryz.prog) w 418 4 531 Tryz.underlying418 2 (λw=>by obtain ⟨i',Q,M,_,_⟩:=x5.out;simp [sizeOf,typeInfo,Q,M]) ⟨p,0,none⟩ ⟨b,0+(i+m)*2,none⟩ m H J K I S 531 d.size cur.size (by unfold World.shape?;rw [f]) (by unfold World.shape?;rw [hb]) (by omega) (by unfold World.frozen?;rw [f];rfl) (by unfold World.frozen?;rw [f];simp);show ((Extern.SlicesOverlaps.overlaps #[418,418] #[4] #[.slice (some ⟨p,0,none⟩) m H,.slice (some ⟨b,0+(i+m)*2,none⟩) J K]).run Tryz.prog w).andThen _=_;rw [this];rfl
 obtain ⟨x,j,g⟩:=an6 (l:=cur.toList) (vs:=d.toList.take (m*2)) (a:=i*2) (b:=m*2) (n:=n*2) (c:=c*2) (by omega) s (by omega) hl;have A:((cur.toList.drop (i*2)).take (n*2-i*2)).length=n*2-i*2:=by rw [b9,ec];omega
 obtain ⟨k,C⟩:∃k:zp,k=(cur.toList.take (i*2+m*2)++(cur.toList.drop (i*2)).take (n*2-i*2)++cur.toList.drop (i*2+m*2+((cur.toList.drop (i*2)).take (n*2-i*2)).length)).toArray:=⟨_,rfl⟩;have y:k.toList=cur.toList.take (i*2+m*2)++(cur.toList.drop (i*2)).take (n*2-i*2)++cur.toList.drop (i*2+m*2+((cur.toList.drop (i*2)).take (n*2-i*2)).length):=by rw [C]
 rw [<-y] at x j g;obtain ⟨E,B⟩:∃E:zp,E=(k.toList.take (i*2)++d.toList.take (m*2)++k.toList.drop (i*2+(d.toList.take (m*2)).length)).toArray:=⟨_,rfl⟩;have u:E.toList=k.toList.take (i*2)++d.toList.take (m*2)++k.toList.drop (i*2+(d.toList.take (m*2)).length):=by rw [B]
 rw [<-u] at j g;rw [de] at x j;rw [show n*2+m*2=(n+m)*2 by omega] at g;have G:∀W:World,W.heap[b]? =some (.cells cur 531 (0,0))->∀ty dc sc,(Builtin.copy_ #[418,418] ty #[.slice (some ⟨b,0+(i+m)*2,none⟩) (n+m-(i+m)) dc,.slice (some ⟨b,0+i*2,none⟩) (n+m-i) sc]).run Tryz.prog W= .ok (goInt (Nat.min (n+m-i) (n+m-(i+m)))) (W.setRow b k):=λW hb ty dc sc=>by
  have o:Nat.min (n+m-i) (n+m-(i+m))=n-i:=by simp only [Nat.min_def];split <;> omega
  rw [C,show i*2+m*2=0+(i+m)*2 by omega];exact uQ Tryz.underlying418 x5 (by rw [A,o];omega) (cell_of_heap hb _ _ (by rw [A,l7])) hb (by rw [A];omega) (λv f=>h1 v (by rw [<-qn] at f;exact qS f))
 have F:∀W:World,W.heap[b]? =some (.cells k 531 (0,0))->W.heap[p]? =some (.cells d S (0,0))->∀ty dc,(Builtin.copy_ #[418,418] ty #[.slice (some ⟨b,0+i*2,none⟩) (n+m-i) dc,.slice (some ⟨p,0,none⟩) m H]).run Tryz.prog W= .ok (goInt (Nat.min m (n+m-i))) (W.setRow b E):=λW hb f ty dc=>by
  have o:Nat.min m (n+m-i)=m:=by simp only [Nat.min_def];split <;> omega
  rw [B,l7];exact uQ Tryz.underlying418 x5 (by rw [s,o]) (cell_of_heap f _ _ (by rw [s,qa])) hb (by rw [s];omega) R
 clear C B y u;refine jG Tryz.func412 rfl Tryz.ntmps412 rfl<|bB<|bn<|aL (da aw.c) rfl rfl rfl rfl<|cg<|bg<|bB<|bn<|aL (aM (aw.t rfl)) rfl rfl rfl rfl<|aL (aM (aw.t rfl)) rfl rfl rfl rfl<|aL (oN Tryz.underlying418 x5 (aw.t rfl) (aw.t rfl) (by omega) (by omega) (by omega)) rfl rfl rfl rfl<|?_;refine cg ?_;refine bg<|bB<|bn<|aL (aM (aw.t rfl)) rfl rfl rfl rfl<|aL (oE Tryz.underlying418 (aw.t rfl) (λ_=>⟨_,_,rfl⟩)) rfl rfl rfl rfl<|aL (da (aw.t rfl)) rfl rfl rfl rfl<|?_;refine cg ?_;refine bg<|bB<|bB<|bn<|aL (aM (aw.t rfl)) rfl rfl rfl rfl<|aL (bk.eqB (tO (aw.t rfl) aw.c) Y) rfl rfl rfl rfl<|cg<|bg<|j4 (aw.t rfl) (λh=>by cases h) (λ_=>?_);refine tw<|bg<|bB<|bn<|aL (aM (aw.t rfl)) rfl rfl rfl rfl<|aL (oE Tryz.underlying418 (aw.t rfl) (λ_=>⟨_,_,rfl⟩)) rfl rfl rfl rfl<|aL (da (aw.t rfl)) rfl rfl rfl rfl<|?_;refine cg ?_;refine bg<|bB<|bB<|bn<|aL (aM (aw.t rfl)) rfl rfl rfl rfl<|aL (aM (aw.t rfl)) rfl rfl rfl rfl<|aL (bk.eqB (tO (aw.t rfl) (aw.t rfl)) X) rfl rfl rfl rfl<|cg<|bg<|j4 (aw.t rfl) (λh=>by cases h) (λ_=>?_);refine tw<|bg<|bB<|bB<|bn<|aL (aM (aw.t rfl)) rfl rfl rfl rfl<|aL (aM (aw.t rfl)) rfl rfl rfl rfl<|aL (bk.eqI (vW (aw.t rfl) (aw.t rfl)) U) rfl rfl rfl rfl<|aL (aM (aw.t rfl)) rfl rfl rfl rfl<|aL (abw Tryz.underlying418 (aw.t rfl)) rfl rfl rfl rfl<|aL (bk.eqB (ZA (aw.t rfl) (aw.t rfl)) V) rfl rfl rfl rfl<|cg<|bg<|j4 (aw.t rfl) (λh=>by cases h) (λ_=>?_);refine tw<|bg<|bB<|bn<|aL (aM (aw.t rfl)) rfl rfl rfl rfl<|aL (aM (aw.t rfl)) rfl rfl rfl rfl<|aL (aM (aw.t rfl)) rfl rfl rfl rfl<|aL (bk.eqI (vW (aw.t rfl) (aw.t rfl)) U) rfl rfl rfl rfl<|aL (afN Tryz.underlying418 x5 (aw.t rfl) (aw.t rfl) (by omega)) rfl rfl rfl rfl<|aL (da (aw.t rfl)) rfl rfl rfl rfl<|?_;refine cg ?_;refine bg<|bB<|bB<|bn<|aL (aM (aw.t rfl)) rfl rfl rfl rfl<|aL (aM (aw.t rfl)) rfl rfl rfl rfl<|aL (aM (aw.t rfl)) rfl rfl rfl rfl<|aL (aM (aw.t rfl)) rfl rfl rfl rfl<|aL (bk.eqI (vW (aw.t rfl) (aw.t rfl)) T) rfl rfl rfl rfl<|aL (oN Tryz.underlying418 x5 (aw.t rfl) (aw.t rfl) (by omega) (by omega) (by omega)) rfl rfl rfl rfl<|aL (akZ (xs:=[(.tmp 61),(.tmp 66)]) (.cons (aw.t rfl) (.cons (aw.t rfl) .nil)) (O _ _)) rfl rfl rfl rfl<|aL (afu (aw.t rfl)) rfl rfl rfl rfl<|?_;refine cg ?_;refine bg<|j4 (aw.t rfl) (λ_=>?_) (λh=>by cases h);refine bB<|xz [0,0,0,6,9,0,0,96,144] (.q 0 0 (.q 1 1 (.q 2 3 (.q 3 7 (.q 4 15 (.q 5 31 (.q 6 63 (.q 7 127 (.l 8 255 .nil))))))))) (by kernel_rfl) (by kernel_rfl) ?_;intro w1 z;replace hb:=(z.block _ (Array.getElem?_eq_some_iff.1 hb).1).trans hb;replace f:=(z.block _ (Array.getElem?_eq_some_iff.1 f).1).trans f;replace D:=D.trans (z.uP _);refine iK (λ_=>(aM (aw.t rfl))) rfl rfl rfl rfl<|iK (λ_=>(aM (aw.t rfl))) rfl rfl rfl rfl<|iK (λ_=>(aM (aw.t rfl))) rfl rfl rfl rfl<|iK (λ_=>(bk.eqI (vW (aw.t rfl) (aw.t rfl)) T)) rfl rfl rfl rfl<|iK (λ_=>(oN Tryz.underlying418 x5 (aw.t rfl) (aw.t rfl) (by omega) (by omega) (by omega))) rfl rfl rfl rfl<|iK (λ_=>(aM (aw.t rfl))) rfl rfl rfl rfl<|iK (λ_=>(aM (aw.t rfl))) rfl rfl rfl rfl<|iK (λ_=>(oN Tryz.underlying418 x5 (aw.t rfl) (aw.t rfl) (by omega) (by omega) (by omega))) rfl rfl rfl rfl<|?_;refine ajz (pend':=[]) rfl (by kernel_rfl) ?_;refine xP (A6 (aw.t rfl) (aw.t rfl) (G _ hb _ _ _)) rfl rfl rfl rfl ?_;replace hb:=setRow_heap _ b cur k 531 (0,0) hb;replace f:=(setRow_other _ b p k I).trans f;replace D:=D.trans (xN b k);refine cg<|ara aga<|ann<|bg<|bB<|bn<|aL (aM (aw.t rfl)) rfl rfl rfl rfl<|aL (aM (aw.t rfl)) rfl rfl rfl rfl<|aL (oN Tryz.underlying418 x5 (aw.t rfl) (aw.t rfl) (by omega) (by omega) (by omega)) rfl rfl rfl rfl<|aL (aM (aw.t rfl)) rfl rfl rfl rfl<|?_;refine xP (A6 (aw.t rfl) (aw.t rfl) (F _ hb f _ _)) rfl rfl rfl rfl ?_;replace hb:=setRow_heap _ b k E 531 (0,0) hb;replace D:=D.trans (xN b E);refine cg<|bg<|bB<|bn<|aL (aM (aw.t rfl)) rfl rfl rfl rfl<|aL (da (aw.t rfl)) rfl rfl rfl rfl<|cg<|bg<|wV<|pW<|QM rfl (kK.t rfl) ?_;exact ⟨rfl,D,E,hb,j,g⟩
set_option maxRecDepth 100000 in
theorem avV{w:World}{b L n c i m mc:Nat}{cur d:zp}{ev:TypeId}(hin:i<n)(hm:0<m)(hnc:n<=c)(hroom:c<n+m)(T:(n+m)*16<=140737488355328)
  (hb:w.heap[b]? =some (.cells cur 531 (0,0))) (hsz:cur.size=c*2) (g:w.heap[L]? =some (.cells d ev (0,0))) (hvs:m*2<=d.size) (h1:∀v∈cur.toList.take (n*2),v.oneCell'=true) (h1v:∀v∈d.toList.take (m*2),v.oneCell'=true):
  gK Tryz.prog 412 [.slice (some ⟨b,0,none⟩) n c,.int .i64 (i:Int),.slice (some ⟨L,0,none⟩) m mc] w (λr w1=>r= .slice (some ⟨w.heap.size,0,none⟩) (n+m) (grownCap w (n+m) c 531)/\kP [w.heap.size] w w1/\∃cur':zp,w1.heap[w.heap.size]? =some (.cells cur' 531 (0,0))/\cur'.size=grownCap w (n+m) c 531*2/\cur'.toList.take ((n+m)*2)=(cur.toList.take (n*2)).take (i*2)++d.toList.take (m*2)++(cur.toList.take (n*2)).drop (i*2)):=by
 have z1:((m:Int)==0)=false:=by simp;omega
 have z2:((i:Int)==(n:Int))=false:=by simp;omega
 have a1:IntKind.i64.wrap ((n:Int)+(m:Int))=((n+m:Nat):Int):=by rw [dP (by omega)];omega
 have a2:IntKind.i64.wrap ((i:Int)+(m:Int))=((i+m:Nat):Int):=by rw [dP (by omega)];omega
 have a3:IntKind.i64.wrap (((n+m:Nat):Int)-(i:Int))=((n+m-i:Nat):Int):=by rw [dP (by omega)];omega
 have hl:cur.toList.length=c*2:=by rw [de,hsz]
 have u:(d.toList.take (m*2)).length=m*2:=by rw [b9,de];omega
 have z3:decide ((c:Int)<((n+m:Nat):Int))=true:=by simp;omega
 have hbN:b≠w.heap.size:=by have:=(Array.getElem?_eq_some_iff.1 hb).1;omega
 have hvN:L≠w.heap.size:=by have:=(Array.getElem?_eq_some_iff.1 g).1;omega
 obtain ⟨i0,hi0,hs0,U,hz0⟩:=x5.out;have S:(cur.toList.take (n*2)).length=n*2:=by rw [b9];omega
 have E:((cur.toList.take (n*2)).take (i*2)).length=i*2:=by rw [b9];omega
 have x:(Builtin.firstCells i0.size i (.slice (some ⟨b,0,none⟩) i c)).run Tryz.prog w.drew= .ok ((cur.toList.take (n*2)).take (i*2)).toArray w.drew:=by rw [hs0];exact run_firstCells_some w.drew 2 i ⟨b,0,none⟩ i c _ (by rw [E]) (cell_of_heap (w:=w.drew) hb 0 _ (by rw [E,qa,pF,et (by omega)]))
 have e:=Lib.run_append_grow_zeros (P:=Tryz.prog) w 418 3 418 531 i0 _ .i64 .i64 Tryz.underlying418 Tryz.underlying3 hi0 hz0 (some ⟨b,0,none⟩) i c _ x (n+m-i) (by omega) (by omega) (by omega) (by omega) (by rw [U];omega) (by rw [U];exact growslice_fits (by omega) (by rw [show i+(n+m-i)=n+m by omega];exact T));rw [show i+(n+m-i)=n+m by omega] at e;obtain ⟨G,hG⟩:∃G,G=grownCap w (n+m) c 531:=⟨_,rfl⟩;have hGn:n+m<=G:=by rw [hG];exact grownCap_ge w _ _ _
 have hG63:G<=9223372036854775807:=by have:=grownCap_le_maxLen w (n+m) c 531 (by unfold maxLen;omega);rw [<-hG] at this;unfold maxLen at this;omega
 rw [<-hG] at e ⊢;obtain ⟨O,B⟩:∃O:zq,O=(Builtin.zeroCells ((.agg #[(.int .u8 0),(.int .i64 0)]):Value).cells (n+m-i)++Builtin.zeroCells ((.agg #[(.int .u8 0),(.int .i64 0)]):Value).cells (G-(n+m))).toList:=⟨_,rfl⟩;have C:O.length=(G-i)*2:=by have hz2:((.agg #[(.int .u8 0),(.int .i64 0)]):Value).cells.size=2:=rfl;rw [B,de,qJ,size_zeroCells,size_zeroCells,hz2];omega
 obtain ⟨f,I⟩:∃f:zp,f=((cur.toList.take (n*2)).take (i*2)).toArray++Builtin.zeroCells ((.agg #[(.int .u8 0),(.int .i64 0)]):Value).cells (n+m-i)++Builtin.zeroCells ((.agg #[(.int .u8 0),(.int .i64 0)]):Value).cells (G-(n+m)):=⟨_,rfl⟩;rw [<-I] at e;have p:f.toList=(cur.toList.take (n*2)).take (i*2)++O:=by rw [I,B];simp
 have Y:f.size=G*2:=by have:=congrArg List.length p;rw [de,cO,E,C] at this;omega
 have hrz:(Builtin.append_ #[418,3] 418 #[.slice (some ⟨b,0,none⟩) i c,.int .i64 ((n+m-i:Nat):Int)]).run Tryz.prog w= .ok (.slice (some ⟨w.heap.size,0,none⟩) (n+m) G) (w.drew.alloc (.cells f 531)):=e;obtain ⟨Z,N,M⟩:=apn (l:=cur.toList.take (n*2)) (vs:=d.toList.take (m*2)) (z:=O) (a:=i*2) (b:=m*2) (n:=n*2) (by omega) u S (by rw [C];omega);rw [<-p] at Z N M;obtain ⟨k,H⟩:∃k:zp,k=(f.toList.take (i*2)++d.toList.take (m*2)++f.toList.drop (i*2+(d.toList.take (m*2)).length)).toArray:=⟨_,rfl⟩;have A:k.toList=f.toList.take (i*2)++d.toList.take (m*2)++f.toList.drop (i*2+(d.toList.take (m*2)).length):=by rw [H]
 rw [<-A] at Z N M;have D:((cur.toList.take (n*2)).drop (i*2)).length=n*2-i*2:=by rw [ec,S]
 obtain ⟨K,F⟩:∃K:zp,K=(k.toList.take (i*2+m*2)++(cur.toList.take (n*2)).drop (i*2)++k.toList.drop (i*2+m*2+((cur.toList.take (n*2)).drop (i*2)).length)).toArray:=⟨_,rfl⟩;have y:K.toList=k.toList.take (i*2+m*2)++(cur.toList.take (n*2)).drop (i*2)++k.toList.drop (i*2+m*2+((cur.toList.take (n*2)).drop (i*2)).length):=by rw [F]
 rw [<-y] at N M;rw [de,de,Y] at Z N;rw [show n*2+m*2=(n+m)*2 by omega] at M;have X:=N;have V:=M;have R:∀W:World,W.heap[w.heap.size]? =some (.cells f 531 (0,0))->W.heap[L]? =some (.cells d ev (0,0))->∀ty dc,(Builtin.copy_ #[418,418] ty #[.slice (some ⟨w.heap.size,0+i*2,none⟩) (n+m-i) dc,.slice (some ⟨L,0,none⟩) m mc]).run Tryz.prog W= .ok (goInt (Nat.min m (n+m-i))) (W.setRow w.heap.size k):=λW j g ty dc=>by
  have o:Nat.min m (n+m-i)=m:=by simp only [Nat.min_def];split <;> omega
  rw [H,l7];exact uQ Tryz.underlying418 x5 (by rw [u,o]) (cell_of_heap g _ _ (by rw [u,qa])) j (by rw [u];omega) h1v
 have Q:∀W:World,W.heap[w.heap.size]? =some (.cells k 531 (0,0))->W.heap[b]? =some (.cells cur 531 (0,0))->∀ty dc sc,(Builtin.copy_ #[418,418] ty #[.slice (some ⟨w.heap.size,0+(i+m)*2,none⟩) (n+m-(i+m)) dc,.slice (some ⟨b,0+i*2,none⟩) (n-i) sc]).run Tryz.prog W= .ok (goInt (Nat.min (n-i) (n+m-(i+m)))) (W.setRow w.heap.size K):=λW j hb ty dc sc=>by
  have o:Nat.min (n-i) (n+m-(i+m))=n-i:=by simp only [Nat.min_def];split <;> omega
  rw [F,show i*2+m*2=0+(i+m)*2 by omega];exact uQ Tryz.underlying418 x5 (by rw [D,o];omega) (cell_of_heap hb _ _ (by rw [D,l7,qn])) j (by rw [D];omega) (λv g=>h1 v (qS g))
 have J:kP [w.heap.size] w (w.drew.alloc (.cells f 531)):=⟨rfl,rfl,rfl,by simp,λb hb _=>heap_alloc_old w.drew _ hb⟩;clear H F A y I p B C Z N M e x;refine jG Tryz.func412 rfl Tryz.ntmps412 rfl<|bB<|bn<|aL (da aw.c) rfl rfl rfl rfl<|cg<|bg<|bB<|bn<|aL (aM (aw.t rfl)) rfl rfl rfl rfl<|aL (aM (aw.t rfl)) rfl rfl rfl rfl<|aL (oN Tryz.underlying418 x5 (aw.t rfl) (aw.t rfl) (by omega) (by omega) (by omega)) rfl rfl rfl rfl<|?_;refine cg ?_;refine bg<|bB<|bn<|aL (aM (aw.t rfl)) rfl rfl rfl rfl<|aL (oE Tryz.underlying418 (aw.t rfl) (λ_=>⟨_,_,rfl⟩)) rfl rfl rfl rfl<|aL (da (aw.t rfl)) rfl rfl rfl rfl<|?_;refine cg ?_;refine bg<|bB<|bB<|bn<|aL (aM (aw.t rfl)) rfl rfl rfl rfl<|aL (bk.eqB (tO (aw.t rfl) aw.c) z1) rfl rfl rfl rfl<|cg<|bg<|j4 (aw.t rfl) (λh=>by cases h) (λ_=>?_);refine tw<|bg<|bB<|bn<|aL (aM (aw.t rfl)) rfl rfl rfl rfl<|aL (oE Tryz.underlying418 (aw.t rfl) (λ_=>⟨_,_,rfl⟩)) rfl rfl rfl rfl<|aL (da (aw.t rfl)) rfl rfl rfl rfl<|?_;refine cg ?_;refine bg<|bB<|bB<|bn<|aL (aM (aw.t rfl)) rfl rfl rfl rfl<|aL (aM (aw.t rfl)) rfl rfl rfl rfl<|aL (bk.eqB (tO (aw.t rfl) (aw.t rfl)) z2) rfl rfl rfl rfl<|cg<|bg<|j4 (aw.t rfl) (λh=>by cases h) (λ_=>?_);refine tw<|bg<|bB<|bB<|bn<|aL (aM (aw.t rfl)) rfl rfl rfl rfl<|aL (aM (aw.t rfl)) rfl rfl rfl rfl<|aL (bk.eqI (vW (aw.t rfl) (aw.t rfl)) a1) rfl rfl rfl rfl<|aL (aM (aw.t rfl)) rfl rfl rfl rfl<|aL (abw Tryz.underlying418 (aw.t rfl)) rfl rfl rfl rfl<|aL (bk.eqB (ZA (aw.t rfl) (aw.t rfl)) z3) rfl rfl rfl rfl<|cg<|bg<|j4 (aw.t rfl) (λ_=>?_) (λh=>by cases h);refine bB<|bn<|aL (aM (aw.t rfl)) rfl rfl rfl rfl<|aL (aM (aw.t rfl)) rfl rfl rfl rfl<|aL (afN Tryz.underlying418 x5 (aw.t rfl) (aw.t rfl) (by omega)) rfl rfl rfl rfl<|aL (aM (aw.t rfl)) rfl rfl rfl rfl<|aL (aM (aw.t rfl)) rfl rfl rfl rfl<|aL (bk.eqI (vW (aw.t rfl) (aw.t rfl)) a1) rfl rfl rfl rfl<|aL (aM (aw.t rfl)) rfl rfl rfl rfl<|aL (bk.eqI (aju (aw.t rfl) (aw.t rfl)) a3) rfl rfl rfl rfl<|?_;refine xP (Ua (aw.t rfl) (aw.t rfl) hrz) rfl rfl rfl rfl ?_;have j:=heap_alloc_new w.drew (.cells f 531);replace hb:=(heap_alloc_old w.drew (.cells f 531) (Array.getElem?_eq_some_iff.1 hb).1).trans hb;replace g:=(heap_alloc_old w.drew (.cells f 531) (Array.getElem?_eq_some_iff.1 g).1).trans g;refine aL (da (aw.t rfl)) rfl rfl rfl rfl<|cg<|bg<|bB<|bn<|aL (aM (aw.t rfl)) rfl rfl rfl rfl<|aL (aM (aw.t rfl)) rfl rfl rfl rfl<|aL (oN Tryz.underlying418 x5 (aw.t rfl) (aw.t rfl) (by omega) (by omega) (by omega)) rfl rfl rfl rfl<|aL (aM (aw.t rfl)) rfl rfl rfl rfl<|?_;refine xP (A6 (aw.t rfl) (aw.t rfl) (R _ j g _ _)) rfl rfl rfl rfl ?_;replace J:=J.trans (xN w.heap.size k);replace j:=setRow_heap _ w.heap.size f k 531 (0,0) j;replace hb:=(setRow_other _ w.heap.size b k hbN).trans hb;replace g:=(setRow_other _ w.heap.size L k hvN).trans g;refine cg<|bg<|bB<|xz [0,0,0,6,9,0,0,96,144] (.q 0 0 (.q 1 1 (.q 2 3 (.q 3 7 (.q 4 15 (.q 5 31 (.q 6 63 (.q 7 127 (.l 8 255 .nil))))))))) (by kernel_rfl) (by kernel_rfl) ?_;intro w1 s;replace j:=(s.block _ (Array.getElem?_eq_some_iff.1 j).1).trans j;replace hb:=(s.block _ (Array.getElem?_eq_some_iff.1 hb).1).trans hb;replace g:=(s.block _ (Array.getElem?_eq_some_iff.1 g).1).trans g;replace J:=J.trans (s.uP _);refine iK (λ_=>(aM (aw.t rfl))) rfl rfl rfl rfl<|iK (λ_=>(aM (aw.t rfl))) rfl rfl rfl rfl<|iK (λ_=>(aM (aw.t rfl))) rfl rfl rfl rfl<|iK (λ_=>(bk.eqI (vW (aw.t rfl) (aw.t rfl)) a2)) rfl rfl rfl rfl<|iK (λ_=>(oN Tryz.underlying418 x5 (aw.t rfl) (aw.t rfl) (by omega) (by omega) (by omega))) rfl rfl rfl rfl<|iK (λ_=>(aM (aw.t rfl))) rfl rfl rfl rfl<|iK (λ_=>(aM (aw.t rfl))) rfl rfl rfl rfl<|iK (λ_=>(oN Tryz.underlying418 x5 (aw.t rfl) (aw.t rfl) (by omega) (by omega) (by omega))) rfl rfl rfl rfl<|?_;refine ajz (pend':=[]) rfl (by kernel_rfl) ?_;refine xP (A6 (aw.t rfl) (aw.t rfl) (Q _ j hb _ _ _)) rfl rfl rfl rfl ?_;replace J:=J.trans (xN w.heap.size K);replace j:=setRow_heap _ w.heap.size k K 531 (0,0) j;refine cg<|ara aga<|ann<|bg<|bB<|bn<|aL (aM (aw.t rfl)) rfl rfl rfl rfl<|aL (da (aw.t rfl)) rfl rfl rfl rfl<|cg<|bg<|wV<|pW<|QM rfl (kK.t rfl) ?_;exact ⟨rfl,J,K,j,X,V⟩
theorem ad5{Φ:Ctx}{v U:gP}{xs ys:zk}{R Ry:zC}{i:Int}(J:Sat (iB (RP (RI .u8) (RI .i64)) 531 (sl v) xs R::iB (RP (RI .u8) (RI .i64)) 531 (sl U) ys Ry::Φ) w)(L:ys≠[])(hi:BY i xs.length=true)(g:aH (xs.length+ys.length) 16=true):
  gK Tryz.prog 412 [sl v,.int .i64 i,sl U] w (λr w'=>∃(p:gP) (W:zC),r=sl p/\Sat (iB (RP (RI .u8) (RI .i64)) 531 (sl p) (kE xs i ys) W::Mi (Mw (RP (RI .u8) (RI .i64))) [sl U] ys::Φ) w'):=by
 obtain ⟨hi0,hi1⟩:=afn.1 hi;obtain ⟨k,rfl⟩:∃k:Nat,i=k:=⟨i.toNat,by omega⟩;have hk:k<=xs.length:=by omega
 have D:0<ys.length:=List.length_pos_iff.2 L;have hO:=J.own (i:=0) rfl;obtain ⟨p,c,I,H⟩:=hO.shape;obtain ⟨V,mc,j,l,hRy,M,hmc,_,B,u⟩:=(J.own (i:=1) rfl).auR (by decide) L;have mono:∀{S S':Value->World->Prop} {args},gK Tryz.prog 412 args w S->(∀r w',S r w'->S' r w')->gK Tryz.prog 412 args w S':=λh C=>mV.mono h C (λ_ _ h=>h);by_cases N:k=xs.length
 . -- at the end
  subst N;have o:=J.freeze (i:=1) rfl;have o:Sat (iB (RP (RI .u8) (RI .i64)) 531 (sl v) xs R::Mi (Mw (RP (RI .u8) (RI .i64))) [sl U] ys::Φ) w:=o;obtain ⟨v',W,w',hr,A,T,hP⟩:=aml (t:=418) (ty:=418) Tryz.underlying418 x5 rfl (by decide) (o.own (i:=0) rfl) (o.sl (i:=1) rfl) (λb hb=>Ctx.j7 (i:=0) rfl hb) g;have C:=o.iP (i:=0) rfl (new:=iB (RP (RI .u8) (RI .i64)) 531 v' (xs++ys) W) A T (λM' m _=>hP M' m);have X:∃p,v'=sl p:=by obtain ⟨a,cap,I⟩:=(C.own (i:=0) rfl).len;exact ⟨(a,_,cap),I⟩
  obtain ⟨p',rfl⟩:=X;rw [I,l] at hr ⊢;refine mono (yi H D hr) ?_;rintro r w1 ⟨rfl,rfl⟩;rw [<-l];refine ⟨p',W,rfl,?_⟩;rw [aoR];exact C
 .have z:k<xs.length:=by omega
  have K:xs≠[]:=λh=>by rw [h] at z;simp at z
  obtain ⟨b,c,cur,I,T,hh,H,Q,F,x⟩:=hO.auR (by decide) K;have P:c<=9223372036854775807:=by unfold maxLen at Q;omega
  have Y:V≠b:=by intro e;subst e;exact J.sep 0 1 _ _ rfl rfl (by decide) V (by show V∈R;rw [T];simp) (by show V∈Ry;rw [hRy];simp)
  have f:=aqj (ys:=ys) hk;simp only [aH,ah] at g;have hb1:=dk g.1;have Z:=dk g.2;have hcur:c*2=cur.size:=F.symm;by_cases y:xs.length+ys.length<=c
  . -- there is room
   rw [I,l];refine mono (O1 z D y P Y hh F M (by rw [show j.size=mc*2 from B];omega) x.Dm u.Dm) ?_;rintro r w1 ⟨rfl,A,s,q,G,E⟩;rw [<-l];refine ⟨(some ⟨b,0,none⟩,xs.length+ys.length,c),[b],rfl,?_⟩;have C:=J.iP (i:=0) rfl (new:=iB (RP (RI .u8) (RI .i64)) 531 (.slice (some ⟨b,0,none⟩) (xs.length+ys.length) c) (kE xs (k:Int) ys) [b]) (by show kP R w w1;rw [T];exact A) (λd O=>by
    have:d=b:=by simpa [iB] using O
    subst this;exact ⟨(Array.getElem?_eq_some_iff.1 q).1,.inl (by show d∈R;rw [T];simp)⟩) (λM' m _=>by
    show bR _ _ _ _ _ _ _;rw [<-f];refine bR.mk0 q (by omega) Q G ?_;rw [f];have:=(ajw (i:=k) x u).mv m;have e:s.toList.take ((xs.length+ys.length)*((RP (RI .u8) (RI .i64))).n)=(cur.toList.take (xs.length*((RP (RI .u8) (RI .i64))).n)).take (k*((RP (RI .u8) (RI .i64))).n)++j.toList.take (ys.length*((RP (RI .u8) (RI .i64))).n)++(cur.toList.take (xs.length*((RP (RI .u8) (RI .i64))).n)).drop (k*((RP (RI .u8) (RI .i64))).n):=E;rw [e];exact this)
   exact C.freeze (i:=1) rfl
  . -- a new row
   rw [I,l];refine mono (avV z D H (by omega) hb1 hh F M (by rw [show j.size=mc*2 from B];omega) x.Dm u.Dm) ?_;rintro r w1 ⟨rfl,A,s,q,G,E⟩;rw [<-l];refine ⟨(some ⟨w.heap.size,0,none⟩,xs.length+ys.length,_),[w.heap.size],rfl,?_⟩;have hE:kP R w w1:=⟨A.os,A.tape,A.output,A.size,λd O _=>A.block d O (by simp;omega)⟩;have C:=J.iP (i:=0) rfl (new:=iB (RP (RI .u8) (RI .i64)) 531 (.slice (some ⟨w.heap.size,0,none⟩) (xs.length+ys.length) (grownCap w (xs.length+ys.length) c 531)) (kE xs (k:Int) ys) [w.heap.size]) hE (λd O=>by
    have:d=w.heap.size:=by simpa [iB] using O
    subst this;exact ⟨(Array.getElem?_eq_some_iff.1 q).1,.inr (b7 _)⟩) (λM' m _=>by
    show bR _ _ _ _ _ _ _;rw [<-f];refine bR.mk0 (by rw [f] at *; exact q) (by rw [f];exact grownCap_ge w _ _ _) (by rw [f];exact grownCap_le_maxLen w _ c 531 (by simpa [maxLen] using Z)) (by rw [f];exact G) ?_;rw [f];have:=(ajw (i:=k) x u).mv m;have e:s.toList.take ((xs.length+ys.length)*((RP (RI .u8) (RI .i64))).n)=(cur.toList.take (xs.length*((RP (RI .u8) (RI .i64))).n)).take (k*((RP (RI .u8) (RI .i64))).n)++j.toList.take (ys.length*((RP (RI .u8) (RI .i64))).n)++(cur.toList.take (xs.length*((RP (RI .u8) (RI .i64))).n)).drop (k*((RP (RI .u8) (RI .i64))).n):=E;rw [e];exact this)
   exact C.freeze (i:=1) rfl
end I412
open Go.Lib
theorem as3{P:Program}{Γg:Ctx}{f e bytes:Nat}{t:Ty}(hE:Enters P f)
  (o:∀{Φ:Ctx} {w:World} {v C:gP} {xs ys:List t.T} {R Ry:zC} {i:Int},Sat (iB t.rep e (sl v) xs R::iB t.rep e (sl C) ys Ry::Φ) w->ys≠[]->BY i xs.length=true->aH (xs.length+ys.length) bytes=true->
   gK P f [sl v,.int .i64 i,sl C] w (λr w'=>∃(p:gP) (n:zC),r=sl p/\Sat (iB t.rep e (sl p) (kE xs i ys) n::Mi (Mw t.rep) [sl C] ys::Φ) w'))
  (m:List t.T->Int->List t.T->Option (List t.T)) (hm:∀xs i ys r,m xs i ys=some r->ys≠[]/\BY i xs.length=true/\aH (xs.length+ys.length) bytes=true/\r=kE xs i ys):
  (⟨f,[.own t e true,.int .i64,.own t e true],.own t e true,[],λs=>m s.1 s.2.1 s.2.2⟩:au).Ok P Γg:=by
 refine ⟨hE,λs r hr vs N I X Φ w hS H hΦ=>?_⟩;obtain ⟨v1,Z,D1,D2,I1,I2,X1,X2,N1,rfl,⟨a,l,rfl,_,rfl,rfl,rfl,rfl,_⟩,⟨v2,W,D3,D4,I3,I4,X3,X4,N2,rfl,⟨i,rfl,rfl,rfl,rfl,rfl⟩,⟨v3,V,D5,D6,I5,I6,X5,X6,N3,rfl,⟨b,S,rfl,_,rfl,rfl,rfl,rfl,_⟩,⟨rfl,rfl,rfl,rfl,rfl⟩,rfl,rfl,rfl⟩,rfl,rfl,rfl⟩,z,rfl,rfl⟩:=hS;obtain ⟨c,u,g⟩:=s;obtain ⟨J,hb,k,rfl⟩:=hm c u g r hr;have z:[(⟨.l t,c⟩:cn),⟨.i .i64,u⟩,⟨.l t,g⟩]=[⟨.l t,l⟩,⟨.i .i64,i⟩,⟨.l t,S⟩]:=z;simp only [nI,uc] at z;obtain ⟨Q,O,L⟩:=z;have q1:c=l:=by cases Q;rfl
 have q2:u=i:=by cases O;rfl
 have q3:g=S:=by cases L;rfl
 subst q1 q2 q3;have H:Sat (pw t.rep e a.v c True::pw t.rep e b.v g True::Φ) w:=H;have G:Sat (iB t.rep e (sl a.v) c (wg a.v)::pw t.rep e b.v g True::Φ) w:=Sat.Ge (A:=[]) H ⟨λ_ h=>h,λM w h=>h.1⟩;have F:Sat (iB t.rep e (sl a.v) c (wg a.v)::iB t.rep e (sl b.v) g (wg b.v)::Φ) w:=Sat.Ge (A:=[iB t.rep e (sl a.v) c (wg a.v)]) G ⟨λ_ h=>h,λM w h=>h.1⟩;refine gK.mono (o F J hb k) ?_;rintro v w' ⟨p,n,rfl,j⟩;obtain ⟨Y,U⟩:∃Y:List t.T,Y=kE c u g:=⟨_,rfl⟩;rw [<-U] at j;refine ⟨[a,b,{ df with v:=p,y:=⟨.l t,Y⟩ }],[a,b,{ df with v:=p,y:=⟨.l t,Y⟩ }],[⟨.l t,Y⟩],[],[(true,pw t.rep e p Y True)],[],[],[],
  ⟨{ df with v:=p,y:=⟨.l t,Y⟩ },Y,rfl,(λq h=>by cases h),rfl,rfl,rfl,rfl,rfl⟩,⟨rfl,rfl,rfl,rfl⟩,by rw [U];rfl,?_⟩
 have hO:=j.own (i:=0) rfl;have d:=hO.canon;have E:Sat ([iB t.rep e (sl p) Y n]++gS::Φ) w':=Sat.Ge (A:=[iB t.rep e (sl p) Y n]) (B:=Φ) j ⟨(λ_ h=>nomatch h),λ_ _ _=>trivial⟩;have D:=Sat.kE (A:=[iB t.rep e (sl p) Y n]) (B:=gS::Φ) E [gS] (λit K=>by rw [List.mem_singleton.1 K];exact ⟨rfl,λ_ _=>trivial⟩);exact Sat.Ge (A:=[]) (B:=gS::gS::Φ) (x:=iB t.rep e (sl p) Y n) D ⟨λb hb=>d.1 b hb,λM w h=>⟨d.2 M w h,trivial⟩⟩
end Go.Proofs.YtdolcddlmodkkaaGreatDoor
namespace Go.Proofs
open Go.Shelf
def Tryz.R9:Go.Shelf.Ren:=⟨λ| 145=>68|220=>126|219=>189|217=>228|225=>229|224=>230|267=>231|266=>251|314=>252|n=>n,λ| 9=>9|4=>4|59=>175|3=>3|5=>5|46=>355|146=>381|51=>380|n=>n,λ| 1=>2|n=>n⟩
theorem Tryz.ajL:Go.Proofs.LaysM.n145 Tryz.prog Tryz.R9:={
 mixed:=by kernel_rfl
 f145:=Tryz.func68.trans (congrArg some (by kernel_rfl))
 f217:=Tryz.func228.trans (congrArg some (by kernel_rfl))
 f219:=Tryz.func189.trans (congrArg some (by kernel_rfl))
 f220:=Tryz.func126.trans (congrArg some (by kernel_rfl))
 f224:=Tryz.func230.trans (congrArg some (by kernel_rfl))
 f225:=Tryz.func229.trans (congrArg some (by kernel_rfl))
 f266:=Tryz.func251.trans (congrArg some (by kernel_rfl))
 f267:=Tryz.func231.trans (congrArg some (by kernel_rfl))
 f314:=Tryz.func252.trans (congrArg some (by kernel_rfl))
 t3:=Tryz.underlying3
 a3:=Tryz.isAgg3
 z3:=Tryz.sizeOf3
 v3:=Tryz.zeroValue3
 t4:=Tryz.underlying4
 a4:=Tryz.isAgg4
 z4:=Tryz.sizeOf4
 v4:=Tryz.zeroValue4
 t5:=Tryz.underlying5
 a5:=Tryz.isAgg5
 z5:=Tryz.sizeOf5
 v5:=Tryz.zeroValue5
 t9:=Tryz.underlying9
 a9:=Tryz.isAgg9
 z9:=Tryz.sizeOf9
 v9:=Tryz.zeroValue9
 t46:=Tryz.underlying355
 a46:=Tryz.isAgg355
 z46:=Tryz.sizeOf355
 v46:=Tryz.zeroValue355
 t51:=Tryz.underlying380
 a51:=Tryz.isAgg380
 z51:=Tryz.sizeOf380
 v51:=Tryz.zeroValue380
 t59:=Tryz.underlying175
 a59:=Tryz.isAgg175
 z59:=Tryz.sizeOf175
 v59:=Tryz.zeroValue175
 t146:=Tryz.underlying381
 a146:=Tryz.isAgg381
 z146:=Tryz.sizeOf381
 v146:=Tryz.zeroValue381
 g1:=by kernel_rfl
 i3:=by kernel_rfl
 i4:=by kernel_rfl
 i5:=by kernel_rfl
 i9:=by kernel_rfl
 i46:=by kernel_rfl
 i51:=by kernel_rfl
 i59:=by kernel_rfl
 i146:=by kernel_rfl
 m1:=by kernel_rfl
 s1_3:=λw h=>Go.Proofs.cell_of_shapedOpen_int (zero:= #[.int .i64 0]) (t:=3) h (of_decide_eq_true (by kernel_rfl)) (by kernel_rfl) rfl (by kernel_rfl) (by kernel_rfl) Tryz.underlying3 }
end Go.Proofs
namespace Go.Proofs
open Go.Shelf
def Tryz.S6:Go.Shelf.Ren:=⟨λ| 229=>190|n=>n,λ| 9=>9|40=>329|31=>37|152=>356|3=>3|0=>0|4=>4|21=>21|154=>358|n=>n,λ| n=>n⟩
theorem Tryz.asS:Go.Proofs.LaysM.n229 Tryz.prog Tryz.S6:={
 mixed:=by kernel_rfl
 f229:=Tryz.func190.trans (congrArg some (by kernel_rfl))
 t0:=Tryz.underlying0
 a0:=Tryz.isAgg0
 z0:=Tryz.sizeOf0
 v0:=Tryz.zeroValue0
 t3:=Tryz.underlying3
 a3:=Tryz.isAgg3
 z3:=Tryz.sizeOf3
 v3:=Tryz.zeroValue3
 t4:=Tryz.underlying4
 a4:=Tryz.isAgg4
 z4:=Tryz.sizeOf4
 v4:=Tryz.zeroValue4
 t9:=Tryz.underlying9
 a9:=Tryz.isAgg9
 z9:=Tryz.sizeOf9
 v9:=Tryz.zeroValue9
 t21:=Tryz.underlying21
 a21:=Tryz.isAgg21
 z21:=Tryz.sizeOf21
 v21:=Tryz.zeroValue21
 t31:=Tryz.underlying37
 a31:=Tryz.isAgg37
 z31:=Tryz.sizeOf37
 v31:=Tryz.zeroValue37
 t40:=Tryz.underlying329
 a40:=Tryz.isAgg329
 z40:=Tryz.sizeOf329
 v40:=Tryz.zeroValue329
 t152:=Tryz.underlying356
 a152:=Tryz.isAgg356
 z152:=Tryz.sizeOf356
 v152:=Tryz.zeroValue356
 t154:=Tryz.underlying358
 a154:=Tryz.isAgg358
 z154:=Tryz.sizeOf358
 v154:=Tryz.zeroValue358
 i0:=by kernel_rfl
 i3:=by kernel_rfl
 i4:=by kernel_rfl
 i9:=by kernel_rfl
 i21:=by kernel_rfl
 i31:=by kernel_rfl
 i40:=by kernel_rfl
 i152:=by kernel_rfl
 i154:=by kernel_rfl }
end Go.Proofs
