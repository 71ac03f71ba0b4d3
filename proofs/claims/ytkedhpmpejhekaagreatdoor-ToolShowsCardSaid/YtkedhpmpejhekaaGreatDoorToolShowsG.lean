/- Own texts for ToolShows, cut and joined by a program. -/
import Derived.Test.YtkedhpmpejhekaaGreatDoorToolShowsF
import Derived.Shelf.Strconv.Itoa3
import Derived.Ground.NamesProg
import Derived.Test.YtkedhpmpejhekaaGreatDoorProg
import Derived.Lib.ItoaLen
import Derived.Shelf.Spec.SlicesGrow
set_option linter.all false
namespace Go.Proofs.YtkedhpmpejhekaaGreatDoor
open Go.Lib
abbrev agQ{R:Type}(X:Cx)(H:List Row)(fn:Func)(K:AV->aC->Option R)(st:aC):Option R:=match uu (HA X ⟨[],H,fn.ntmps⟩ st) fn.results.toList with
 |some rs=>K (E7 rs) st
 |none=>none
noncomputable def Rw{R:Type}(X:Cx)(fn:Func)(args:List AV)(H:List Row)(st:aC)(K:AV->aC->Option R):Option R:=match fn.body with
 |some body=>aA (Nat.ble args.length fn.ntmps) (den X [] [] body ⟨[],H,fn.ntmps⟩ (λe st'=>match e with
  | .ret=>agQ X H fn K st'
  | .nrm=>agQ X H fn K st'
  |_=>none) ⟨st.c,iO 0 args,st.G,.o⟩) none
 |none=>none
theorem Vi{X:Cx}{f:FuncId}{fn:Func}(n:Enters X.P f)(m:X.P.funcs[f]? =some fn)(q:X.gls=[]):(⟨f,λargs H st K=>Rw X fn args H st K⟩:YP).Ok X.P:=by
 refine ⟨n,λ{R} r args H st K ρ Φ w p h=>?_⟩;have g:Rw X fn args H st K=some r:=h;unfold Rw at g;split at g
 .rename_i body hb;obtain ⟨u,t⟩:=aI g;refine iv m hb rfl (by rw [AV.bm];exact u) ?_;have s:au ρ [] (iO 0 args) []=iota 0 (AV.ao ρ args):=by show aF.env ρ [] (iO 0 args)++[]=_;rw [vS,iq]
  rw [<-s];have j:∀it∈X.Γ,it∈Φ:=λit a=>by unfold Cx.Γ at a;rw [q] at a;cases a
  refine fa (X:=X) (tb:=[]) (tp:=[]) (D:=[]) (fr:=⟨[],H,fn.ntmps⟩) (st:=⟨st.c,iO 0 args,st.G,.o⟩) j (λ_ h=>nomatch h) (λ_ h=>nomatch h) body p t (λx st' ρ' w' z y b e=>?_);have d:Sat (ab ρ' [] st'.G++(ab ρ' [] H++Φ)) w'->agQ X H fn K st'=some r->At (BP X.P fn (λv w'=>∃(ρ':ay) (st':aC) (av:AV),K av st'=some r/\aT st.c ρ ρ'/\st.c<=st'.c/\av.val ρ'=v/\Sat (ab ρ' [] st'.G++(ab ρ' [] H++Φ)) w') (λ_ _=>False))   .ret fn.ntmps [] (au ρ' [] st'.E []) w':=λe h=>by
   unfold agQ at h;split at h
   next rs k=>exact aji (fr:=⟨[],H,fn.ntmps⟩) e k ⟨ρ',st',E7 rs,h,z,y,rfl,e⟩
   .cases h
  cases x with
  |nrm=>exact d e b
  |ret=>exact d e b
  |ext i=>cases b
  |gto l=>cases b
  |gO v=>cases b
  |panE v=>cases b
  |panL v=>cases b
 .cases g
end Go.Proofs.YtkedhpmpejhekaaGreatDoor
namespace Go.Proofs
open Go.Shelf
def Tryz.Mt:Go.Shelf.Ren:=⟨λ| 171=>31|243=>39|246=>50|283=>76|284=>77|285=>78|286=>79|129=>123|317=>122|318=>124|319=>125|320=>126|337=>174|338=>175|n=>n,λ| 3=>3|9=>9|2=>2|4=>4|171=>178|0=>0|53=>31|37=>54|5=>5|173=>181|212=>250|51=>38|20=>20|213=>251|46=>129|232=>322|233=>323|n=>n,λ| 17=>3|18=>4|19=>5|n=>n⟩
theorem Tryz.ama:Go.Proofs.LaysM.n171 Tryz.prog Tryz.Mt:={
 mixed:=by kernel_rfl
 f129:=Tryz.func123.trans (congrArg some (by kernel_rfl))
 f171:=Tryz.func31.trans (congrArg some (by kernel_rfl))
 f243:=Tryz.func39.trans (congrArg some (by kernel_rfl))
 f246:=Tryz.func50.trans (congrArg some (by kernel_rfl))
 f283:=Tryz.func76.trans (congrArg some (by kernel_rfl))
 f284:=Tryz.func77.trans (congrArg some (by kernel_rfl))
 f285:=Tryz.func78.trans (congrArg some (by kernel_rfl))
 f286:=Tryz.func79.trans (congrArg some (by kernel_rfl))
 f317:=Tryz.func122.trans (congrArg some (by kernel_rfl))
 f318:=Tryz.func124.trans (congrArg some (by kernel_rfl))
 f319:=Tryz.func125.trans (congrArg some (by kernel_rfl))
 f320:=Tryz.func126.trans (congrArg some (by kernel_rfl))
 f337:=Tryz.func174.trans (congrArg some (by kernel_rfl))
 f338:=Tryz.func175.trans (congrArg some (by kernel_rfl))
 t0:=Tryz.underlying0
 a0:=Tryz.isAgg0
 z0:=Tryz.sizeOf0
 v0:=Tryz.zeroValue0
 t2:=Tryz.underlying2
 a2:=Tryz.isAgg2
 z2:=Tryz.sizeOf2
 v2:=Tryz.zeroValue2
 t3:=Tryz.underlying3
 a3:=Tryz.isAgg3
 z3:=Tryz.sizeOf3
 v3:=Tryz.zeroValue3
 t4:=Tryz.underlying4
 a4:=Tryz.isAgg4
 z4:=Tryz.sizeOf4
 v4:=Tryz.zeroValue4
 t5:=Tryz.underlying5
 a5:=Tryz.isAgg5
 z5:=Tryz.sizeOf5
 v5:=Tryz.zeroValue5
 t9:=Tryz.underlying9
 a9:=Tryz.isAgg9
 z9:=Tryz.sizeOf9
 v9:=Tryz.zeroValue9
 t20:=Tryz.underlying20
 a20:=Tryz.isAgg20
 z20:=Tryz.sizeOf20
 v20:=Tryz.zeroValue20
 t37:=Tryz.underlying54
 a37:=Tryz.isAgg54
 z37:=Tryz.sizeOf54
 v37:=Tryz.zeroValue54
 t46:=Tryz.underlying129
 a46:=Tryz.isAgg129
 z46:=Tryz.sizeOf129
 v46:=Tryz.zeroValue129
 t51:=Tryz.underlying38
 a51:=Tryz.isAgg38
 z51:=Tryz.sizeOf38
 v51:=Tryz.zeroValue38
 t53:=Tryz.underlying31
 a53:=Tryz.isAgg31
 z53:=Tryz.sizeOf31
 v53:=Tryz.zeroValue31
 t171:=Tryz.underlying178
 a171:=Tryz.isAgg178
 z171:=Tryz.sizeOf178
 v171:=Tryz.zeroValue178
 t173:=Tryz.underlying181
 a173:=Tryz.isAgg181
 z173:=Tryz.sizeOf181
 v173:=Tryz.zeroValue181
 t212:=Tryz.underlying250
 a212:=Tryz.isAgg250
 z212:=Tryz.sizeOf250
 v212:=Tryz.zeroValue250
 t213:=Tryz.underlying251
 a213:=Tryz.isAgg251
 z213:=Tryz.sizeOf251
 t232:=Tryz.underlying322
 a232:=Tryz.isAgg322
 z232:=Tryz.sizeOf322
 v232:=Tryz.zeroValue322
 t233:=Tryz.underlying323
 a233:=Tryz.isAgg323
 z233:=Tryz.sizeOf323
 v233:=Tryz.zeroValue323
 g17:=by kernel_rfl
 g18:=by kernel_rfl
 g19:=by kernel_rfl
 i0:=by kernel_rfl
 i2:=by kernel_rfl
 i3:=by kernel_rfl
 i4:=by kernel_rfl
 i5:=by kernel_rfl
 i9:=by kernel_rfl
 i20:=by kernel_rfl
 i37:=by kernel_rfl
 i46:=by kernel_rfl
 i51:=by kernel_rfl
 i53:=by kernel_rfl
 i171:=by kernel_rfl
 i173:=by kernel_rfl
 i212:=by kernel_rfl
 i232:=by kernel_rfl
 i233:=by kernel_rfl
 m17:=by kernel_rfl
 m18:=by kernel_rfl
 m19:=by kernel_rfl }
end Go.Proofs
namespace Go.Proofs.YtkedhpmpejhekaaGreatDoor
open Go.Proofs Go.Shelf Go.Lib
theorem amO{P:Program}{Γg:Ctx}{ρ:Go.Shelf.Ren}(L:Go.Proofs.LaysM.n171 P ρ)(y:Enters P (ρ.f 171)){G:Nat}{tab:x6}(u:P.globalNamed "internal/strconv.uint64pow10" =some G) (h:gl G (tab.map (Value.int .u64))∈Γg) (l:Lib.pow10Tab=tab)
  (m:Int->Option aE) (q:∀n r,m n=some r->abJ n=true/\r=Lib.itoa n):(⟨ρ.f 171,[.int .i64],.str,[],λs=>m s⟩:aq).Ok P Γg:=by
 refine ⟨y,λs r o vs N I X Φ w v c g=>?_⟩;obtain ⟨B,j,J,H,F,E,D,C,N2,rfl,⟨x,rfl,rfl,rfl,rfl,rfl⟩,⟨rfl,rfl,rfl,rfl,rfl⟩,d,rfl,rfl⟩:=v;obtain ⟨p,rfl⟩:=q s r o;have hx:x=s:=by have d:[(⟨.i .i64,s⟩:bZ)]=[⟨.i .i64,x⟩]:=d;simp only [qb,and_true] at d;cases d;rfl
 subst hx;obtain ⟨A,z⟩:=adv.1 p;have c:Sat Φ w:=c;obtain ⟨i,hi⟩:=ti (g _ h);obtain ⟨_,t,fr,hb⟩:=c.gl0 hi;have a:Lib.TabIs P w "internal/strconv.uint64pow10" .u64 Lib.pow10Tab:=by unfold Lib.TabIs World.var?;rw [u,l];simp [hb]
 refine Calls.mono (Any.strconv_Itoa L x A z w a) ?_;rintro e w' ⟨rfl,k,os,rfl⟩;refine ⟨[],[],[⟨.s,Lib.itoa x⟩],[],[],[],[],[],⟨_,rfl,rfl,rfl,rfl,rfl⟩,⟨rfl,rfl,rfl,rfl⟩,rfl,?_⟩;refine Sat.ext (Γ:=Φ) c ⟨rfl,rfl,rfl,?_,λb hb=>?_⟩
 .simp [Sort.grow,World.drewN]
 .simp [Sort.grow,World.drewN,Array.getElem?_append,hb]
open Go.Proofs Go.Shelf Go.Lib Go.Sort
section
variable {P : Program} {E : Env} {w : World} {dst : xc} {ty : TypeId} {pos : String} {af : x3} {gd : vb} {g : Bool}
theorem Pm{x y:Operand}{p:Addr}{len m bytes:Nat}{z:Value}{t e:TypeId}{k:IntKind}{h:Int}(j:P.underlying t=some (.array len e))(b:TI P e m bytes z)(n:0<=h)(l:h<=len)
  (hx:ar E g x (.pointer (some p))) (i:ar E g y (.int k h)):
  bg P E g ⟨dst,.slice t x none (some y) none,ty,pos,af,gd⟩ w (.slice (some p) h.toNat len):=
 λn' a f d=>by obtain ⟨o,c,q,_,_⟩:=b.out;simp [execOp,hx n' a f d,i n' a f d,Instr.sliceAt,run_underlying j,Instr.sureAddr,Instr.sliceBounds,run_sliceBound,sizeOf,typeInfo,c,Addr.add,n,l]
end
theorem ajM{M:Nat->Prop}{w:World}{b u d:Nat}{c:Array UInt8}{cs:w5}{e:TypeId}{fr:Nat×Nat}(h:¬M b)(hb:w.heap[b]? =some (.cells cs e fr))(n:nDigits u<=24)(g:cs.size=24)
  (hc:∀j,j<nDigits u->cs[j]? =some (Value.int .u8 ((c[j]!).toNat:Int))) (f:FmtInv (nDigits u) u 0 d c):
  bQ (RI .u8) M w (.slice (some ⟨b,0,none⟩) (nDigits u) 24) (ba (decDigits u)):=by
 have a:(ba (decDigits u)).length=nDigits u:=by simp [ba,decDigits_length]
 refine .inr ⟨b,0,24,cs,e,fr,by rw [a],h,hb,by omega,by show 0+24*1<=_;omega,?_⟩;rw [a];refine ⟨?_,λi hi=>?_⟩
 .rw [a];show (List.take (nDigits u*1) (List.drop 0 cs.toList)).length=nDigits u*1;simp only [b0,cq,ch];omega
 .rw [a] at hi;have p:=hc i hi;show ((List.drop (i*1) (List.take (nDigits u*1) (List.drop 0 cs.toList))).take 1)=[Value.int .u8 _];have o:(List.take (nDigits u*1) (List.drop 0 cs.toList))[i]? =some (Value.int .u8 ((c[i]!).toNat:Int)):=by rw [kR,lk (by omega),l9];simpa using p
  obtain ⟨m,l⟩:=List.getElem?_eq_some_iff.1 o;rw [q9,gx m,l];have k:=row_is_numeral f i (by rw [decDigits_length];exact hi);simp only [ba,qH,k];rfl
theorem ap2{P:Program}{Γ:Ctx}{w:World}{G:Nat}{tab:x6}(d:P.globalNamed "internal/strconv.uint64pow10" =some G) (a:gl G (tab.map (Value.int .u64))∈Γ) (b:Lib.pow10Tab=tab) (c:Sat Γ w):
  Lib.TabIs P w "internal/strconv.uint64pow10" .u64 Lib.pow10Tab:=by
 obtain ⟨i,hi⟩:=ti a;obtain ⟨_,t,fr,hb⟩:=c.gl0 hi;unfold Lib.TabIs World.var?;rw [d,b];simp [hb]
set_option maxRecDepth 10000 in
theorem aiG{P:Program}{ρ:Go.Shelf.Ren}(L:Go.Proofs.LaysM.n288 P ρ){G:Nat}{tab:x6}(hg:P.globalNamed "internal/strconv.uint64pow10" =some G) (W:Lib.pow10Tab=tab)
  {Φ:Ctx} (F:gl G (tab.map (Value.int .u64))∈Φ) {u:Nat} (I:u<18446744073709551616) {v:fA} {l:x6} {R:x8} {w:World} (T:Sat (fX (RI .u8) (ρ.t 5) (sl v) l R::Φ) w) (d:aG (l.length+24) 1=true):
  fq P (ρ.f 288) [sl v,.int .u64 (u:Int),.int .i64 10] w λm w'=>∃(p:fA) (E:x8),m=sl p/\Sat (fX (RI .u8) (ρ.t 5) (sl p) (l++ba (decDigits u)) E::Φ) w':=by
 have D:Enters P (ρ.f 283):=enters_of L.f283 (by kernel_rfl) rfl;have C:Enters P (ρ.f 284):=enters_of L.f284 (by kernel_rfl) rfl;have B:Enters P (ρ.f 285):=enters_of L.f285 (by kernel_rfl) rfl;have o:TI P (ρ.t 5) 1 1 (.int .u8 0):=by
  have:=L.i5;unfold TI;cases hi:P.info? (ρ.t 5) with
  |none=>rw [hi] at this;cases this
  |some i=>rw [hi] at this;simp only [l7,b8,p0] at this ⊢; exact ⟨this.2.1,this.2.2,this.1⟩
 have r:TI P (ρ.t 171) 24 24 (.agg zeros24):=by
  have:=L.i171;unfold TI;cases hi:P.info? (ρ.t 171) with
  |none=>rw [hi] at this;cases this
  |some i=>rw [hi] at this;simp only [l7,b8,p0] at this ⊢; exact ⟨this.2.1,this.2.2,this.1⟩
 simp only [aG,ae] at d;have X:=cj d.1;have q:∀k,k<=20->aG (l.length+k) 1=true:=λk x=>by simp only [aG,ae];exact ⟨qf (by omega),qf (by omega)⟩
 have hd:=nDigits_le20 u I;refine iv L.f288 rfl rfl rfl<|bn<|bh<|aK (cJ ar.c) rfl rfl rfl rfl<|bT<|bd<|bn<|bn<|bh<|aK (aL (ar.t rfl)) rfl rfl rfl rfl<|aK (py (ar.t rfl) ar.c) rfl rfl rfl rfl<|bT<|bd<|iJ (ar.t rfl) (λ_=>?_) (λh=>by cases h);refine bn<|bn<|bh<|aK (aL (ar.t rfl)) rfl rfl rfl rfl<|aK (af9 (ar.t rfl) ar.c) rfl rfl rfl rfl<|bT<|bd<|iJ (ar.t rfl) (λh=>?_) (λh=>?_)
 . -- small
  have a:u<100:=by have:=qe h;omega
  refine bn<|bh ?_;have V:IntKind.i64.wrap (u:Int)=(u:Int):=xH (by omega);refine aK (aL (ar.t rfl)) rfl rfl rfl rfl<|aK (aL (ar.t rfl)) rfl rfl rfl rfl<|aK (abE L.t53 L.t3 (ar.t rfl)) rfl rfl rfl rfl<|?_;rw [V];refine Xf (first:=[]) (cap:=[]) (vs:=[.int .i64 (u:Int)]) (args:=[.int .i64 (u:Int)]) (xs:=[.tmp 15]) (S:=λm w'=>m=S (decDigits u)/\w'=w) D ar.f (gG.cons (ar.t rfl) gG.nil) rfl rfl ?_ ?_
  .refine Calls.mono (Any.internal_strconv_small { L with } u a w) ?_;rintro e w' ⟨rfl,rfl⟩;exact ⟨rfl,rfl⟩
  .rintro m w' ⟨rfl,rfl⟩;refine ahS T 0 rfl L.t37 L.t9 o (ar.t rfl) (ar.t rfl) (q _ (by rw [decDigits_length];exact hd)) rfl ?_;intro p E w' K;refine aK (cJ (ar.t rfl)) rfl rfl rfl rfl<|bT<|bd<|uN ?_
   repeat refine nn ?_
   refine MQ rfl (jh.t rfl) ?_;exact ⟨p,E,rfl,K⟩
 . -- large
  have a:100<=u:=by have:=of_decide_eq_false h;omega
  refine po<|bd<|bn<|bh<|akW (zs:=zeros24.toList) T r (by simp [Value.cells]) rfl ?_;intro b w1 s;refine bT<|bd<|bn<|bh<|aK (aL (ar.t rfl)) rfl rfl rfl rfl<|Xf (first:=[]) (cap:=[]) (vs:=[.int .u64 (u:Int)]) (args:=[.int .u64 (u:Int)]) (xs:=[.tmp 18]) (S:=λm w'=>m= .int .i64 (nDigits u:Int)/\w'=w1) C ar.f (gG.cons (ar.t rfl) gG.nil) rfl rfl ?_ ?_
  .refine Calls.mono (Any.internal_strconv_numDigits { L with } u (by omega) I w1 (ap2 hg (aW _ (aW _ F)) W s)) ?_;rintro e w' ⟨rfl,rfl⟩;exact ⟨rfl,rfl⟩
  rintro m Q ⟨rfl,H⟩;obtain rfl:w1=Q:=H.symm;refine aK (cJ (ar.t rfl)) rfl rfl rfl rfl<|bT<|bd<|bn<|bh<|aK (aL (ar.t rfl)) rfl rfl rfl rfl<|aK (Pm L.t171 o (by omega) (by omega) (ar.t rfl) (ar.t rfl)) rfl rfl rfl rfl<|aK (aL (ar.t rfl)) rfl rfl rfl rfl<|?_;rw [qq];refine Xf (first:=[]) (cap:=[]) (vs:=[.slice (some ⟨b,0,none⟩) (nDigits u) 24,.int .u64 (u:Int)]) (args:=[.slice (some ⟨b,0,none⟩) (nDigits u) 24,.int .u64 (u:Int)]) (xs:=[.tmp 21,.tmp 22])
   (S:=λ_ w'=>Sat (Jp (Jf (RI .u8)) [.slice (some ⟨b,0,none⟩) (nDigits u) 24] (ba (decDigits u))::fX (RI .u8) (ρ.t 5) (sl v) l R::Φ) w') B ar.f ?_ rfl rfl ?_ ?_
  .exact gG.cons (ar.t rfl) (gG.cons (ar.t rfl) gG.nil)
  .have O:=s.box (i:=0) rfl;have g:w1.heap[b]? =some (.cells zeros24.toList.toArray (ρ.t 171) (0,0)):=O;have hH:Holds (λ(b:UInt8)=>Value.int .u8 (b.toNat:Int)) w1 b 0 (Array.replicate (nDigits u) (0:UInt8)):=λj N=>by
    have Z:j<nDigits u:=by simpa using N
    refine ⟨?_,?_⟩
    .simp only [World.cell?,g,hV];rw [getElem!_pos _ j N];simpa using zeros24_at j (by omega)
    .simp [World.frozen?,g]
   have key:=Any.internal_strconv_formatBase10 (P:=P) (ρ:=ρ) { L with } b 0 24 u (Array.replicate (nDigits u) (0:UInt8)) w1 hH (by rw [tj];exact lt_pow_nDigits u) I (by rw [tj];omega);rw [tj] at key;refine Calls.mono key ?_;rintro e w' ⟨rfl,n,m,U,rfl,x⟩;have hp:∀k,((putRow (λ(b:UInt8)=>Value.int .u8 (b.toNat:Int)) w1 b 0 U).drewN n).heap[k]? =if k=b then some (.cells (putCells (λ(b:UInt8)=>Value.int .u8 (b.toNat:Int)) 0 U zeros24.toList.toArray) (ρ.t 171) (0,0)) else w1.heap[k]? :=λk=>by
    simp only [World.drewN,putRow,mapBlock,sj];by_cases x:k=b
    .subst x;simp [g,onCells]
    .rw [j0 x,j0 (λe=>x e.symm)]
   refine s.nd (i:=0) (new:=Jp (Jf (RI .u8)) [.slice (some ⟨b,0,none⟩) (nDigits u) 24] (ba (decDigits u))) rfl ⟨rfl,rfl,rfl,?_,λk Y M=>?_⟩ (λb hb=>by cases hb) (λM' hm y=>?_)
   .simp [World.drewN,putRow,mapBlock]
   .rw [hp,j0 (by simpa [box] using M)]
   .refine bQ.rsl (ajM (y b (by simp [box]) (by simp [Jp])) (by rw [hp,lk rfl]) (by omega) (by simp [putCells,zeros24]) (λj N=>?_) x);have h1:=x.size;have h2:zeros24[j]? =some (Value.int .u8 0):=zeros24_at j (by omega);simp only [putCells,Array.getElem?_mapIdx];rw [show zeros24.toList.toArray=zeros24 by simp,h2];simp only [l7,qd,true_and,Nat.sub_zero];rw [lk (by omega)]
  .intro m Q z;refine bT<|bd<|bn<|bh<|aK (aL (ar.t rfl)) rfl rfl rfl rfl<|aK (aL (ar.t rfl)) rfl rfl rfl rfl<|aK (Pm L.t171 o (by omega) (by omega) (ar.t rfl) (ar.t rfl)) rfl rfl rfl rfl<|?_;rw [qq];refine aje z 1 rfl L.t37 o rfl rfl (ar.t rfl) (ar.t rfl) (z.sl (i:=0) rfl) (q _ (by simp [ba,decDigits_length];exact hd)) rfl ?_;intro p E w3 J;refine aK (cJ (ar.t rfl)) rfl rfl rfl rfl<|bT<|bd<|uN ?_
   repeat refine nn ?_
   refine MQ rfl (jh.t rfl) ?_;exact ⟨p,E,rfl,Sat.wJ (A:=[Jp (Jf (RI .u8)) [.slice (some ⟨b,0,none⟩) (nDigits u) 24] (ba (decDigits u))]) J⟩
theorem akK{P:Program}{Γg:Ctx}{ρ:Go.Shelf.Ren}(L:Go.Proofs.LaysM.n288 P ρ)(hE:Enters P (ρ.f 288)){G:Nat}{tab:x6}(hg:P.globalNamed "internal/strconv.uint64pow10" =some G) (C:gl G (tab.map (Value.int .u64))∈Γg) (ht:Lib.pow10Tab=tab)
  (m:x6->Int->Int->Option x6) (hm:∀l u b r,m l u b=some r->b=10/\0<=u/\u<=18446744073709551615/\aG (l.length+24) 1=true/\r=l++ba (decDigits u.toNat)):
  (⟨ρ.f 288,[.own (.i .u8) (ρ.t 5) true,.int .u64,.int .i64],.own (.i .u8) (ρ.t 5) true,[],λs=>m s.1 s.2.1 s.2.2⟩:aq).Ok P Γg:=by
 refine ⟨hE,λs r hr vs N I X Φ w hS F z=>?_⟩;obtain ⟨v1,U,D1,D2,I1,I2,X1,X2,N1,rfl,⟨a,l,rfl,_,rfl,rfl,rfl,rfl,_⟩,⟨v2,T,D3,D4,I3,I4,X3,X4,N2,rfl,⟨u,rfl,rfl,rfl,rfl,rfl⟩,⟨v3,S,D5,D6,I5,I6,X5,X6,N3,rfl,⟨b,rfl,rfl,rfl,rfl,rfl⟩,⟨rfl,rfl,rfl,rfl,rfl⟩,rfl,rfl,rfl⟩,rfl,rfl,rfl⟩,k,rfl,rfl⟩:=hS;obtain ⟨g,j,o⟩:=s;obtain ⟨hb,h0,h1,e,rfl⟩:=hm g j o r hr;have k:[(⟨.l (.i .u8),g⟩:bZ),⟨.i .u64,j⟩,⟨.i .i64,o⟩]=[⟨.l (.i .u8),l⟩,⟨.i .u64,u⟩,⟨.i .i64,b⟩]:=k;simp only [qb,and_true] at k;obtain ⟨O,K,J⟩:=k;have Z:g=l:=by cases O;rfl
 have W:j=u:=by cases K;rfl
 have V:o=b:=by cases J;rfl
 subst Z W V;subst hb;obtain ⟨n,rfl⟩:∃n:Nat,j=(n:Int):=⟨j.toNat,(Int.toNat_of_nonneg h0).symm⟩;have F:Sat (mJ (RI .u8) (ρ.t 5) a.v g True::Φ) w:=F;have E:Sat (fX (RI .u8) (ρ.t 5) (sl a.v) g (tf a.v)::Φ) w:=Sat.Dz (A:=[]) F ⟨λ_ h=>h,λM w h=>h.1⟩;refine fq.mono (aiG L hg ht (z _ C) (u:=n) (by omega) E e) ?_;rintro v w' ⟨p,Q,rfl,c⟩;obtain ⟨Y,R⟩:∃Y:x6,Y=List.append (α:=Int) g (ba (decDigits n)):=⟨_,rfl⟩;have c:Sat (fX (RI .u8) (ρ.t 5) (sl p) Y Q::Φ) w':=by rw [R];exact c
 refine ⟨[a,{ cM with v:=p,y:=⟨.l (.i .u8),Y⟩ }],[a,{ cM with v:=p,y:=⟨.l (.i .u8),Y⟩ }],[⟨.l (.i .u8),Y⟩],[],[(true,mJ (RI .u8) (ρ.t 5) p Y True)],[],[],[],
  ⟨{ cM with v:=p,y:=⟨.l (.i .u8),Y⟩ },Y,rfl,(λq h=>by cases h),rfl,rfl,rfl,rfl,rfl⟩,⟨rfl,rfl,rfl,rfl⟩,by rw [R];rfl,?_⟩
 have hO:=c.own (i:=0) rfl;have d:=hO.canon;have D:=Sat.lX (A:=[fX (RI .u8) (ρ.t 5) (sl p) Y Q]) (B:=Φ) c [fJ] (λit H=>by rw [List.mem_singleton.1 H];exact ⟨rfl,λ_ _=>trivial⟩);exact Sat.Dz (A:=[]) (B:=fJ::Φ) (x:=fX (RI .u8) (ρ.t 5) (sl p) Y Q) D ⟨λb hb=>d.1 b hb,λM w h=>⟨d.2 M w h,trivial⟩⟩
end Go.Proofs.YtkedhpmpejhekaaGreatDoor
namespace Go.Proofs
open Go.Shelf
def Tryz.ON:Go.Shelf.Ren:=⟨λ| 288=>217|283=>76|284=>77|285=>78|286=>79|129=>123|317=>122|318=>124|319=>125|320=>126|337=>174|338=>175|n=>n,λ| 37=>54|53=>31|3=>3|4=>4|9=>9|171=>178|0=>0|173=>181|212=>250|51=>38|5=>5|20=>20|213=>251|46=>129|232=>322|233=>323|n=>n,λ| 17=>3|18=>4|19=>5|n=>n⟩
theorem Tryz.aou:Go.Proofs.LaysM.n288 Tryz.prog Tryz.ON:={
 mixed:=by kernel_rfl
 f129:=Tryz.func123.trans (congrArg some (by kernel_rfl))
 f283:=Tryz.func76.trans (congrArg some (by kernel_rfl))
 f284:=Tryz.func77.trans (congrArg some (by kernel_rfl))
 f285:=Tryz.func78.trans (congrArg some (by kernel_rfl))
 f286:=Tryz.func79.trans (congrArg some (by kernel_rfl))
 f288:=Tryz.func217.trans (congrArg some (by kernel_rfl))
 f317:=Tryz.func122.trans (congrArg some (by kernel_rfl))
 f318:=Tryz.func124.trans (congrArg some (by kernel_rfl))
 f319:=Tryz.func125.trans (congrArg some (by kernel_rfl))
 f320:=Tryz.func126.trans (congrArg some (by kernel_rfl))
 f337:=Tryz.func174.trans (congrArg some (by kernel_rfl))
 f338:=Tryz.func175.trans (congrArg some (by kernel_rfl))
 t0:=Tryz.underlying0
 a0:=Tryz.isAgg0
 z0:=Tryz.sizeOf0
 v0:=Tryz.zeroValue0
 t3:=Tryz.underlying3
 a3:=Tryz.isAgg3
 z3:=Tryz.sizeOf3
 v3:=Tryz.zeroValue3
 t4:=Tryz.underlying4
 a4:=Tryz.isAgg4
 z4:=Tryz.sizeOf4
 v4:=Tryz.zeroValue4
 t5:=Tryz.underlying5
 a5:=Tryz.isAgg5
 z5:=Tryz.sizeOf5
 v5:=Tryz.zeroValue5
 t9:=Tryz.underlying9
 a9:=Tryz.isAgg9
 z9:=Tryz.sizeOf9
 v9:=Tryz.zeroValue9
 t20:=Tryz.underlying20
 a20:=Tryz.isAgg20
 z20:=Tryz.sizeOf20
 v20:=Tryz.zeroValue20
 t37:=Tryz.underlying54
 a37:=Tryz.isAgg54
 z37:=Tryz.sizeOf54
 v37:=Tryz.zeroValue54
 t46:=Tryz.underlying129
 a46:=Tryz.isAgg129
 z46:=Tryz.sizeOf129
 v46:=Tryz.zeroValue129
 t51:=Tryz.underlying38
 a51:=Tryz.isAgg38
 z51:=Tryz.sizeOf38
 v51:=Tryz.zeroValue38
 t53:=Tryz.underlying31
 a53:=Tryz.isAgg31
 z53:=Tryz.sizeOf31
 v53:=Tryz.zeroValue31
 t171:=Tryz.underlying178
 a171:=Tryz.isAgg178
 z171:=Tryz.sizeOf178
 v171:=Tryz.zeroValue178
 t173:=Tryz.underlying181
 a173:=Tryz.isAgg181
 z173:=Tryz.sizeOf181
 v173:=Tryz.zeroValue181
 t212:=Tryz.underlying250
 a212:=Tryz.isAgg250
 z212:=Tryz.sizeOf250
 v212:=Tryz.zeroValue250
 t213:=Tryz.underlying251
 a213:=Tryz.isAgg251
 z213:=Tryz.sizeOf251
 t232:=Tryz.underlying322
 a232:=Tryz.isAgg322
 z232:=Tryz.sizeOf322
 v232:=Tryz.zeroValue322
 t233:=Tryz.underlying323
 a233:=Tryz.isAgg323
 z233:=Tryz.sizeOf323
 v233:=Tryz.zeroValue323
 g17:=by kernel_rfl
 g18:=by kernel_rfl
 g19:=by kernel_rfl
 i0:=by kernel_rfl
 i3:=by kernel_rfl
 i4:=by kernel_rfl
 i5:=by kernel_rfl
 i9:=by kernel_rfl
 i20:=by kernel_rfl
 i37:=by kernel_rfl
 i46:=by kernel_rfl
 i51:=by kernel_rfl
 i53:=by kernel_rfl
 i171:=by kernel_rfl
 i173:=by kernel_rfl
 i212:=by kernel_rfl
 i232:=by kernel_rfl
 i233:=by kernel_rfl
 m17:=by kernel_rfl
 m18:=by kernel_rfl
 m19:=by kernel_rfl }
end Go.Proofs
namespace Go.Proofs
open Go.Shelf
def Tryz.X8:Go.Shelf.Ren:=⟨λ| 4=>157|n=>n,λ| 22=>24|25=>23|3=>3|4=>4|9=>9|20=>20|0=>0|n=>n,λ| n=>n⟩
theorem Tryz.aqB:Go.Proofs.Lays8.n4 Tryz.prog Tryz.X8:={
 mixed:=by kernel_rfl
 f4:=⟨Tryz.f157.name,by decide,Tryz.func157.trans (congrArg some (by kernel_rfl))⟩
 t0:=Tryz.underlying0
 a0:=Tryz.isAgg0
 z0:=Tryz.sizeOf0
 v0:=Tryz.zeroValue0
 t3:=Tryz.underlying3
 a3:=Tryz.isAgg3
 z3:=Tryz.sizeOf3
 v3:=Tryz.zeroValue3
 t4:=Tryz.underlying4
 a4:=Tryz.isAgg4
 z4:=Tryz.sizeOf4
 v4:=Tryz.zeroValue4
 t9:=Tryz.underlying9
 a9:=Tryz.isAgg9
 z9:=Tryz.sizeOf9
 v9:=Tryz.zeroValue9
 t20:=Tryz.underlying20
 a20:=Tryz.isAgg20
 z20:=Tryz.sizeOf20
 v20:=Tryz.zeroValue20
 t22:=Tryz.underlying24
 a22:=Tryz.isAgg24
 z22:=Tryz.sizeOf24
 v22:=Tryz.zeroValue24 }
end Go.Proofs
namespace Go.Proofs.YtkedhpmpejhekaaGreatDoor
open Go.Proofs Go.Shelf Go.Lib
theorem alG{P:Program}{ρ:Go.Shelf.Ren}(L:Go.Proofs.Lays8.n4 P ρ){z:Value}{bytes:Nat}(g:TI P (ρ.t 25) 1 bytes z){α:Type}(A:dD α)(y:A.n=1)(d:z.cells.size=1)(m:0<bytes)(n:Nat)(c:aG n bytes=true)(w:World):
  fq P (ρ.f 4) [.slice none 0 0,.int .i64 (n:Int)] w λv w'=>∃p:fA,v=sl p/\Ext w w'/\(∀b∈tf p,b<w'.heap.size/\w.heap.size<=b)/\∀M':Nat->Prop,bK A (ρ.t 25) M' w' (sl p) ([]:List α) (tf p):=by
 obtain ⟨i,hi,j,l,q⟩:=g.out;simp only [aG,ae] at c;have o:=cj c.1;have u:=cj c.2;have s:n<=n*bytes:=Nat.le_mul_of_pos_right n m;by_cases B:n=0
 .subst B;refine Calls.mono (Go.Proofs.Any8.slices_Grow_room L none 0 0 0 w (by omega) (by omega) (by omega) (by omega)) ?_;rintro e w' ⟨rfl,rfl⟩;exact ⟨(none,0,0),rfl,Ext.refl _,(λb hb=>by cases hb),λM'=>bK.nil.BA⟩
 .refine Calls.mono (Go.Proofs.Any8.slices_Grow_grow L i z hi q (by rw [j];omega) none 0 0 n [] w (by omega) (by omega) (by rw [l];simpa using o) (by omega) (by simp) (λ_=>rfl) (λa h=>by cases h)) ?_;rintro e w' ⟨rfl,rfl⟩;have k:grownCap w (0+n) 0 (ρ.t 25)<=maxLen:=grownCap_le_maxLen w (0+n) 0 _ (by simp only [maxLen];omega);have r:=grownCap_ge w (0+n) 0 (ρ.t 25);refine ⟨(some ⟨w.heap.size,0,none⟩,0,grownCap w (0+n) 0 (ρ.t 25)),rfl,⟨rfl,rfl,rfl,by simp,λb hb=>heap_alloc_old w.drew _ hb⟩,λb hb=>?_,λM'=>?_⟩
  .have:=AD hb;rw [D8] at this;simp only [l5] at this;subst this;simp
  .have x:gb A (ρ.t 25) M' (w.drew.alloc (.cells (([]:w9).toArray++Builtin.zeroCells z.cells (0+n-0)++Builtin.zeroCells z.cells (grownCap w (0+n) 0 (ρ.t 25)-(0+n))) (ρ.t 25))) (.slice (some ⟨w.heap.size,0,none⟩) 0 (grownCap w (0+n) 0 (ρ.t 25))) ([]:List α):=by refine ⟨[],.of (b:=0) ⟨by simp,.inr ⟨w.heap.size,_,_,rfl,qd _,heap_alloc_new w.drew _,qd _,k,?_,by simp⟩⟩,cL.nil⟩;simp only [qo,mi,size_zeroCells,d,y,gj];omega
   exact (bK.of x).BA
theorem akA{P:Program}{Γg:Ctx}{ρ:Go.Shelf.Ren}(L:Go.Proofs.Lays8.n4 P ρ)(G:Enters P (ρ.f 4)){z:Value}{bytes:Nat}{t:Ty}(c:TI P (ρ.t 25) 1 bytes z)(k:t.rep.n=1)(b:z.cells.size=1)(d:0<bytes)
  (m:Int->Option (List t.T)) (B:∀n r,m n=some r->0<=n/\aG n.toNat bytes=true/\r=[]):
  (⟨ρ.f 4,[.iU (.raw (.slice none 0 0)),.int .i64],.own t (ρ.t 25) true,[],λs=>m s⟩:aq).Ok P Γg:=by
 refine ⟨G,λs r u vs N I X Φ w D o j=>?_⟩;obtain ⟨M,g,D1,D2,Y,W,S,R,N1,rfl,⟨⟨rfl,_⟩,rfl,rfl,rfl,rfl⟩,⟨K,e,D3,Z,V,U,Q,O,N2,rfl,⟨x,rfl,rfl,rfl,rfl,rfl⟩,⟨rfl,rfl,rfl,rfl,rfl⟩,rfl,rfl,rfl⟩,a,rfl,rfl⟩:=D;obtain ⟨J,H,rfl⟩:=B s r u;have hx:x=s:=by have a:[(⟨.i .i64,s⟩:bZ)]=[⟨.i .i64,x⟩]:=a;simp only [qb,and_true] at a;cases a;rfl
 subst hx;have A:((x.toNat:Nat):Int)=x:=Int.toNat_of_nonneg J;have key:=alG L c t.rep k b d x.toNat H w;rw [A] at key;refine fq.mono key ?_;rintro v w' ⟨p,rfl,C,E,F⟩;refine ⟨[{ cM with v:=p,y:=⟨.l t,[]⟩ }],[{ cM with v:=p,y:=⟨.l t,[]⟩ }],[⟨.l t,[]⟩],[],[(true,mJ t.rep (ρ.t 25) p [] True)],[],[],[],⟨_,[],rfl,(λq h=>by cases h),rfl,rfl,rfl,rfl,rfl⟩,⟨rfl,rfl,rfl,rfl⟩,rfl,?_⟩;exact Sat.push (new:=mJ t.rep (ρ.t 25) p [] True) o C E (λM' _=>⟨F M',trivial⟩)
variable {w : World}
open Go.Proofs
namespace I351
theorem uS:TI Tryz.prog 462 2 16 (.agg #[(.int .u8 0),(.int .i64 0)]):=by unfold TI;kernel_rfl
set_option maxRecDepth 100000 in
theorem ara{w w':World}{p q:Option Addr}{n c m e:Nat}{d:Value}(j:n<=c)(k:0<m)(i:(Builtin.append_ #[350,350] 350 #[.slice p n c,.slice q m e]).run Tryz.prog w= .ok d w'):
  fq Tryz.prog 351 [.slice p n c,.int .i64 (n:Int),.slice q m e] w (λr w1=>r=d/\w1=w'):=by
 have g:((m:Int)==0)=false:=by simp;omega
 have f:((n:Int)==(n:Int))=true:=by simp
 obtain ⟨b,a⟩:∃b,QU (.slice p n c) (n:Int) ((n:Nat):Int) 2 b:=⟨_,_,_,_,rfl,by omega,Int.le_refl _,Int.le_refl _,j,rfl⟩;refine iv Tryz.func351 rfl Tryz.ntmps351 rfl<|bn<|bh<|aK (cJ ar.c) rfl rfl rfl rfl<|bT<|bd<|bn<|bh<|aK (aL (ar.t rfl)) rfl rfl rfl rfl<|aK (aL (ar.t rfl)) rfl rfl rfl rfl<|aK (DG (lo:=some (.tmp 11)) (hi:=none) Tryz.underlying350 uS (ar.t rfl) (λ_=>⟨_,_,rfl⟩) ⟨_,(ar.t rfl)⟩ rfl (λ_=>a)) rfl rfl rfl rfl<|?_;refine bT ?_;refine bd<|bn<|bh<|aK (aL (ar.t rfl)) rfl rfl rfl rfl<|aK (mz Tryz.underlying350 (ar.t rfl) (λ_=>⟨_,_,rfl⟩)) rfl rfl rfl rfl<|aK (cJ (ar.t rfl)) rfl rfl rfl rfl<|?_;refine bT ?_;refine bd<|bn<|bn<|bh<|aK (aL (ar.t rfl)) rfl rfl rfl rfl<|aK (bg.Yg (py (ar.t rfl) ar.c) g) rfl rfl rfl rfl<|bT<|bd<|iJ (ar.t rfl) (λh=>by cases h) (λ_=>?_);refine po<|bd<|bn<|bh<|aK (aL (ar.t rfl)) rfl rfl rfl rfl<|aK (mz Tryz.underlying350 (ar.t rfl) (λ_=>⟨_,_,rfl⟩)) rfl rfl rfl rfl<|aK (cJ (ar.t rfl)) rfl rfl rfl rfl<|?_;refine bT ?_;refine bd<|bn<|bn<|bh<|aK (aL (ar.t rfl)) rfl rfl rfl rfl<|aK (aL (ar.t rfl)) rfl rfl rfl rfl<|aK (bg.Yg (py (ar.t rfl) (ar.t rfl)) f) rfl rfl rfl rfl<|bT<|bd<|iJ (ar.t rfl) (λ_=>?_) (λh=>by cases h);refine bn<|bh<|aK (aL (ar.t rfl)) rfl rfl rfl rfl<|aK (aL (ar.t rfl)) rfl rfl rfl rfl<|uV (OY (ar.t rfl) (ar.t rfl) i) rfl rfl rfl rfl<|aK (cJ (ar.t rfl)) rfl rfl rfl rfl<|bT<|bd<|uN<|nn<|MQ rfl (jh.t rfl) ?_;exact ⟨rfl,rfl⟩
set_option maxRecDepth 100000 in
theorem arf{w:World}{b o n c i m G:Nat}{cur d:w5}{R:TypeId}(hin:i<n)(hm:0<m)(M:n+m<=c)(hc:c<=9223372036854775807)(H:o≠b)
  (hb:w.heap[b]? =some (.cells cur 462 (0,0))) (K:cur.size=c*2) (hv:w.heap[o]? =some (.cells d R (0,0))) (Y:m*2<=d.size) (h1:∀v∈cur.toList.take (n*2),v.oneCell'=true) (Q:∀v∈d.toList.take (m*2),v.oneCell'=true):
  fq Tryz.prog 351 [.slice (some ⟨b,0,none⟩) n c,.int .i64 (i:Int),.slice (some ⟨o,0,none⟩) m G] w (λr w1=>r= .slice (some ⟨b,0,none⟩) (n+m) c/\js [b] w w1/\∃cur':w5,w1.heap[b]? =some (.cells cur' 462 (0,0))/\cur'.size=c*2/\cur'.toList.take ((n+m)*2)=(cur.toList.take (n*2)).take (i*2)++d.toList.take (m*2)++(cur.toList.take (n*2)).drop (i*2)):=by
 have X:((m:Int)==0)=false:=by simp;omega
 have V:((i:Int)==(n:Int))=false:=by simp;omega
 have T:IntKind.i64.wrap ((n:Int)+(m:Int))=((n+m:Nat):Int):=by rw [xH (by omega)];omega
 have S:IntKind.i64.wrap ((i:Int)+(m:Int))=((i+m:Nat):Int):=by rw [xH (by omega)];omega
 have a3:IntKind.i64.wrap (((n+m:Nat):Int)-(i:Int))=((n+m-i:Nat):Int):=by rw [xH (by omega)];omega
 have Z:cur.toList.length=c*2:=by rw [ch,K]
 have p:(d.toList.take (m*2)).length=m*2:=by rw [b0,ch];omega
 have U:decide ((c:Int)<((n+m:Nat):Int))=false:=by simp;omega
 have C:js [b] w w:=(Ext.refl w).rz _;have N:∀I J,(callFunc 356 [.slice (some ⟨o,0,none⟩) m G,.slice (some ⟨b,0+(i+m)*2,none⟩) I J].toArray).run Tryz.prog w= .ok (.value (.bool false)) w:=λI J=>by rw [run_callFunc_extern Tryz.func356 (by kernel_rfl) (by kernel_rfl) (by kernel_rfl) (e:=Extern.SlicesOverlaps.overlaps #[350,350] #[4]) (by kernel_rfl)];have:=Lib.run_overlaps_apart (P:=Tryz.prog) w 350 4 462 Tryz.underlying350 2 (λw=>by obtain ⟨i',O,L,_,_⟩:=uS.out;simp [sizeOf,typeInfo,O,L]) ⟨o,0,none⟩ ⟨b,0+(i+m)*2,none⟩ m G I J H R 462 d.size cur.size (by unfold World.shape?;rw [hv]) (by unfold World.shape?;rw [hb]) (by omega) (by unfold World.frozen?;rw [hv];rfl) (by unfold World.frozen?;rw [hv];simp);show ((Extern.SlicesOverlaps.overlaps #[350,350] #[4] #[.slice (some ⟨o,0,none⟩) m G,.slice (some ⟨b,0+(i+m)*2,none⟩) I J]).run Tryz.prog w).andThen _=_;rw [this];rfl
 obtain ⟨u,g,f⟩:=ajO (l:=cur.toList) (vs:=d.toList.take (m*2)) (a:=i*2) (b:=m*2) (n:=n*2) (c:=c*2) (by omega) p (by omega) Z;have z:((cur.toList.drop (i*2)).take (n*2-i*2)).length=n*2-i*2:=by rw [b0,cq];omega
 obtain ⟨j,B⟩:∃j:w5,j=(cur.toList.take (i*2+m*2)++(cur.toList.drop (i*2)).take (n*2-i*2)++cur.toList.drop (i*2+m*2+((cur.toList.drop (i*2)).take (n*2-i*2)).length)).toArray:=⟨_,rfl⟩;have x:j.toList=cur.toList.take (i*2+m*2)++(cur.toList.drop (i*2)).take (n*2-i*2)++cur.toList.drop (i*2+m*2+((cur.toList.drop (i*2)).take (n*2-i*2)).length):=by rw [B]
 rw [<-x] at u g f;obtain ⟨D,A⟩:∃D:w5,D=(j.toList.take (i*2)++d.toList.take (m*2)++j.toList.drop (i*2+(d.toList.take (m*2)).length)).toArray:=⟨_,rfl⟩;have s:D.toList=j.toList.take (i*2)++d.toList.take (m*2)++j.toList.drop (i*2+(d.toList.take (m*2)).length):=by rw [A]
 rw [<-s] at g f;rw [ch] at u g;rw [show n*2+m*2=(n+m)*2 by omega] at f;have F:∀W:World,W.heap[b]? =some (.cells cur 462 (0,0))->∀ty dc sc,(Builtin.copy_ #[350,350] ty #[.slice (some ⟨b,0+(i+m)*2,none⟩) (n+m-(i+m)) dc,.slice (some ⟨b,0+i*2,none⟩) (n+m-i) sc]).run Tryz.prog W= .ok (goInt (Nat.min (n+m-i) (n+m-(i+m)))) (W.setRow b j):=λW hb ty dc sc=>by
  have k:Nat.min (n+m-i) (n+m-(i+m))=n-i:=by simp only [Nat.min_def];split <;> omega
  rw [B,show i*2+m*2=0+(i+m)*2 by omega];exact rv Tryz.underlying350 uS (by rw [z,k];omega) (cell_of_heap hb _ _ (by rw [z,hV])) hb (by rw [z];omega) (λv hv=>h1 v (by rw [<-qc] at hv;exact List.mem_of_mem_drop hv))
 have E:∀W:World,W.heap[b]? =some (.cells j 462 (0,0))->W.heap[o]? =some (.cells d R (0,0))->∀ty dc,(Builtin.copy_ #[350,350] ty #[.slice (some ⟨b,0+i*2,none⟩) (n+m-i) dc,.slice (some ⟨o,0,none⟩) m G]).run Tryz.prog W= .ok (goInt (Nat.min m (n+m-i))) (W.setRow b D):=λW hb hv ty dc=>by
  have k:Nat.min m (n+m-i)=m:=by simp only [Nat.min_def];split <;> omega
  rw [A,hV];exact rv Tryz.underlying350 uS (by rw [p,k]) (cell_of_heap hv _ _ (by rw [p,l9])) hb (by rw [p];omega) Q
 clear B A x s;refine iv Tryz.func351 rfl Tryz.ntmps351 rfl<|bn<|bh<|aK (cJ ar.c) rfl rfl rfl rfl<|bT<|bd<|bn<|bh<|aK (aL (ar.t rfl)) rfl rfl rfl rfl<|aK (aL (ar.t rfl)) rfl rfl rfl rfl<|aK (my Tryz.underlying350 uS (ar.t rfl) (ar.t rfl) (by omega) (by omega) (by omega)) rfl rfl rfl rfl<|?_;refine bT ?_;refine bd<|bn<|bh<|aK (aL (ar.t rfl)) rfl rfl rfl rfl<|aK (mz Tryz.underlying350 (ar.t rfl) (λ_=>⟨_,_,rfl⟩)) rfl rfl rfl rfl<|aK (cJ (ar.t rfl)) rfl rfl rfl rfl<|?_;refine bT ?_;refine bd<|bn<|bn<|bh<|aK (aL (ar.t rfl)) rfl rfl rfl rfl<|aK (bg.Yg (py (ar.t rfl) ar.c) X) rfl rfl rfl rfl<|bT<|bd<|iJ (ar.t rfl) (λh=>by cases h) (λ_=>?_);refine po<|bd<|bn<|bh<|aK (aL (ar.t rfl)) rfl rfl rfl rfl<|aK (mz Tryz.underlying350 (ar.t rfl) (λ_=>⟨_,_,rfl⟩)) rfl rfl rfl rfl<|aK (cJ (ar.t rfl)) rfl rfl rfl rfl<|?_;refine bT ?_;refine bd<|bn<|bn<|bh<|aK (aL (ar.t rfl)) rfl rfl rfl rfl<|aK (aL (ar.t rfl)) rfl rfl rfl rfl<|aK (bg.Yg (py (ar.t rfl) (ar.t rfl)) V) rfl rfl rfl rfl<|bT<|bd<|iJ (ar.t rfl) (λh=>by cases h) (λ_=>?_);refine po<|bd<|bn<|bn<|bh<|aK (aL (ar.t rfl)) rfl rfl rfl rfl<|aK (aL (ar.t rfl)) rfl rfl rfl rfl<|aK (bg.Yh (s5 (ar.t rfl) (ar.t rfl)) T) rfl rfl rfl rfl<|aK (aL (ar.t rfl)) rfl rfl rfl rfl<|aK (Yn Tryz.underlying350 (ar.t rfl)) rfl rfl rfl rfl<|aK (bg.Yg (Wk (ar.t rfl) (ar.t rfl)) U) rfl rfl rfl rfl<|bT<|bd<|iJ (ar.t rfl) (λh=>by cases h) (λ_=>?_);refine po<|bd<|bn<|bh<|aK (aL (ar.t rfl)) rfl rfl rfl rfl<|aK (aL (ar.t rfl)) rfl rfl rfl rfl<|aK (aL (ar.t rfl)) rfl rfl rfl rfl<|aK (bg.Yh (s5 (ar.t rfl) (ar.t rfl)) T) rfl rfl rfl rfl<|aK (adq Tryz.underlying350 uS (ar.t rfl) (ar.t rfl) (by omega)) rfl rfl rfl rfl<|aK (cJ (ar.t rfl)) rfl rfl rfl rfl<|?_;refine bT ?_;refine bd<|bn<|bn<|bh<|aK (aL (ar.t rfl)) rfl rfl rfl rfl<|aK (aL (ar.t rfl)) rfl rfl rfl rfl<|aK (aL (ar.t rfl)) rfl rfl rfl rfl<|aK (aL (ar.t rfl)) rfl rfl rfl rfl<|aK (bg.Yh (s5 (ar.t rfl) (ar.t rfl)) S) rfl rfl rfl rfl<|aK (my Tryz.underlying350 uS (ar.t rfl) (ar.t rfl) (by omega) (by omega) (by omega)) rfl rfl rfl rfl<|aK (ahk (xs:=[(.tmp 61),(.tmp 66)]) (.cons (ar.t rfl) (.cons (ar.t rfl) .nil)) (N _ _)) rfl rfl rfl rfl<|aK (aaX (ar.t rfl)) rfl rfl rfl rfl<|?_;refine bT ?_;refine bd<|iJ (ar.t rfl) (λ_=>?_) (λh=>by cases h);refine bn<|uM [0,0,0,6,9,0,0,96,144] (.q 0 0 (.q 1 1 (.q 2 3 (.q 3 7 (.q 4 15 (.q 5 31 (.q 6 63 (.q 7 127 (.l 8 255 .nil))))))))) (by kernel_rfl) (by kernel_rfl) ?_;intro w1 y;replace hb:=(y.block _ (Array.getElem?_eq_some_iff.1 hb).1).trans hb;replace hv:=(y.block _ (Array.getElem?_eq_some_iff.1 hv).1).trans hv;replace C:=C.trans (y.rz _);refine gz (λ_=>(aL (ar.t rfl))) rfl rfl rfl rfl<|gz (λ_=>(aL (ar.t rfl))) rfl rfl rfl rfl<|gz (λ_=>(aL (ar.t rfl))) rfl rfl rfl rfl<|gz (λ_=>(bg.Yh (s5 (ar.t rfl) (ar.t rfl)) S)) rfl rfl rfl rfl<|gz (λ_=>(my Tryz.underlying350 uS (ar.t rfl) (ar.t rfl) (by omega) (by omega) (by omega))) rfl rfl rfl rfl<|gz (λ_=>(aL (ar.t rfl))) rfl rfl rfl rfl<|gz (λ_=>(aL (ar.t rfl))) rfl rfl rfl rfl<|gz (λ_=>(my Tryz.underlying350 uS (ar.t rfl) (ar.t rfl) (by omega) (by omega) (by omega))) rfl rfl rfl rfl<|?_;refine af1 (pend':=[]) rfl (by kernel_rfl) ?_;refine uV (xE (ar.t rfl) (ar.t rfl) (F _ hb _ _ _)) rfl rfl rfl rfl ?_;replace hb:=setRow_heap _ b cur j 462 (0,0) hb;replace hv:=(setRow_other _ b o j H).trans hv;replace C:=C.trans (uO b j);refine bT<|ane adI<|ajB<|bd<|bn<|bh<|aK (aL (ar.t rfl)) rfl rfl rfl rfl<|aK (aL (ar.t rfl)) rfl rfl rfl rfl<|aK (my Tryz.underlying350 uS (ar.t rfl) (ar.t rfl) (by omega) (by omega) (by omega)) rfl rfl rfl rfl<|aK (aL (ar.t rfl)) rfl rfl rfl rfl<|?_;refine uV (xE (ar.t rfl) (ar.t rfl) (E _ hb hv _ _)) rfl rfl rfl rfl ?_;replace hb:=setRow_heap _ b j D 462 (0,0) hb;replace C:=C.trans (uO b D);refine bT<|bd<|bn<|bh<|aK (aL (ar.t rfl)) rfl rfl rfl rfl<|aK (cJ (ar.t rfl)) rfl rfl rfl rfl<|bT<|bd<|uN<|nn<|MQ rfl (jh.t rfl) ?_;exact ⟨rfl,C,D,hb,g,f⟩
set_option maxRecDepth 100000 in
theorem aq2{w:World}{b K n c i m mc:Nat}{cur d:w5}{ev:TypeId}(hin:i<n)(hm:0<m)(hnc:n<=c)(hroom:c<n+m)(S:(n+m)*16<=140737488355328)
  (hb:w.heap[b]? =some (.cells cur 462 (0,0))) (hsz:cur.size=c*2) (hv:w.heap[K]? =some (.cells d ev (0,0))) (hvs:m*2<=d.size) (h1:∀v∈cur.toList.take (n*2),v.oneCell'=true) (h1v:∀v∈d.toList.take (m*2),v.oneCell'=true):
  fq Tryz.prog 351 [.slice (some ⟨b,0,none⟩) n c,.int .i64 (i:Int),.slice (some ⟨K,0,none⟩) m mc] w (λr w1=>r= .slice (some ⟨w.heap.size,0,none⟩) (n+m) (grownCap w (n+m) c 462)/\js [w.heap.size] w w1/\∃cur':w5,w1.heap[w.heap.size]? =some (.cells cur' 462 (0,0))/\cur'.size=grownCap w (n+m) c 462*2/\cur'.toList.take ((n+m)*2)=(cur.toList.take (n*2)).take (i*2)++d.toList.take (m*2)++(cur.toList.take (n*2)).drop (i*2)):=by
 have z1:((m:Int)==0)=false:=by simp;omega
 have z2:((i:Int)==(n:Int))=false:=by simp;omega
 have a1:IntKind.i64.wrap ((n:Int)+(m:Int))=((n+m:Nat):Int):=by rw [xH (by omega)];omega
 have a2:IntKind.i64.wrap ((i:Int)+(m:Int))=((i+m:Nat):Int):=by rw [xH (by omega)];omega
 have a3:IntKind.i64.wrap (((n+m:Nat):Int)-(i:Int))=((n+m-i:Nat):Int):=by rw [xH (by omega)];omega
 have hl:cur.toList.length=c*2:=by rw [ch,hsz]
 have s:(d.toList.take (m*2)).length=m*2:=by rw [b0,ch];omega
 have z3:decide ((c:Int)<((n+m:Nat):Int))=true:=by simp;omega
 have hbN:b≠w.heap.size:=by have:=(Array.getElem?_eq_some_iff.1 hb).1;omega
 have hvN:K≠w.heap.size:=by have:=(Array.getElem?_eq_some_iff.1 hv).1;omega
 obtain ⟨i0,hi0,hs0,T,hz0⟩:=uS.out;have R:(cur.toList.take (n*2)).length=n*2:=by rw [b0];omega
 have D:((cur.toList.take (n*2)).take (i*2)).length=i*2:=by rw [b0];omega
 have u:(Builtin.firstCells i0.size i (.slice (some ⟨b,0,none⟩) i c)).run Tryz.prog w.drew= .ok ((cur.toList.take (n*2)).take (i*2)).toArray w.drew:=by rw [hs0];exact run_firstCells_some w.drew 2 i ⟨b,0,none⟩ i c _ (by rw [D]) (cell_of_heap (w:=w.drew) hb 0 _ (by rw [D,l9,n7,c8 (by omega)]))
 have e:=Lib.run_append_grow_zeros (P:=Tryz.prog) w 350 3 350 462 i0 _ .i64 .i64 Tryz.underlying350 Tryz.underlying3 hi0 hz0 (some ⟨b,0,none⟩) i c _ u (n+m-i) (by omega) (by omega) (by omega) (by omega) (by rw [T];omega) (by rw [T];exact growslice_fits (by omega) (by rw [show i+(n+m-i)=n+m by omega];exact S));rw [show i+(n+m-i)=n+m by omega] at e;obtain ⟨G,hG⟩:∃G,G=grownCap w (n+m) c 462:=⟨_,rfl⟩;have hGn:n+m<=G:=by rw [hG];exact grownCap_ge w _ _ _
 have hG63:G<=9223372036854775807:=by have:=grownCap_le_maxLen w (n+m) c 462 (by unfold maxLen;omega);rw [<-hG] at this;unfold maxLen at this;omega
 rw [<-hG] at e ⊢;obtain ⟨N,A⟩:∃N:w9,N=(Builtin.zeroCells ((.agg #[(.int .u8 0),(.int .i64 0)]):Value).cells (n+m-i)++Builtin.zeroCells ((.agg #[(.int .u8 0),(.int .i64 0)]):Value).cells (G-(n+m))).toList:=⟨_,rfl⟩;have B:N.length=(G-i)*2:=by have Z:((.agg #[(.int .u8 0),(.int .i64 0)]):Value).cells.size=2:=rfl;rw [A,ch,qo,size_zeroCells,size_zeroCells,Z];omega
 obtain ⟨f,H⟩:∃f:w5,f=((cur.toList.take (n*2)).take (i*2)).toArray++Builtin.zeroCells ((.agg #[(.int .u8 0),(.int .i64 0)]):Value).cells (n+m-i)++Builtin.zeroCells ((.agg #[(.int .u8 0),(.int .i64 0)]):Value).cells (G-(n+m)):=⟨_,rfl⟩;rw [<-H] at e;have o:f.toList=(cur.toList.take (n*2)).take (i*2)++N:=by rw [H,A];simp
 have X:f.size=G*2:=by have:=congrArg List.length o;rw [ch,b9,D,B] at this;omega
 have hrz:(Builtin.append_ #[350,3] 350 #[.slice (some ⟨b,0,none⟩) i c,.int .i64 ((n+m-i:Nat):Int)]).run Tryz.prog w= .ok (.slice (some ⟨w.heap.size,0,none⟩) (n+m) G) (w.drew.alloc (.cells f 462)):=e;obtain ⟨Y,M,L⟩:=akv (l:=cur.toList.take (n*2)) (vs:=d.toList.take (m*2)) (z:=N) (a:=i*2) (b:=m*2) (n:=n*2) (by omega) s R (by rw [B];omega);rw [<-o] at Y M L;obtain ⟨j,F⟩:∃j:w5,j=(f.toList.take (i*2)++d.toList.take (m*2)++f.toList.drop (i*2+(d.toList.take (m*2)).length)).toArray:=⟨_,rfl⟩;have y:j.toList=f.toList.take (i*2)++d.toList.take (m*2)++f.toList.drop (i*2+(d.toList.take (m*2)).length):=by rw [F]
 rw [<-y] at Y M L;have C:((cur.toList.take (n*2)).drop (i*2)).length=n*2-i*2:=by rw [cq,R]
 obtain ⟨J,E⟩:∃J:w5,J=(j.toList.take (i*2+m*2)++(cur.toList.take (n*2)).drop (i*2)++j.toList.drop (i*2+m*2+((cur.toList.take (n*2)).drop (i*2)).length)).toArray:=⟨_,rfl⟩;have x:J.toList=j.toList.take (i*2+m*2)++(cur.toList.take (n*2)).drop (i*2)++j.toList.drop (i*2+m*2+((cur.toList.take (n*2)).drop (i*2)).length):=by rw [E]
 rw [<-x] at M L;rw [ch,ch,X] at Y M;rw [show n*2+m*2=(n+m)*2 by omega] at L;have V:=M;have U:=L;have Q:∀W:World,W.heap[w.heap.size]? =some (.cells f 462 (0,0))->W.heap[K]? =some (.cells d ev (0,0))->∀ty dc,(Builtin.copy_ #[350,350] ty #[.slice (some ⟨w.heap.size,0+i*2,none⟩) (n+m-i) dc,.slice (some ⟨K,0,none⟩) m mc]).run Tryz.prog W= .ok (goInt (Nat.min m (n+m-i))) (W.setRow w.heap.size j):=λW g hv ty dc=>by
  have k:Nat.min m (n+m-i)=m:=by simp only [Nat.min_def];split <;> omega
  rw [F,hV];exact rv Tryz.underlying350 uS (by rw [s,k]) (cell_of_heap hv _ _ (by rw [s,l9])) g (by rw [s];omega) h1v
 have O:∀W:World,W.heap[w.heap.size]? =some (.cells j 462 (0,0))->W.heap[b]? =some (.cells cur 462 (0,0))->∀ty dc sc,(Builtin.copy_ #[350,350] ty #[.slice (some ⟨w.heap.size,0+(i+m)*2,none⟩) (n+m-(i+m)) dc,.slice (some ⟨b,0+i*2,none⟩) (n-i) sc]).run Tryz.prog W= .ok (goInt (Nat.min (n-i) (n+m-(i+m)))) (W.setRow w.heap.size J):=λW g hb ty dc sc=>by
  have k:Nat.min (n-i) (n+m-(i+m))=n-i:=by simp only [Nat.min_def];split <;> omega
  rw [E,show i*2+m*2=0+(i+m)*2 by omega];exact rv Tryz.underlying350 uS (by rw [C,k];omega) (cell_of_heap hb _ _ (by rw [C,hV,qc])) g (by rw [C];omega) (λv hv=>h1 v (List.mem_of_mem_drop hv))
 have I:js [w.heap.size] w (w.drew.alloc (.cells f 462)):=⟨rfl,rfl,rfl,by simp,λb hb _=>heap_alloc_old w.drew _ hb⟩;clear F E y x H o A B Y M L e u;refine iv Tryz.func351 rfl Tryz.ntmps351 rfl<|bn<|bh<|aK (cJ ar.c) rfl rfl rfl rfl<|bT<|bd<|bn<|bh<|aK (aL (ar.t rfl)) rfl rfl rfl rfl<|aK (aL (ar.t rfl)) rfl rfl rfl rfl<|aK (my Tryz.underlying350 uS (ar.t rfl) (ar.t rfl) (by omega) (by omega) (by omega)) rfl rfl rfl rfl<|?_;refine bT ?_;refine bd<|bn<|bh<|aK (aL (ar.t rfl)) rfl rfl rfl rfl<|aK (mz Tryz.underlying350 (ar.t rfl) (λ_=>⟨_,_,rfl⟩)) rfl rfl rfl rfl<|aK (cJ (ar.t rfl)) rfl rfl rfl rfl<|?_;refine bT ?_;refine bd<|bn<|bn<|bh<|aK (aL (ar.t rfl)) rfl rfl rfl rfl<|aK (bg.Yg (py (ar.t rfl) ar.c) z1) rfl rfl rfl rfl<|bT<|bd<|iJ (ar.t rfl) (λh=>by cases h) (λ_=>?_);refine po<|bd<|bn<|bh<|aK (aL (ar.t rfl)) rfl rfl rfl rfl<|aK (mz Tryz.underlying350 (ar.t rfl) (λ_=>⟨_,_,rfl⟩)) rfl rfl rfl rfl<|aK (cJ (ar.t rfl)) rfl rfl rfl rfl<|?_;refine bT ?_;refine bd<|bn<|bn<|bh<|aK (aL (ar.t rfl)) rfl rfl rfl rfl<|aK (aL (ar.t rfl)) rfl rfl rfl rfl<|aK (bg.Yg (py (ar.t rfl) (ar.t rfl)) z2) rfl rfl rfl rfl<|bT<|bd<|iJ (ar.t rfl) (λh=>by cases h) (λ_=>?_);refine po<|bd<|bn<|bn<|bh<|aK (aL (ar.t rfl)) rfl rfl rfl rfl<|aK (aL (ar.t rfl)) rfl rfl rfl rfl<|aK (bg.Yh (s5 (ar.t rfl) (ar.t rfl)) a1) rfl rfl rfl rfl<|aK (aL (ar.t rfl)) rfl rfl rfl rfl<|aK (Yn Tryz.underlying350 (ar.t rfl)) rfl rfl rfl rfl<|aK (bg.Yg (Wk (ar.t rfl) (ar.t rfl)) z3) rfl rfl rfl rfl<|bT<|bd<|iJ (ar.t rfl) (λ_=>?_) (λh=>by cases h);refine bn<|bh<|aK (aL (ar.t rfl)) rfl rfl rfl rfl<|aK (aL (ar.t rfl)) rfl rfl rfl rfl<|aK (adq Tryz.underlying350 uS (ar.t rfl) (ar.t rfl) (by omega)) rfl rfl rfl rfl<|aK (aL (ar.t rfl)) rfl rfl rfl rfl<|aK (aL (ar.t rfl)) rfl rfl rfl rfl<|aK (bg.Yh (s5 (ar.t rfl) (ar.t rfl)) a1) rfl rfl rfl rfl<|aK (aL (ar.t rfl)) rfl rfl rfl rfl<|aK (bg.Yh (afB (ar.t rfl) (ar.t rfl)) a3) rfl rfl rfl rfl<|?_;refine uV (OY (ar.t rfl) (ar.t rfl) hrz) rfl rfl rfl rfl ?_;have g:=heap_alloc_new w.drew (.cells f 462);replace hb:=(heap_alloc_old w.drew (.cells f 462) (Array.getElem?_eq_some_iff.1 hb).1).trans hb;replace hv:=(heap_alloc_old w.drew (.cells f 462) (Array.getElem?_eq_some_iff.1 hv).1).trans hv;refine aK (cJ (ar.t rfl)) rfl rfl rfl rfl<|bT<|bd<|bn<|bh<|aK (aL (ar.t rfl)) rfl rfl rfl rfl<|aK (aL (ar.t rfl)) rfl rfl rfl rfl<|aK (my Tryz.underlying350 uS (ar.t rfl) (ar.t rfl) (by omega) (by omega) (by omega)) rfl rfl rfl rfl<|aK (aL (ar.t rfl)) rfl rfl rfl rfl<|?_;refine uV (xE (ar.t rfl) (ar.t rfl) (Q _ g hv _ _)) rfl rfl rfl rfl ?_;replace I:=I.trans (uO w.heap.size j);replace g:=setRow_heap _ w.heap.size f j 462 (0,0) g;replace hb:=(setRow_other _ w.heap.size b j hbN).trans hb;replace hv:=(setRow_other _ w.heap.size K j hvN).trans hv;refine bT<|bd<|bn<|uM [0,0,0,6,9,0,0,96,144] (.q 0 0 (.q 1 1 (.q 2 3 (.q 3 7 (.q 4 15 (.q 5 31 (.q 6 63 (.q 7 127 (.l 8 255 .nil))))))))) (by kernel_rfl) (by kernel_rfl) ?_;intro w1 p;replace g:=(p.block _ (Array.getElem?_eq_some_iff.1 g).1).trans g;replace hb:=(p.block _ (Array.getElem?_eq_some_iff.1 hb).1).trans hb;replace hv:=(p.block _ (Array.getElem?_eq_some_iff.1 hv).1).trans hv;replace I:=I.trans (p.rz _);refine gz (λ_=>(aL (ar.t rfl))) rfl rfl rfl rfl<|gz (λ_=>(aL (ar.t rfl))) rfl rfl rfl rfl<|gz (λ_=>(aL (ar.t rfl))) rfl rfl rfl rfl<|gz (λ_=>(bg.Yh (s5 (ar.t rfl) (ar.t rfl)) a2)) rfl rfl rfl rfl<|gz (λ_=>(my Tryz.underlying350 uS (ar.t rfl) (ar.t rfl) (by omega) (by omega) (by omega))) rfl rfl rfl rfl<|gz (λ_=>(aL (ar.t rfl))) rfl rfl rfl rfl<|gz (λ_=>(aL (ar.t rfl))) rfl rfl rfl rfl<|gz (λ_=>(my Tryz.underlying350 uS (ar.t rfl) (ar.t rfl) (by omega) (by omega) (by omega))) rfl rfl rfl rfl<|?_;refine af1 (pend':=[]) rfl (by kernel_rfl) ?_;refine uV (xE (ar.t rfl) (ar.t rfl) (O _ g hb _ _ _)) rfl rfl rfl rfl ?_;replace I:=I.trans (uO w.heap.size J);replace g:=setRow_heap _ w.heap.size j J 462 (0,0) g;refine bT<|ane adI<|ajB<|bd<|bn<|bh<|aK (aL (ar.t rfl)) rfl rfl rfl rfl<|aK (cJ (ar.t rfl)) rfl rfl rfl rfl<|bT<|bd<|uN<|nn<|MQ rfl (jh.t rfl) ?_;exact ⟨rfl,I,J,g,V,U⟩
theorem abu{Φ:Ctx}{v Q:fA}{xs ys:List (Int×Int)}{R Ry:x8}{i:Int}(I:Sat (fX (RP (RI .u8) (RI .i64)) 462 (sl v) xs R::fX (RP (RI .u8) (RI .i64)) 462 (sl Q) ys Ry::Φ) w)(K:ys≠[])(hi:QE i xs.length=true)(g:aG (xs.length+ys.length) 16=true):
  fq Tryz.prog 351 [sl v,.int .i64 i,sl Q] w (λr w'=>∃(p:fA) (U:x8),r=sl p/\Sat (fX (RP (RI .u8) (RI .i64)) 462 (sl p) (lX xs i ys) U::Jp (Jf (RP (RI .u8) (RI .i64))) [sl Q] ys::Φ) w'):=by
 obtain ⟨hi0,hi1⟩:=alB.1 hi;obtain ⟨k,rfl⟩:∃k:Nat,i=k:=⟨i.toNat,by omega⟩;have hk:k<=xs.length:=by omega
 have D:0<ys.length:=List.length_pos_iff.2 K;have hO:=I.own (i:=0) rfl;obtain ⟨p,c,hv,H⟩:=hO.shape;obtain ⟨T,mc,j,l,Z,L,hmc,_,B,u⟩:=(I.own (i:=1) rfl).ap4 (by decide) K;have mono:∀{S S':Value->World->Prop} {args},fq Tryz.prog 351 args w S->(∀r w',S r w'->S' r w')->fq Tryz.prog 351 args w S':=λh C=>ky.mono h C (λ_ _ h=>h);by_cases M:k=xs.length
 . -- at the end
  subst M;have o:=I.freeze (i:=1) rfl;have o:Sat (fX (RP (RI .u8) (RI .i64)) 462 (sl v) xs R::Jp (Jf (RP (RI .u8) (RI .i64))) [sl Q] ys::Φ) w:=o;obtain ⟨v',U,w',hr,A,P,hP⟩:=agl (t:=350) (ty:=350) Tryz.underlying350 uS rfl (by decide) (o.own (i:=0) rfl) (o.sl (i:=1) rfl) (λb hb=>Ctx.iH (i:=0) rfl hb) g;have C:=o.nd (i:=0) rfl (new:=fX (RP (RI .u8) (RI .i64)) 462 v' (xs++ys) U) A P (λM' m _=>hP M' m);have V:∃p,v'=sl p:=by obtain ⟨a,cap,hv⟩:=(C.own (i:=0) rfl).len;exact ⟨(a,_,cap),hv⟩
  obtain ⟨p',rfl⟩:=V;rw [hv,l] at hr ⊢;refine mono (ara H D hr) ?_;rintro r w1 ⟨rfl,rfl⟩;rw [<-l];refine ⟨p',U,rfl,?_⟩;rw [akF];exact C
 .have z:k<xs.length:=by omega
  have J:xs≠[]:=λh=>by rw [h] at z;simp at z
  obtain ⟨b,c,cur,hv,P,hh,H,O,F,x⟩:=hO.ap4 (by decide) J;have N:c<=9223372036854775807:=by unfold maxLen at O;omega
  have W:T≠b:=by intro e;subst e;exact I.sep 0 1 _ _ rfl rfl (by decide) T (by show T∈R;rw [P];simp) (by show T∈Ry;rw [Z];simp)
  have f:=alh (ys:=ys) hk;simp only [aG,ae] at g;have Y:=cj g.1;have X:=cj g.2;have hcur:c*2=cur.size:=F.symm;by_cases y:xs.length+ys.length<=c
  . -- there is room
   rw [hv,l];refine mono (arf z D y N W hh F L (by rw [show j.size=mc*2 from B];omega) x.AE u.AE) ?_;rintro r w1 ⟨rfl,A,s,q,G,E⟩;rw [<-l];refine ⟨(some ⟨b,0,none⟩,xs.length+ys.length,c),[b],rfl,?_⟩;have C:=I.nd (i:=0) rfl (new:=fX (RP (RI .u8) (RI .i64)) 462 (.slice (some ⟨b,0,none⟩) (xs.length+ys.length) c) (lX xs (k:Int) ys) [b]) (by show js R w w1;rw [P];exact A) (λd hd=>by
    have:d=b:=by simpa [fX] using hd
    subst this;exact ⟨(Array.getElem?_eq_some_iff.1 q).1,.inl (by show d∈R;rw [P];simp)⟩) (λM' m _=>by
    show bK _ _ _ _ _ _ _;rw [<-f];refine bK.mk0 q (by omega) O G ?_;rw [f];have:=(af7 (i:=k) x u).mv m;have e:s.toList.take ((xs.length+ys.length)*((RP (RI .u8) (RI .i64))).n)=(cur.toList.take (xs.length*((RP (RI .u8) (RI .i64))).n)).take (k*((RP (RI .u8) (RI .i64))).n)++j.toList.take (ys.length*((RP (RI .u8) (RI .i64))).n)++(cur.toList.take (xs.length*((RP (RI .u8) (RI .i64))).n)).drop (k*((RP (RI .u8) (RI .i64))).n):=E;rw [e];exact this)
   exact C.freeze (i:=1) rfl
  . -- a new row
   rw [hv,l];refine mono (aq2 z D H (by omega) Y hh F L (by rw [show j.size=mc*2 from B];omega) x.AE u.AE) ?_;rintro r w1 ⟨rfl,A,s,q,G,E⟩;rw [<-l];refine ⟨(some ⟨w.heap.size,0,none⟩,xs.length+ys.length,_),[w.heap.size],rfl,?_⟩;have hE:js R w w1:=⟨A.os,A.tape,A.output,A.size,λd hd _=>A.block d hd (by simp;omega)⟩;have C:=I.nd (i:=0) rfl (new:=fX (RP (RI .u8) (RI .i64)) 462 (.slice (some ⟨w.heap.size,0,none⟩) (xs.length+ys.length) (grownCap w (xs.length+ys.length) c 462)) (lX xs (k:Int) ys) [w.heap.size]) hE (λd hd=>by
    have:d=w.heap.size:=by simpa [fX] using hd
    subst this;exact ⟨(Array.getElem?_eq_some_iff.1 q).1,.inr (bb _)⟩) (λM' m _=>by
    show bK _ _ _ _ _ _ _;rw [<-f];refine bK.mk0 (by rw [f] at *; exact q) (by rw [f];exact grownCap_ge w _ _ _) (by rw [f];exact grownCap_le_maxLen w _ c 462 (by simpa [maxLen] using X)) (by rw [f];exact G) ?_;rw [f];have:=(af7 (i:=k) x u).mv m;have e:s.toList.take ((xs.length+ys.length)*((RP (RI .u8) (RI .i64))).n)=(cur.toList.take (xs.length*((RP (RI .u8) (RI .i64))).n)).take (k*((RP (RI .u8) (RI .i64))).n)++j.toList.take (ys.length*((RP (RI .u8) (RI .i64))).n)++(cur.toList.take (xs.length*((RP (RI .u8) (RI .i64))).n)).drop (k*((RP (RI .u8) (RI .i64))).n):=E;rw [e];exact this)
   exact C.freeze (i:=1) rfl
end I351
open Go.Lib
theorem aoA{P:Program}{Γg:Ctx}{f e bytes:Nat}{t:Ty}(hE:Enters P f)
  (o:∀{Φ:Ctx} {w:World} {v C:fA} {xs ys:List t.T} {R Ry:x8} {i:Int},Sat (fX t.rep e (sl v) xs R::fX t.rep e (sl C) ys Ry::Φ) w->ys≠[]->QE i xs.length=true->aG (xs.length+ys.length) bytes=true->
   fq P f [sl v,.int .i64 i,sl C] w (λr w'=>∃(p:fA) (n:x8),r=sl p/\Sat (fX t.rep e (sl p) (lX xs i ys) n::Jp (Jf t.rep) [sl C] ys::Φ) w'))
  (m:List t.T->Int->List t.T->Option (List t.T)) (hm:∀xs i ys r,m xs i ys=some r->ys≠[]/\QE i xs.length=true/\aG (xs.length+ys.length) bytes=true/\r=lX xs i ys):
  (⟨f,[.own t e true,.int .i64,.own t e true],.own t e true,[],λs=>m s.1 s.2.1 s.2.2⟩:aq).Ok P Γg:=by
 refine ⟨hE,λs r hr vs N I X Φ w hS H hΦ=>?_⟩;obtain ⟨v1,Z,D1,D2,I1,I2,X1,X2,N1,rfl,⟨a,l,rfl,_,rfl,rfl,rfl,rfl,_⟩,⟨v2,W,D3,D4,I3,I4,X3,X4,N2,rfl,⟨i,rfl,rfl,rfl,rfl,rfl⟩,⟨v3,V,D5,D6,I5,I6,X5,X6,N3,rfl,⟨b,S,rfl,_,rfl,rfl,rfl,rfl,_⟩,⟨rfl,rfl,rfl,rfl,rfl⟩,rfl,rfl,rfl⟩,rfl,rfl,rfl⟩,z,rfl,rfl⟩:=hS;obtain ⟨c,u,g⟩:=s;obtain ⟨J,hb,k,rfl⟩:=hm c u g r hr;have z:[(⟨.l t,c⟩:bZ),⟨.i .i64,u⟩,⟨.l t,g⟩]=[⟨.l t,l⟩,⟨.i .i64,i⟩,⟨.l t,S⟩]:=z;simp only [qb,and_true] at z;obtain ⟨Q,O,L⟩:=z;have q1:c=l:=by cases Q;rfl
 have q2:u=i:=by cases O;rfl
 have q3:g=S:=by cases L;rfl
 subst q1 q2 q3;have H:Sat (mJ t.rep e a.v c True::mJ t.rep e b.v g True::Φ) w:=H;have G:Sat (fX t.rep e (sl a.v) c (tf a.v)::mJ t.rep e b.v g True::Φ) w:=Sat.Dz (A:=[]) H ⟨λ_ h=>h,λM w h=>h.1⟩;have F:Sat (fX t.rep e (sl a.v) c (tf a.v)::fX t.rep e (sl b.v) g (tf b.v)::Φ) w:=Sat.Dz (A:=[fX t.rep e (sl a.v) c (tf a.v)]) G ⟨λ_ h=>h,λM w h=>h.1⟩;refine fq.mono (o F J hb k) ?_;rintro v w' ⟨p,n,rfl,j⟩;obtain ⟨Y,U⟩:∃Y:List t.T,Y=lX c u g:=⟨_,rfl⟩;rw [<-U] at j;refine ⟨[a,b,{ cM with v:=p,y:=⟨.l t,Y⟩ }],[a,b,{ cM with v:=p,y:=⟨.l t,Y⟩ }],[⟨.l t,Y⟩],[],[(true,mJ t.rep e p Y True)],[],[],[],
  ⟨{ cM with v:=p,y:=⟨.l t,Y⟩ },Y,rfl,(λq h=>by cases h),rfl,rfl,rfl,rfl,rfl⟩,⟨rfl,rfl,rfl,rfl⟩,by rw [U];rfl,?_⟩
 have hO:=j.own (i:=0) rfl;have d:=hO.canon;have E:Sat ([fX t.rep e (sl p) Y n]++fJ::Φ) w':=Sat.Dz (A:=[fX t.rep e (sl p) Y n]) (B:=Φ) j ⟨(λ_ h=>nomatch h),λ_ _ _=>trivial⟩;have D:=Sat.lX (A:=[fX t.rep e (sl p) Y n]) (B:=fJ::Φ) E [fJ] (λit K=>by rw [List.mem_singleton.1 K];exact ⟨rfl,λ_ _=>trivial⟩);exact Sat.Dz (A:=[]) (B:=fJ::fJ::Φ) (x:=fX t.rep e (sl p) Y n) D ⟨λb hb=>d.1 b hb,λM w h=>⟨d.2 M w h,trivial⟩⟩
end Go.Proofs.YtkedhpmpejhekaaGreatDoor
namespace Go.Proofs
open Go.Shelf
def Tryz.PD:Go.Shelf.Ren:=⟨λ| 145=>26|220=>32|219=>40|217=>51|225=>52|224=>53|267=>54|266=>80|314=>81|n=>n,λ| 9=>9|4=>4|59=>66|3=>3|5=>5|46=>129|146=>183|51=>38|n=>n,λ| 1=>2|n=>n⟩
theorem Tryz.afE:Go.Proofs.LaysM.n145 Tryz.prog Tryz.PD:={
 mixed:=by kernel_rfl
 f145:=Tryz.func26.trans (congrArg some (by kernel_rfl))
 f217:=Tryz.func51.trans (congrArg some (by kernel_rfl))
 f219:=Tryz.func40.trans (congrArg some (by kernel_rfl))
 f220:=Tryz.func32.trans (congrArg some (by kernel_rfl))
 f224:=Tryz.func53.trans (congrArg some (by kernel_rfl))
 f225:=Tryz.func52.trans (congrArg some (by kernel_rfl))
 f266:=Tryz.func80.trans (congrArg some (by kernel_rfl))
 f267:=Tryz.func54.trans (congrArg some (by kernel_rfl))
 f314:=Tryz.func81.trans (congrArg some (by kernel_rfl))
 t3:=Tryz.underlying3
 a3:=Tryz.isAgg3
 z3:=Tryz.sizeOf3
 v3:=Tryz.zeroValue3
 t4:=Tryz.underlying4
 a4:=Tryz.isAgg4
 z4:=Tryz.sizeOf4
 v4:=Tryz.zeroValue4
 t5:=Tryz.underlying5
 a5:=Tryz.isAgg5
 z5:=Tryz.sizeOf5
 v5:=Tryz.zeroValue5
 t9:=Tryz.underlying9
 a9:=Tryz.isAgg9
 z9:=Tryz.sizeOf9
 v9:=Tryz.zeroValue9
 t46:=Tryz.underlying129
 a46:=Tryz.isAgg129
 z46:=Tryz.sizeOf129
 v46:=Tryz.zeroValue129
 t51:=Tryz.underlying38
 a51:=Tryz.isAgg38
 z51:=Tryz.sizeOf38
 v51:=Tryz.zeroValue38
 t59:=Tryz.underlying66
 a59:=Tryz.isAgg66
 z59:=Tryz.sizeOf66
 v59:=Tryz.zeroValue66
 t146:=Tryz.underlying183
 a146:=Tryz.isAgg183
 z146:=Tryz.sizeOf183
 v146:=Tryz.zeroValue183
 g1:=by kernel_rfl
 i3:=by kernel_rfl
 i4:=by kernel_rfl
 i5:=by kernel_rfl
 i9:=by kernel_rfl
 i46:=by kernel_rfl
 i51:=by kernel_rfl
 i59:=by kernel_rfl
 i146:=by kernel_rfl
 m1:=by kernel_rfl
 s1_3:=λw h=>Go.Proofs.cell_of_shapedOpen_int (zero:= #[.int .i64 0]) (t:=3) h (of_decide_eq_true (by kernel_rfl)) (by kernel_rfl) rfl (by kernel_rfl) (by kernel_rfl) Tryz.underlying3 }
end Go.Proofs
namespace Go.Proofs
open Go.Shelf
def Tryz.OK:Go.Shelf.Ren:=⟨λ| 229=>28|n=>n,λ| 9=>9|40=>70|31=>43|152=>83|3=>3|0=>0|4=>4|21=>21|154=>85|n=>n,λ| n=>n⟩
theorem Tryz.aoI:Go.Proofs.LaysM.n229 Tryz.prog Tryz.OK:={
 mixed:=by kernel_rfl
 f229:=Tryz.func28.trans (congrArg some (by kernel_rfl))
 t0:=Tryz.underlying0
 a0:=Tryz.isAgg0
 z0:=Tryz.sizeOf0
 v0:=Tryz.zeroValue0
 t3:=Tryz.underlying3
 a3:=Tryz.isAgg3
 z3:=Tryz.sizeOf3
 v3:=Tryz.zeroValue3
 t4:=Tryz.underlying4
 a4:=Tryz.isAgg4
 z4:=Tryz.sizeOf4
 v4:=Tryz.zeroValue4
 t9:=Tryz.underlying9
 a9:=Tryz.isAgg9
 z9:=Tryz.sizeOf9
 v9:=Tryz.zeroValue9
 t21:=Tryz.underlying21
 a21:=Tryz.isAgg21
 z21:=Tryz.sizeOf21
 v21:=Tryz.zeroValue21
 t31:=Tryz.underlying43
 a31:=Tryz.isAgg43
 z31:=Tryz.sizeOf43
 v31:=Tryz.zeroValue43
 t40:=Tryz.underlying70
 a40:=Tryz.isAgg70
 z40:=Tryz.sizeOf70
 v40:=Tryz.zeroValue70
 t152:=Tryz.underlying83
 a152:=Tryz.isAgg83
 z152:=Tryz.sizeOf83
 v152:=Tryz.zeroValue83
 t154:=Tryz.underlying85
 a154:=Tryz.isAgg85
 z154:=Tryz.sizeOf85
 v154:=Tryz.zeroValue85
 i0:=by kernel_rfl
 i3:=by kernel_rfl
 i4:=by kernel_rfl
 i9:=by kernel_rfl
 i21:=by kernel_rfl
 i31:=by kernel_rfl
 i40:=by kernel_rfl
 i152:=by kernel_rfl
 i154:=by kernel_rfl }
end Go.Proofs
