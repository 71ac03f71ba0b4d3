/- Own texts for CheckFormula, cut and joined by a program. -/
import Derived.Test.YthhmkmmmbcjghaaGreatDoorCheckFormulaF
import Derived.Shelf.Strconv.Itoa3
import Derived.Ground.NamesProg
import Derived.Test.YthhmkmmmbcjghaaGreatDoorProg
import Derived.Lib.ItoaLen
import Derived.Shelf.Spec.SlicesGrow
set_option linter.all false
namespace Go.Proofs.YthhmkmmmbcjghaaGreatDoor
open Go.Lib
abbrev akB{R:Type}(X:Cx)(H:List Row)(fn:Func)(K:AV->aG->Option R)(st:aG):Option R:=match wz (Ld X ⟨[],H,fn.ntmps⟩ st) fn.results.toList with
 |some rs=>K (HR rs) st
 |none=>none
noncomputable def VX{R:Type}(X:Cx)(fn:Func)(args:List AV)(H:List Row)(st:aG)(K:AV->aG->Option R):Option R:=match fn.body with
 |some body=>aC (Nat.ble args.length fn.ntmps) (den X [] [] body ⟨[],H,fn.ntmps⟩ (λe st'=>match e with
  | .ret=>akB X H fn K st'
  | .nrm=>akB X H fn K st'
  |_=>none) ⟨st.c,ki 0 args,st.G,.o⟩) none
 |none=>none
theorem Wu{X:Cx}{f:FuncId}{fn:Func}(m:Enters X.P f)(k:X.P.funcs[f]? =some fn)(p:X.gls=[]):(⟨f,λargs H st K=>VX X fn args H st K⟩:Inl).Ok X.P:=by
 refine ⟨m,λ{R} r args H st K ρ Φ w n h=>?_⟩;have e:VX X fn args H st K=some r:=h;unfold VX at e;split at e
 .rename_i body hb;obtain ⟨t,s⟩:=aK e;refine ln k hb rfl (by rw [AV.bw];exact t) ?_;have q:az ρ [] (ki 0 args) []=iota 0 (AV.ao ρ args):=by show aH.env ρ [] (ki 0 args)++[]=_;rw [Ad,l5]
  rw [<-q];have g:∀it∈X.Γ,it∈Φ:=λit bQ=>by unfold Cx.Γ at bQ;rw [p] at bQ;cases bQ
  refine gf (X:=X) (tb:=[]) (tp:=[]) (D:=[]) (fr:=⟨[],H,fn.ntmps⟩) (st:=⟨st.c,ki 0 args,st.G,.o⟩) g (λ_ h=>nomatch h) (λ_ h=>nomatch h) body n s (λx st' ρ' w' y u a d=>?_);have b:Sat (ab ρ' [] st'.G++(ab ρ' [] H++Φ)) w'->akB X H fn K st'=some r->At (BP X.P fn (λv w'=>∃(ρ':aB) (st':aG) (av:AV),K av st'=some r/\aZ st.c ρ ρ'/\st.c<=st'.c/\av.val ρ'=v/\Sat (ab ρ' [] st'.G++(ab ρ' [] H++Φ)) w') (λ_ _=>False))   .ret fn.ntmps [] (az ρ' [] st'.E []) w':=λd h=>by
   unfold akB at h;split at h
   next rs j=>exact ama (fr:=⟨[],H,fn.ntmps⟩) d j ⟨ρ',st',HR rs,h,y,u,rfl,d⟩
   .cases h
  cases x with
  |nrm=>exact b d a
  |ret=>exact b d a
  |ext i=>cases a
  |gto l=>cases a
  |iY v=>cases a
  |panE v=>cases a
  |panL v=>cases a
 .cases e
end Go.Proofs.YthhmkmmmbcjghaaGreatDoor
namespace Go.Proofs
open Go.Shelf
def Tryz.OW:Go.Shelf.Ren:=⟨λ| 171=>104|243=>140|246=>176|283=>192|284=>193|285=>194|286=>195|129=>205|317=>204|318=>206|319=>207|320=>208|337=>212|338=>213|n=>n,λ| 3=>3|9=>9|2=>2|4=>4|171=>313|0=>0|53=>36|37=>111|5=>5|173=>316|212=>322|51=>323|20=>20|213=>324|46=>325|232=>330|233=>331|n=>n,λ| 17=>2|18=>3|19=>4|n=>n⟩
theorem Tryz.aoE:Go.Proofs.LaysM.n171 Tryz.prog Tryz.OW:={
 mixed:=by kernel_rfl
 f129:=Tryz.func205.trans (congrArg some (by kernel_rfl))
 f171:=Tryz.func104.trans (congrArg some (by kernel_rfl))
 f243:=Tryz.func140.trans (congrArg some (by kernel_rfl))
 f246:=Tryz.func176.trans (congrArg some (by kernel_rfl))
 f283:=Tryz.func192.trans (congrArg some (by kernel_rfl))
 f284:=Tryz.func193.trans (congrArg some (by kernel_rfl))
 f285:=Tryz.func194.trans (congrArg some (by kernel_rfl))
 f286:=Tryz.func195.trans (congrArg some (by kernel_rfl))
 f317:=Tryz.func204.trans (congrArg some (by kernel_rfl))
 f318:=Tryz.func206.trans (congrArg some (by kernel_rfl))
 f319:=Tryz.func207.trans (congrArg some (by kernel_rfl))
 f320:=Tryz.func208.trans (congrArg some (by kernel_rfl))
 f337:=Tryz.func212.trans (congrArg some (by kernel_rfl))
 f338:=Tryz.func213.trans (congrArg some (by kernel_rfl))
 t0:=Tryz.underlying0
 a0:=Tryz.isAgg0
 z0:=Tryz.sizeOf0
 v0:=Tryz.zeroValue0
 t2:=Tryz.underlying2
 a2:=Tryz.isAgg2
 z2:=Tryz.sizeOf2
 v2:=Tryz.zeroValue2
 t3:=Tryz.underlying3
 a3:=Tryz.isAgg3
 z3:=Tryz.sizeOf3
 v3:=Tryz.zeroValue3
 t4:=Tryz.underlying4
 a4:=Tryz.isAgg4
 z4:=Tryz.sizeOf4
 v4:=Tryz.zeroValue4
 t5:=Tryz.underlying5
 a5:=Tryz.isAgg5
 z5:=Tryz.sizeOf5
 v5:=Tryz.zeroValue5
 t9:=Tryz.underlying9
 a9:=Tryz.isAgg9
 z9:=Tryz.sizeOf9
 v9:=Tryz.zeroValue9
 t20:=Tryz.underlying20
 a20:=Tryz.isAgg20
 z20:=Tryz.sizeOf20
 v20:=Tryz.zeroValue20
 t37:=Tryz.underlying111
 a37:=Tryz.isAgg111
 z37:=Tryz.sizeOf111
 v37:=Tryz.zeroValue111
 t46:=Tryz.underlying325
 a46:=Tryz.isAgg325
 z46:=Tryz.sizeOf325
 v46:=Tryz.zeroValue325
 t51:=Tryz.underlying323
 a51:=Tryz.isAgg323
 z51:=Tryz.sizeOf323
 v51:=Tryz.zeroValue323
 t53:=Tryz.underlying36
 a53:=Tryz.isAgg36
 z53:=Tryz.sizeOf36
 v53:=Tryz.zeroValue36
 t171:=Tryz.underlying313
 a171:=Tryz.isAgg313
 z171:=Tryz.sizeOf313
 v171:=Tryz.zeroValue313
 t173:=Tryz.underlying316
 a173:=Tryz.isAgg316
 z173:=Tryz.sizeOf316
 v173:=Tryz.zeroValue316
 t212:=Tryz.underlying322
 a212:=Tryz.isAgg322
 z212:=Tryz.sizeOf322
 v212:=Tryz.zeroValue322
 t213:=Tryz.underlying324
 a213:=Tryz.isAgg324
 z213:=Tryz.sizeOf324
 t232:=Tryz.underlying330
 a232:=Tryz.isAgg330
 z232:=Tryz.sizeOf330
 v232:=Tryz.zeroValue330
 t233:=Tryz.underlying331
 a233:=Tryz.isAgg331
 z233:=Tryz.sizeOf331
 v233:=Tryz.zeroValue331
 g17:=by kernel_rfl
 g18:=by kernel_rfl
 g19:=by kernel_rfl
 i0:=by kernel_rfl
 i2:=by kernel_rfl
 i3:=by kernel_rfl
 i4:=by kernel_rfl
 i5:=by kernel_rfl
 i9:=by kernel_rfl
 i20:=by kernel_rfl
 i37:=by kernel_rfl
 i46:=by kernel_rfl
 i51:=by kernel_rfl
 i53:=by kernel_rfl
 i171:=by kernel_rfl
 i173:=by kernel_rfl
 i212:=by kernel_rfl
 i232:=by kernel_rfl
 i233:=by kernel_rfl
 m17:=by kernel_rfl
 m18:=by kernel_rfl
 m19:=by kernel_rfl }
end Go.Proofs
namespace Go.Proofs.YthhmkmmmbcjghaaGreatDoor
open Go.Proofs Go.Shelf Go.Lib
theorem anX{P:Program}{Γg:Ctx}{ρ:Go.Shelf.Ren}(L:Go.Proofs.LaysM.n171 P ρ)(v:Enters P (ρ.f 171)){G:Nat}{tab:zg}(q:P.globalNamed "internal/strconv.uint64pow10" =some G) (h:gl G (tab.map (Value.int .u64))∈Γg) (l:Lib.pow10Tab=tab)
  (m:Int->Option aD) (p:∀n r,m n=some r->akT n=true/\r=Lib.itoa n):(⟨ρ.f 171,[.int .i64],.str,[],λs=>m s⟩:aq).Ok P Γg:=by
 refine ⟨v,λs r o vs N I X Φ w u c g=>?_⟩;obtain ⟨A,j,H,F,E,D,C,B,N2,rfl,⟨x,rfl,rfl,rfl,rfl,rfl⟩,⟨rfl,rfl,rfl,rfl,rfl⟩,d,rfl,rfl⟩:=u;obtain ⟨hn,rfl⟩:=p s r o;have hx:x=s:=by have d:[(⟨.i .i64,s⟩:cD)]=[⟨.i .i64,x⟩]:=d;simp only [qm,and_true] at d;cases d;rfl
 subst hx;obtain ⟨z,y⟩:=aqq.1 hn;have c:Sat Φ w:=c;obtain ⟨i,hi⟩:=List.getElem?_of_mem (g _ h);obtain ⟨_,t,fr,hb⟩:=c.gl0 hi;have a:Lib.TabIs P w "internal/strconv.uint64pow10" .u64 Lib.pow10Tab:=by unfold Lib.TabIs World.var?;rw [q,l];simp [hb]
 refine Calls.mono (Any.strconv_Itoa L x z y w a) ?_;rintro e w' ⟨rfl,k,os,rfl⟩;refine ⟨[],[],[⟨.s,Lib.itoa x⟩],[],[],[],[],[],⟨_,rfl,rfl,rfl,rfl,rfl⟩,⟨rfl,rfl,rfl,rfl⟩,rfl,?_⟩;refine Sat.ext (Γ:=Φ) c ⟨rfl,rfl,rfl,?_,λb hb=>?_⟩
 .simp [Sort.grow,World.drewN]
 .simp [Sort.grow,World.drewN,Array.getElem?_append,hb]
open Go.Proofs Go.Shelf Go.Lib Go.Sort
section
variable {P : Program} {E : Env} {w : World} {dst : zb} {ty : TypeId} {pos : String} {af : zd} {gd : xa} {g : Bool}
theorem RX{x y:Operand}{p:Addr}{len m bytes:Nat}{z:Value}{t e:TypeId}{k:IntKind}{h:Int}(j:P.underlying t=some (.array len e))(b:TI P e m bytes z)(n:0<=h)(l:h<=len)
  (hx:au E g x (.pointer (some p))) (i:au E g y (.int k h)):
  bq P E g ⟨dst,.slice t x none (some y) none,ty,pos,af,gd⟩ w (.slice (some p) h.toNat len):=
 λn' a f d=>by obtain ⟨o,c,q,_,_⟩:=b.out;simp [execOp,hx n' a f d,i n' a f d,Instr.sliceAt,run_underlying j,Instr.sureAddr,Instr.sliceBounds,run_sliceBound,sizeOf,typeInfo,c,Addr.add,n,l]
end
theorem amd{M:Nat->Prop}{w:World}{b u c:Nat}{a:Array UInt8}{cs:x8}{e:TypeId}{fr:Nat×Nat}(g:¬M b)(hb:w.heap[b]? =some (.cells cs e fr))(m:nDigits u<=24)(d:cs.size=24)
  (f:∀j,j<nDigits u->cs[j]? =some (Value.int .u8 ((a[j]!).toNat:Int))) (hk:FmtInv (nDigits u) u 0 c a):
  ca (RI .u8) M w (.slice (some ⟨b,0,none⟩) (nDigits u) 24) (bV (decDigits u)):=by
 have hl:(bV (decDigits u)).length=nDigits u:=by simp [bV,decDigits_length]
 refine .inr ⟨b,0,24,cs,e,fr,by rw [hl],g,hb,by omega,by show 0+24*1<=_;omega,?_⟩;rw [hl];refine ⟨?_,λi hi=>?_⟩
 .rw [hl];show (List.take (nDigits u*1) (List.drop 0 cs.toList)).length=nDigits u*1;simp only [cx,cO,de];omega
 .rw [hl] at hi;have o:=f i hi;show ((List.drop (i*1) (List.take (nDigits u*1) (List.drop 0 cs.toList))).take 1)=[Value.int .u8 _];have n:(List.take (nDigits u*1) (List.drop 0 cs.toList))[i]? =some (Value.int .u8 ((a[i]!).toNat:Int)):=by rw [ko,pa (by omega),n3];simpa using o
  obtain ⟨l,k⟩:=List.getElem?_eq_some_iff.1 n;rw [uK,qz l,k];have h:=row_is_numeral hk i (by rw [decDigits_length];exact hi);simp only [bV,List.getElem_map,h];rfl
theorem atY{P:Program}{Γ:Ctx}{w:World}{G:Nat}{tab:zg}(d:P.globalNamed "internal/strconv.uint64pow10" =some G) (a:gl G (tab.map (Value.int .u64))∈Γ) (b:Lib.pow10Tab=tab) (c:Sat Γ w):
  Lib.TabIs P w "internal/strconv.uint64pow10" .u64 Lib.pow10Tab:=by
 obtain ⟨i,hi⟩:=List.getElem?_of_mem a;obtain ⟨_,t,fr,hb⟩:=c.gl0 hi;unfold Lib.TabIs World.var?;rw [d,b];simp [hb]
set_option maxRecDepth 10000 in
theorem amt{P:Program}{ρ:Go.Shelf.Ren}(L:Go.Proofs.LaysM.n288 P ρ){G:Nat}{tab:zg}(hg:P.globalNamed "internal/strconv.uint64pow10" =some G) (W:Lib.pow10Tab=tab)
  {Φ:Ctx} (F:gl G (tab.map (Value.int .u64))∈Φ) {u:Nat} (I:u<18446744073709551616) {v:gV} {l:zg} {R:zh} {w:World} (T:Sat (iJ (RI .u8) (ρ.t 5) (sl v) l R::Φ) w) (d:aI (l.length+24) 1=true):
  gE P (ρ.f 288) [sl v,.int .u64 (u:Int),.int .i64 10] w λm w'=>∃(p:gV) (E:zh),m=sl p/\Sat (iJ (RI .u8) (ρ.t 5) (sl p) (l++bV (decDigits u)) E::Φ) w':=by
 have D:Enters P (ρ.f 283):=enters_of L.f283 (by kernel_rfl) rfl;have C:Enters P (ρ.f 284):=enters_of L.f284 (by kernel_rfl) rfl;have B:Enters P (ρ.f 285):=enters_of L.f285 (by kernel_rfl) rfl;have o:TI P (ρ.t 5) 1 1 (.int .u8 0):=by
  have:=L.i5;unfold TI;cases hi:P.info? (ρ.t 5) with
  |none=>rw [hi] at this;cases this
  |some i=>rw [hi] at this;simp only [lk,cC,qc] at this ⊢; exact ⟨this.2.1,this.2.2,this.1⟩
 have s:TI P (ρ.t 171) 24 24 (.agg zeros24):=by
  have:=L.i171;unfold TI;cases hi:P.info? (ρ.t 171) with
  |none=>rw [hi] at this;cases this
  |some i=>rw [hi] at this;simp only [lk,cC,qc] at this ⊢; exact ⟨this.2.1,this.2.2,this.1⟩
 simp only [aI,ar] at d;have X:=c5 d.1;have r:∀k,k<=20->aI (l.length+k) 1=true:=λk hk=>by simp only [aI,ar];exact ⟨qw (by omega),qw (by omega)⟩
 have hd:=nDigits_le20 u I;refine ln L.f288 rfl rfl rfl<|bF<|bA<|aP (dG au.c) rfl rfl rfl rfl<|ct<|bn<|bF<|bF<|bA<|aP (aQ (au.t rfl)) rfl rfl rfl rfl<|aP (vT (au.t rfl) au.c) rfl rfl rfl rfl<|ct<|bn<|jS (au.t rfl) (λ_=>?_) (λh=>by cases h);refine bF<|bF<|bA<|aP (aQ (au.t rfl)) rfl rfl rfl rfl<|aP (aiU (au.t rfl) au.c) rfl rfl rfl rfl<|ct<|bn<|jS (au.t rfl) (λh=>?_) (λh=>?_)
 . -- small
  have a:u<100:=by have:=qG h;omega
  refine bF<|bA ?_;have V:IntKind.i64.wrap (u:Int)=(u:Int):=dO (by omega);refine aP (aQ (au.t rfl)) rfl rfl rfl rfl<|aP (aQ (au.t rfl)) rfl rfl rfl rfl<|aP (adR L.t53 L.t3 (au.t rfl)) rfl rfl rfl rfl<|?_;rw [V];refine aay (first:=[]) (cap:=[]) (vs:=[.int .i64 (u:Int)]) (args:=[.int .i64 (u:Int)]) (xs:=[.tmp 15]) (S:=λm w'=>m=S (decDigits u)/\w'=w) D au.f (iM.cons (au.t rfl) iM.nil) rfl rfl ?_ ?_
  .refine Calls.mono (Any.internal_strconv_small { L with } u a w) ?_;rintro e w' ⟨rfl,rfl⟩;exact ⟨rfl,rfl⟩
  .rintro m w' ⟨rfl,rfl⟩;refine akZ T 0 rfl L.t37 L.t9 o (au.t rfl) (au.t rfl) (r _ (by rw [decDigits_length];exact hd)) rfl ?_;intro p E w' K;refine aP (dG (au.t rfl)) rfl rfl rfl rfl<|ct<|bn<|A3 ?_
   repeat refine uc ?_
   refine WR rfl (lE.t rfl) ?_;exact ⟨p,E,rfl,K⟩
 . -- large
  have a:100<=u:=by have:=of_decide_eq_false h;omega
  refine sQ<|bn<|bF<|bA<|aoR (zs:=zeros24.toList) T s (by simp [Value.cells]) rfl ?_;intro b q x;refine ct<|bn<|bF<|bA<|aP (aQ (au.t rfl)) rfl rfl rfl rfl<|aay (first:=[]) (cap:=[]) (vs:=[.int .u64 (u:Int)]) (args:=[.int .u64 (u:Int)]) (xs:=[.tmp 18]) (S:=λm w'=>m= .int .i64 (nDigits u:Int)/\w'=q) C au.f (iM.cons (au.t rfl) iM.nil) rfl rfl ?_ ?_
  .refine Calls.mono (Any.internal_strconv_numDigits { L with } u (by omega) I q (atY hg (cb _ (cb _ F)) W x)) ?_;rintro e w' ⟨rfl,rfl⟩;exact ⟨rfl,rfl⟩
  rintro m Q ⟨rfl,H⟩;obtain rfl:q=Q:=H.symm;refine aP (dG (au.t rfl)) rfl rfl rfl rfl<|ct<|bn<|bF<|bA<|aP (aQ (au.t rfl)) rfl rfl rfl rfl<|aP (RX L.t171 o (by omega) (by omega) (au.t rfl) (au.t rfl)) rfl rfl rfl rfl<|aP (aQ (au.t rfl)) rfl rfl rfl rfl<|?_;rw [q0];refine aay (first:=[]) (cap:=[]) (vs:=[.slice (some ⟨b,0,none⟩) (nDigits u) 24,.int .u64 (u:Int)]) (args:=[.slice (some ⟨b,0,none⟩) (nDigits u) 24,.int .u64 (u:Int)]) (xs:=[.tmp 21,.tmp 22])
   (S:=λ_ w'=>Sat (Mj (Mr (RI .u8)) [.slice (some ⟨b,0,none⟩) (nDigits u) 24] (bV (decDigits u))::iJ (RI .u8) (ρ.t 5) (sl v) l R::Φ) w') B au.f ?_ rfl rfl ?_ ?_
  .exact iM.cons (au.t rfl) (iM.cons (au.t rfl) iM.nil)
  .have O:=x.box (i:=0) rfl;have g:q.heap[b]? =some (.cells zeros24.toList.toArray (ρ.t 171) (0,0)):=O;have hH:Holds (λ(b:UInt8)=>Value.int .u8 (b.toNat:Int)) q b 0 (Array.replicate (nDigits u) (0:UInt8)):=λj N=>by
    have Z:j<nDigits u:=by simpa using N
    refine ⟨?_,?_⟩
    .simp only [World.cell?,g,j0];rw [getElem!_pos _ j N];simpa using zeros24_at j (by omega)
    .simp [World.frozen?,g]
   have key:=Any.internal_strconv_formatBase10 (P:=P) (ρ:=ρ) { L with } b 0 24 u (Array.replicate (nDigits u) (0:UInt8)) q hH (by rw [wi];exact lt_pow_nDigits u) I (by rw [wi];omega);rw [wi] at key;refine Calls.mono key ?_;rintro e w' ⟨rfl,n,m,U,rfl,hk⟩;have hp:∀k,((putRow (λ(b:UInt8)=>Value.int .u8 (b.toNat:Int)) q b 0 U).drewN n).heap[k]? =if k=b then some (.cells (putCells (λ(b:UInt8)=>Value.int .u8 (b.toNat:Int)) 0 U zeros24.toList.toArray) (ρ.t 171) (0,0)) else q.heap[k]? :=λk=>by
    simp only [World.drewN,putRow,mapBlock,vy];by_cases hk:k=b
    .subst hk;simp [g,onCells]
    .rw [n7 hk,n7 (λe=>hk e.symm)]
   refine x.ra (i:=0) (new:=Mj (Mr (RI .u8)) [.slice (some ⟨b,0,none⟩) (nDigits u) 24] (bV (decDigits u))) rfl ⟨rfl,rfl,rfl,?_,λk Y M=>?_⟩ (λb hb=>by cases hb) (λM' hm y=>?_)
   .simp [World.drewN,putRow,mapBlock]
   .rw [hp,n7 (by simpa [box] using M)]
   .refine ca.rsl (amd (y b (by simp [box]) (by simp [Mj])) (by rw [hp,pa rfl]) (by omega) (by simp [putCells,zeros24]) (λj N=>?_) hk);have h1:=hk.size;have h2:zeros24[j]? =some (Value.int .u8 0):=zeros24_at j (by omega);simp only [putCells,Array.getElem?_mapIdx];rw [show zeros24.toList.toArray=zeros24 by simp,h2];simp only [lk,qk,true_and,Nat.sub_zero];rw [pa (by omega)]
  .intro m Q z;refine ct<|bn<|bF<|bA<|aP (aQ (au.t rfl)) rfl rfl rfl rfl<|aP (aQ (au.t rfl)) rfl rfl rfl rfl<|aP (RX L.t171 o (by omega) (by omega) (au.t rfl) (au.t rfl)) rfl rfl rfl rfl<|?_;rw [q0];refine amu z 1 rfl L.t37 o rfl rfl (au.t rfl) (au.t rfl) (z.sl (i:=0) rfl) (r _ (by simp [bV,decDigits_length];exact hd)) rfl ?_;intro p E w3 J;refine aP (dG (au.t rfl)) rfl rfl rfl rfl<|ct<|bn<|A3 ?_
   repeat refine uc ?_
   refine WR rfl (lE.t rfl) ?_;exact ⟨p,E,rfl,Sat.Av (A:=[Mj (Mr (RI .u8)) [.slice (some ⟨b,0,none⟩) (nDigits u) 24] (bV (decDigits u))]) J⟩
theorem aqa{P:Program}{Γg:Ctx}{ρ:Go.Shelf.Ren}(L:Go.Proofs.LaysM.n288 P ρ)(hE:Enters P (ρ.f 288)){G:Nat}{tab:zg}(hg:P.globalNamed "internal/strconv.uint64pow10" =some G) (C:gl G (tab.map (Value.int .u64))∈Γg) (Z:Lib.pow10Tab=tab)
  (m:zg->Int->Int->Option zg) (hm:∀l u b r,m l u b=some r->b=10/\0<=u/\u<=18446744073709551615/\aI (l.length+24) 1=true/\r=l++bV (decDigits u.toNat)):
  (⟨ρ.f 288,[.own (.i .u8) (ρ.t 5) true,.int .u64,.int .i64],.own (.i .u8) (ρ.t 5) true,[],λs=>m s.1 s.2.1 s.2.2⟩:aq).Ok P Γg:=by
 refine ⟨hE,λs r hr vs N I X Φ w hS F z=>?_⟩;obtain ⟨v1,T,D1,D2,I1,I2,X1,X2,N1,rfl,⟨a,l,rfl,_,rfl,rfl,rfl,rfl,_⟩,⟨v2,S,D3,D4,I3,I4,X3,X4,N2,rfl,⟨u,rfl,rfl,rfl,rfl,rfl⟩,⟨v3,R,D5,D6,I5,I6,X5,X6,N3,rfl,⟨b,rfl,rfl,rfl,rfl,rfl⟩,⟨rfl,rfl,rfl,rfl,rfl⟩,rfl,rfl,rfl⟩,rfl,rfl,rfl⟩,k,rfl,rfl⟩:=hS;obtain ⟨g,j,o⟩:=s;obtain ⟨hb,h0,h1,e,rfl⟩:=hm g j o r hr;have k:[(⟨.l (.i .u8),g⟩:cD),⟨.i .u64,j⟩,⟨.i .i64,o⟩]=[⟨.l (.i .u8),l⟩,⟨.i .u64,u⟩,⟨.i .i64,b⟩]:=k;simp only [qm,and_true] at k;obtain ⟨K,J,H⟩:=k;have W:g=l:=by cases K;rfl
 have V:j=u:=by cases J;rfl
 have U:o=b:=by cases H;rfl
 subst W V U;subst hb;obtain ⟨n,rfl⟩:∃n:Nat,j=(n:Int):=⟨j.toNat,(Int.toNat_of_nonneg h0).symm⟩;have F:Sat (oa (RI .u8) (ρ.t 5) a.v g True::Φ) w:=F;have E:Sat (iJ (RI .u8) (ρ.t 5) (sl a.v) g (vH a.v)::Φ) w:=Sat.GV (A:=[]) F ⟨λ_ h=>h,λM w h=>h.1⟩;refine gE.mono (amt L hg Z (z _ C) (u:=n) (by omega) E e) ?_;rintro v w' ⟨p,O,rfl,c⟩;obtain ⟨Y,Q⟩:∃Y:zg,Y=List.append (α:=Int) g (bV (decDigits n)):=⟨_,rfl⟩;have c:Sat (iJ (RI .u8) (ρ.t 5) (sl p) Y O::Φ) w':=by rw [Q];exact c
 refine ⟨[a,{ dB with v:=p,y:=⟨.l (.i .u8),Y⟩ }],[a,{ dB with v:=p,y:=⟨.l (.i .u8),Y⟩ }],[⟨.l (.i .u8),Y⟩],[],[(true,oa (RI .u8) (ρ.t 5) p Y True)],[],[],[],
  ⟨{ dB with v:=p,y:=⟨.l (.i .u8),Y⟩ },Y,rfl,(λq h=>by cases h),rfl,rfl,rfl,rfl,rfl⟩,⟨rfl,rfl,rfl,rfl⟩,by rw [Q];rfl,?_⟩
 have hO:=c.own (i:=0) rfl;have d:=hO.canon;have D:=Sat.oI (A:=[iJ (RI .u8) (ρ.t 5) (sl p) Y O]) (B:=Φ) c [gT] (λit bQ=>by rw [List.mem_singleton.1 bQ];exact ⟨rfl,λ_ _=>trivial⟩);exact Sat.GV (A:=[]) (B:=gT::Φ) (x:=iJ (RI .u8) (ρ.t 5) (sl p) Y O) D ⟨λb hb=>d.1 b hb,λM w h=>⟨d.2 M w h,trivial⟩⟩
end Go.Proofs.YthhmkmmmbcjghaaGreatDoor
namespace Go.Proofs
open Go.Shelf
def Tryz.SL:Go.Shelf.Ren:=⟨λ| 288=>210|283=>192|284=>193|285=>194|286=>195|129=>205|317=>204|318=>206|319=>207|320=>208|337=>212|338=>213|n=>n,λ| 37=>111|53=>36|3=>3|4=>4|9=>9|171=>313|0=>0|173=>316|212=>322|51=>323|5=>5|20=>20|213=>324|46=>325|232=>330|233=>331|n=>n,λ| 17=>2|18=>3|19=>4|n=>n⟩
theorem Tryz.asr:Go.Proofs.LaysM.n288 Tryz.prog Tryz.SL:={
 mixed:=by kernel_rfl
 f129:=Tryz.func205.trans (congrArg some (by kernel_rfl))
 f283:=Tryz.func192.trans (congrArg some (by kernel_rfl))
 f284:=Tryz.func193.trans (congrArg some (by kernel_rfl))
 f285:=Tryz.func194.trans (congrArg some (by kernel_rfl))
 f286:=Tryz.func195.trans (congrArg some (by kernel_rfl))
 f288:=Tryz.func210.trans (congrArg some (by kernel_rfl))
 f317:=Tryz.func204.trans (congrArg some (by kernel_rfl))
 f318:=Tryz.func206.trans (congrArg some (by kernel_rfl))
 f319:=Tryz.func207.trans (congrArg some (by kernel_rfl))
 f320:=Tryz.func208.trans (congrArg some (by kernel_rfl))
 f337:=Tryz.func212.trans (congrArg some (by kernel_rfl))
 f338:=Tryz.func213.trans (congrArg some (by kernel_rfl))
 t0:=Tryz.underlying0
 a0:=Tryz.isAgg0
 z0:=Tryz.sizeOf0
 v0:=Tryz.zeroValue0
 t3:=Tryz.underlying3
 a3:=Tryz.isAgg3
 z3:=Tryz.sizeOf3
 v3:=Tryz.zeroValue3
 t4:=Tryz.underlying4
 a4:=Tryz.isAgg4
 z4:=Tryz.sizeOf4
 v4:=Tryz.zeroValue4
 t5:=Tryz.underlying5
 a5:=Tryz.isAgg5
 z5:=Tryz.sizeOf5
 v5:=Tryz.zeroValue5
 t9:=Tryz.underlying9
 a9:=Tryz.isAgg9
 z9:=Tryz.sizeOf9
 v9:=Tryz.zeroValue9
 t20:=Tryz.underlying20
 a20:=Tryz.isAgg20
 z20:=Tryz.sizeOf20
 v20:=Tryz.zeroValue20
 t37:=Tryz.underlying111
 a37:=Tryz.isAgg111
 z37:=Tryz.sizeOf111
 v37:=Tryz.zeroValue111
 t46:=Tryz.underlying325
 a46:=Tryz.isAgg325
 z46:=Tryz.sizeOf325
 v46:=Tryz.zeroValue325
 t51:=Tryz.underlying323
 a51:=Tryz.isAgg323
 z51:=Tryz.sizeOf323
 v51:=Tryz.zeroValue323
 t53:=Tryz.underlying36
 a53:=Tryz.isAgg36
 z53:=Tryz.sizeOf36
 v53:=Tryz.zeroValue36
 t171:=Tryz.underlying313
 a171:=Tryz.isAgg313
 z171:=Tryz.sizeOf313
 v171:=Tryz.zeroValue313
 t173:=Tryz.underlying316
 a173:=Tryz.isAgg316
 z173:=Tryz.sizeOf316
 v173:=Tryz.zeroValue316
 t212:=Tryz.underlying322
 a212:=Tryz.isAgg322
 z212:=Tryz.sizeOf322
 v212:=Tryz.zeroValue322
 t213:=Tryz.underlying324
 a213:=Tryz.isAgg324
 z213:=Tryz.sizeOf324
 t232:=Tryz.underlying330
 a232:=Tryz.isAgg330
 z232:=Tryz.sizeOf330
 v232:=Tryz.zeroValue330
 t233:=Tryz.underlying331
 a233:=Tryz.isAgg331
 z233:=Tryz.sizeOf331
 v233:=Tryz.zeroValue331
 g17:=by kernel_rfl
 g18:=by kernel_rfl
 g19:=by kernel_rfl
 i0:=by kernel_rfl
 i3:=by kernel_rfl
 i4:=by kernel_rfl
 i5:=by kernel_rfl
 i9:=by kernel_rfl
 i20:=by kernel_rfl
 i37:=by kernel_rfl
 i46:=by kernel_rfl
 i51:=by kernel_rfl
 i53:=by kernel_rfl
 i171:=by kernel_rfl
 i173:=by kernel_rfl
 i212:=by kernel_rfl
 i232:=by kernel_rfl
 i233:=by kernel_rfl
 m17:=by kernel_rfl
 m18:=by kernel_rfl
 m19:=by kernel_rfl }
end Go.Proofs
namespace Go.Proofs
open Go.Shelf
def Tryz.abf:Go.Shelf.Ren:=⟨λ| 4=>153|n=>n,λ| 22=>40|25=>39|3=>3|4=>4|9=>9|20=>20|0=>0|n=>n,λ| n=>n⟩
theorem Tryz.auP:Go.Proofs.Lays8.n4 Tryz.prog Tryz.abf:={
 mixed:=by kernel_rfl
 f4:=⟨Tryz.f153.name,by decide,Tryz.func153.trans (congrArg some (by kernel_rfl))⟩
 t0:=Tryz.underlying0
 a0:=Tryz.isAgg0
 z0:=Tryz.sizeOf0
 v0:=Tryz.zeroValue0
 t3:=Tryz.underlying3
 a3:=Tryz.isAgg3
 z3:=Tryz.sizeOf3
 v3:=Tryz.zeroValue3
 t4:=Tryz.underlying4
 a4:=Tryz.isAgg4
 z4:=Tryz.sizeOf4
 v4:=Tryz.zeroValue4
 t9:=Tryz.underlying9
 a9:=Tryz.isAgg9
 z9:=Tryz.sizeOf9
 v9:=Tryz.zeroValue9
 t20:=Tryz.underlying20
 a20:=Tryz.isAgg20
 z20:=Tryz.sizeOf20
 v20:=Tryz.zeroValue20
 t22:=Tryz.underlying40
 a22:=Tryz.isAgg40
 z22:=Tryz.sizeOf40
 v22:=Tryz.zeroValue40 }
end Go.Proofs
namespace Go.Proofs.YthhmkmmmbcjghaaGreatDoor
open Go.Proofs Go.Shelf Go.Lib
theorem an5{P:Program}{ρ:Go.Shelf.Ren}(L:Go.Proofs.Lays8.n4 P ρ){z:Value}{bytes:Nat}(g:TI P (ρ.t 25) 1 bytes z){α:Type}(A:eD α)(y:A.n=1)(d:z.cells.size=1)(m:0<bytes)(n:Nat)(c:aI n bytes=true)(w:World):
  gE P (ρ.f 4) [.slice none 0 0,.int .i64 (n:Int)] w λv w'=>∃p:gV,v=sl p/\Ext w w'/\(∀b∈vH p,b<w'.heap.size/\w.heap.size<=b)/\∀M':Nat->Prop,bU A (ρ.t 25) M' w' (sl p) ([]:List α) (vH p):=by
 obtain ⟨i,hi,j,l,q⟩:=g.out;simp only [aI,ar] at c;have o:=c5 c.1;have u:=c5 c.2;have s:n<=n*bytes:=Nat.le_mul_of_pos_right n m;by_cases B:n=0
 .subst B;refine Calls.mono (Go.Proofs.Any8.slices_Grow_room L none 0 0 0 w (by omega) (by omega) (by omega) (by omega)) ?_;rintro e w' ⟨rfl,rfl⟩;exact ⟨(none,0,0),rfl,Ext.refl _,(λb hb=>by cases hb),λM'=>bU.nil.Eg⟩
 .refine Calls.mono (Go.Proofs.Any8.slices_Grow_grow L i z hi q (by rw [j];omega) none 0 0 n [] w (by omega) (by omega) (by rw [l];simpa using o) (by omega) (by simp) (λ_=>rfl) (λa h=>by cases h)) ?_;rintro e w' ⟨rfl,rfl⟩;have k:grownCap w (0+n) 0 (ρ.t 25)<=maxLen:=grownCap_le_maxLen w (0+n) 0 _ (by simp only [maxLen];omega);have r:=grownCap_ge w (0+n) 0 (ρ.t 25);refine ⟨(some ⟨w.heap.size,0,none⟩,0,grownCap w (0+n) 0 (ρ.t 25)),rfl,⟨rfl,rfl,rfl,by simp,λb hb=>heap_alloc_old w.drew _ hb⟩,λb hb=>?_,λM'=>?_⟩
  .have:=Df hb;rw [Gm] at this;simp only [nt] at this;subst this;simp
  .have x:iI A (ρ.t 25) M' (w.drew.alloc (.cells (([]:yp).toArray++Builtin.zeroCells z.cells (0+n-0)++Builtin.zeroCells z.cells (grownCap w (0+n) 0 (ρ.t 25)-(0+n))) (ρ.t 25))) (.slice (some ⟨w.heap.size,0,none⟩) 0 (grownCap w (0+n) 0 (ρ.t 25))) ([]:List α):=by refine ⟨[],.of (b:=0) ⟨by simp,.inr ⟨w.heap.size,_,_,rfl,qk _,heap_alloc_new w.drew _,qk _,k,?_,by simp⟩⟩,dh.nil⟩;simp only [qE,n9,size_zeroCells,d,y,qa];omega
   exact (bU.of x).Eg
theorem aor{P:Program}{Γg:Ctx}{ρ:Go.Shelf.Ren}(L:Go.Proofs.Lays8.n4 P ρ)(F:Enters P (ρ.f 4)){z:Value}{bytes:Nat}{t:Ty}(c:TI P (ρ.t 25) 1 bytes z)(k:t.rep.n=1)(b:z.cells.size=1)(d:0<bytes)
  (m:Int->Option (List t.T)) (A:∀n r,m n=some r->0<=n/\aI n.toNat bytes=true/\r=[]):
  (⟨ρ.f 4,[.kr (.raw (.slice none 0 0)),.int .i64],.own t (ρ.t 25) true,[],λs=>m s⟩:aq).Ok P Γg:=by
 refine ⟨F,λs r u vs N I X Φ w C o j=>?_⟩;obtain ⟨K,g,D1,D2,Y,W,R,Q,S,rfl,⟨⟨rfl,_⟩,rfl,rfl,rfl,rfl⟩,⟨J,e,D3,Z,V,U,O,M,N2,rfl,⟨x,rfl,rfl,rfl,rfl,rfl⟩,⟨rfl,rfl,rfl,rfl,rfl⟩,rfl,rfl,rfl⟩,a,rfl,rfl⟩:=C;obtain ⟨H,G,rfl⟩:=A s r u;have hx:x=s:=by have a:[(⟨.i .i64,s⟩:cD)]=[⟨.i .i64,x⟩]:=a;simp only [qm,and_true] at a;cases a;rfl
 subst hx;have hn:((x.toNat:Nat):Int)=x:=Int.toNat_of_nonneg H;have key:=an5 L c t.rep k b d x.toNat G w;rw [hn] at key;refine gE.mono key ?_;rintro v w' ⟨p,rfl,B,D,E⟩;refine ⟨[{ dB with v:=p,y:=⟨.l t,[]⟩ }],[{ dB with v:=p,y:=⟨.l t,[]⟩ }],[⟨.l t,[]⟩],[],[(true,oa t.rep (ρ.t 25) p [] True)],[],[],[],⟨_,[],rfl,(λq h=>by cases h),rfl,rfl,rfl,rfl,rfl⟩,⟨rfl,rfl,rfl,rfl⟩,rfl,?_⟩;exact Sat.push (new:=oa t.rep (ρ.t 25) p [] True) o B D (λM' _=>⟨E M',trivial⟩)
variable {w : World}
open Go.Proofs
namespace I344
theorem xN:TI Tryz.prog 457 2 16 (.agg #[(.int .u8 0),(.int .i64 0)]):=by unfold TI;kernel_rfl
set_option maxRecDepth 100000 in
theorem avp{w w':World}{p q:Option Addr}{n c m e:Nat}{d:Value}(hn:n<=c)(k:0<m)(j:(Builtin.append_ #[346,346] 346 #[.slice p n c,.slice q m e]).run Tryz.prog w= .ok d w'):
  gE Tryz.prog 344 [.slice p n c,.int .i64 (n:Int),.slice q m e] w (λr i=>r=d/\i=w'):=by
 have g:((m:Int)==0)=false:=by simp;omega
 have f:((n:Int)==(n:Int))=true:=by simp
 obtain ⟨b,a⟩:∃b,UX (.slice p n c) (n:Int) ((n:Nat):Int) 2 b:=⟨_,_,_,_,rfl,by omega,qK _,qK _,hn,rfl⟩;refine ln Tryz.func344 rfl Tryz.ntmps344 rfl<|bF<|bA<|aP (dG au.c) rfl rfl rfl rfl<|ct<|bn<|bF<|bA<|aP (aQ (au.t rfl)) rfl rfl rfl rfl<|aP (aQ (au.t rfl)) rfl rfl rfl rfl<|aP (GO (lo:=some (.tmp 11)) (hi:=none) Tryz.underlying346 xN (au.t rfl) (λ_=>⟨_,_,rfl⟩) ⟨_,(au.t rfl)⟩ rfl (λ_=>a)) rfl rfl rfl rfl<|?_;refine ct ?_;refine bn<|bF<|bA<|aP (aQ (au.t rfl)) rfl rfl rfl rfl<|aP (oJ Tryz.underlying346 (au.t rfl) (λ_=>⟨_,_,rfl⟩)) rfl rfl rfl rfl<|aP (dG (au.t rfl)) rfl rfl rfl rfl<|?_;refine ct ?_;refine bn<|bF<|bF<|bA<|aP (aQ (au.t rfl)) rfl rfl rfl rfl<|aP (bq.eqB (vT (au.t rfl) au.c) g) rfl rfl rfl rfl<|ct<|bn<|jS (au.t rfl) (λh=>by cases h) (λ_=>?_);refine sQ<|bn<|bF<|bA<|aP (aQ (au.t rfl)) rfl rfl rfl rfl<|aP (oJ Tryz.underlying346 (au.t rfl) (λ_=>⟨_,_,rfl⟩)) rfl rfl rfl rfl<|aP (dG (au.t rfl)) rfl rfl rfl rfl<|?_;refine ct ?_;refine bn<|bF<|bF<|bA<|aP (aQ (au.t rfl)) rfl rfl rfl rfl<|aP (aQ (au.t rfl)) rfl rfl rfl rfl<|aP (bq.eqB (vT (au.t rfl) (au.t rfl)) f) rfl rfl rfl rfl<|ct<|bn<|jS (au.t rfl) (λ_=>?_) (λh=>by cases h);refine bF<|bA<|aP (aQ (au.t rfl)) rfl rfl rfl rfl<|aP (aQ (au.t rfl)) rfl rfl rfl rfl<|xm (Uc (au.t rfl) (au.t rfl) j) rfl rfl rfl rfl<|aP (dG (au.t rfl)) rfl rfl rfl rfl<|ct<|bn<|A3<|uc<|WR rfl (lE.t rfl) ?_;exact ⟨rfl,rfl⟩
set_option maxRecDepth 100000 in
theorem avq{w:World}{b p n c i m H:Nat}{cur d:x8}{ev:TypeId}(hin:i<n)(hm:0<m)(O:n+m<=c)(hc:c<=9223372036854775807)(I:p≠b)
  (hb:w.heap[b]? =some (.cells cur 457 (0,0))) (M:cur.size=c*2) (f:w.heap[p]? =some (.cells d ev (0,0))) (Z:m*2<=d.size) (h1:∀v∈cur.toList.take (n*2),v.oneCell'=true) (S:∀v∈d.toList.take (m*2),v.oneCell'=true):
  gE Tryz.prog 344 [.slice (some ⟨b,0,none⟩) n c,.int .i64 (i:Int),.slice (some ⟨p,0,none⟩) m H] w (λr L=>r= .slice (some ⟨b,0,none⟩) (n+m) c/\kQ [b] w L/\∃cur':x8,L.heap[b]? =some (.cells cur' 457 (0,0))/\cur'.size=c*2/\cur'.toList.take ((n+m)*2)=(cur.toList.take (n*2)).take (i*2)++d.toList.take (m*2)++(cur.toList.take (n*2)).drop (i*2)):=by
 have Y:((m:Int)==0)=false:=by simp;omega
 have X:((i:Int)==(n:Int))=false:=by simp;omega
 have U:IntKind.i64.wrap ((n:Int)+(m:Int))=((n+m:Nat):Int):=by rw [dO (by omega)];omega
 have T:IntKind.i64.wrap ((i:Int)+(m:Int))=((i+m:Nat):Int):=by rw [dO (by omega)];omega
 have a3:IntKind.i64.wrap (((n+m:Nat):Int)-(i:Int))=((n+m-i:Nat):Int):=by rw [dO (by omega)];omega
 have hl:cur.toList.length=c*2:=by rw [de,M]
 have s:(d.toList.take (m*2)).length=m*2:=by rw [cx,de];omega
 have V:decide ((c:Int)<((n+m:Nat):Int))=false:=by simp;omega
 have D:kQ [b] w w:=(Ext.refl w).vS _;have Q:∀J K,(callFunc 349 [.slice (some ⟨p,0,none⟩) m H,.slice (some ⟨b,0+(i+m)*2,none⟩) J K].toArray).run Tryz.prog w= .ok (.value (.bool false)) w:=λJ K=>by rw [run_callFunc_extern Tryz.func349 (by kernel_rfl) (by kernel_rfl) (by kernel_rfl) (e:=Extern.SlicesOverlaps.overlaps #[346,346] #[4]) (by kernel_rfl)];have:=Lib.run_overlaps_apart (P:=Tryz.prog) w 346 4 457 Tryz.underlying346 2 (λw=>by obtain ⟨i',R,N,_,_⟩:=xN.out;simp [sizeOf,typeInfo,R,N]) ⟨p,0,none⟩ ⟨b,0+(i+m)*2,none⟩ m H J K I ev 457 d.size cur.size (by unfold World.shape?;rw [f]) (by unfold World.shape?;rw [hb]) (by omega) (by unfold World.frozen?;rw [f];rfl) (by unfold World.frozen?;rw [f];simp);show ((Extern.SlicesOverlaps.overlaps #[346,346] #[4] #[.slice (some ⟨p,0,none⟩) m H,.slice (some ⟨b,0+(i+m)*2,none⟩) J K]).run Tryz.prog w).andThen _=_;rw [this];rfl
 obtain ⟨x,j,g⟩:=anj (l:=cur.toList) (vs:=d.toList.take (m*2)) (a:=i*2) (b:=m*2) (n:=n*2) (c:=c*2) (by omega) s (by omega) hl;have A:((cur.toList.drop (i*2)).take (n*2-i*2)).length=n*2-i*2:=by rw [cx,cO];omega
 obtain ⟨k,C⟩:∃k:x8,k=(cur.toList.take (i*2+m*2)++(cur.toList.drop (i*2)).take (n*2-i*2)++cur.toList.drop (i*2+m*2+((cur.toList.drop (i*2)).take (n*2-i*2)).length)).toArray:=⟨_,rfl⟩;have y:k.toList=cur.toList.take (i*2+m*2)++(cur.toList.drop (i*2)).take (n*2-i*2)++cur.toList.drop (i*2+m*2+((cur.toList.drop (i*2)).take (n*2-i*2)).length):=by rw [C]
 rw [<-y] at x j g;obtain ⟨E,B⟩:∃E:x8,E=(k.toList.take (i*2)++d.toList.take (m*2)++k.toList.drop (i*2+(d.toList.take (m*2)).length)).toArray:=⟨_,rfl⟩;have u:E.toList=k.toList.take (i*2)++d.toList.take (m*2)++k.toList.drop (i*2+(d.toList.take (m*2)).length):=by rw [B]
 rw [<-u] at j g;rw [de] at x j;rw [show n*2+m*2=(n+m)*2 by omega] at g;have G:∀W:World,W.heap[b]? =some (.cells cur 457 (0,0))->∀ty dc sc,(Builtin.copy_ #[346,346] ty #[.slice (some ⟨b,0+(i+m)*2,none⟩) (n+m-(i+m)) dc,.slice (some ⟨b,0+i*2,none⟩) (n+m-i) sc]).run Tryz.prog W= .ok (goInt (Nat.min (n+m-i) (n+m-(i+m)))) (W.setRow b k):=λW hb ty dc sc=>by
  have o:Nat.min (n+m-i) (n+m-(i+m))=n-i:=by simp only [Nat.min_def];split <;> omega
  rw [C,show i*2+m*2=0+(i+m)*2 by omega];exact tZ Tryz.underlying346 xN (by rw [A,o];omega) (cell_of_heap hb _ _ (by rw [A,j0])) hb (by rw [A];omega) (λv f=>h1 v (by rw [<-qj] at f;exact w4 f))
 have F:∀W:World,W.heap[b]? =some (.cells k 457 (0,0))->W.heap[p]? =some (.cells d ev (0,0))->∀ty dc,(Builtin.copy_ #[346,346] ty #[.slice (some ⟨b,0+i*2,none⟩) (n+m-i) dc,.slice (some ⟨p,0,none⟩) m H]).run Tryz.prog W= .ok (goInt (Nat.min m (n+m-i))) (W.setRow b E):=λW hb f ty dc=>by
  have o:Nat.min m (n+m-i)=m:=by simp only [Nat.min_def];split <;> omega
  rw [B,j0];exact tZ Tryz.underlying346 xN (by rw [s,o]) (cell_of_heap f _ _ (by rw [s,n3])) hb (by rw [s];omega) S
 clear C B y u;refine ln Tryz.func344 rfl Tryz.ntmps344 rfl<|bF<|bA<|aP (dG au.c) rfl rfl rfl rfl<|ct<|bn<|bF<|bA<|aP (aQ (au.t rfl)) rfl rfl rfl rfl<|aP (aQ (au.t rfl)) rfl rfl rfl rfl<|aP (oz Tryz.underlying346 xN (au.t rfl) (au.t rfl) (by omega) (by omega) (by omega)) rfl rfl rfl rfl<|?_;refine ct ?_;refine bn<|bF<|bA<|aP (aQ (au.t rfl)) rfl rfl rfl rfl<|aP (oJ Tryz.underlying346 (au.t rfl) (λ_=>⟨_,_,rfl⟩)) rfl rfl rfl rfl<|aP (dG (au.t rfl)) rfl rfl rfl rfl<|?_;refine ct ?_;refine bn<|bF<|bF<|bA<|aP (aQ (au.t rfl)) rfl rfl rfl rfl<|aP (bq.eqB (vT (au.t rfl) au.c) Y) rfl rfl rfl rfl<|ct<|bn<|jS (au.t rfl) (λh=>by cases h) (λ_=>?_);refine sQ<|bn<|bF<|bA<|aP (aQ (au.t rfl)) rfl rfl rfl rfl<|aP (oJ Tryz.underlying346 (au.t rfl) (λ_=>⟨_,_,rfl⟩)) rfl rfl rfl rfl<|aP (dG (au.t rfl)) rfl rfl rfl rfl<|?_;refine ct ?_;refine bn<|bF<|bF<|bA<|aP (aQ (au.t rfl)) rfl rfl rfl rfl<|aP (aQ (au.t rfl)) rfl rfl rfl rfl<|aP (bq.eqB (vT (au.t rfl) (au.t rfl)) X) rfl rfl rfl rfl<|ct<|bn<|jS (au.t rfl) (λh=>by cases h) (λ_=>?_);refine sQ<|bn<|bF<|bF<|bA<|aP (aQ (au.t rfl)) rfl rfl rfl rfl<|aP (aQ (au.t rfl)) rfl rfl rfl rfl<|aP (bq.eqI (vC (au.t rfl) (au.t rfl)) U) rfl rfl rfl rfl<|aP (aQ (au.t rfl)) rfl rfl rfl rfl<|aP (abH Tryz.underlying346 (au.t rfl)) rfl rfl rfl rfl<|aP (bq.eqB (Zr (au.t rfl) (au.t rfl)) V) rfl rfl rfl rfl<|ct<|bn<|jS (au.t rfl) (λh=>by cases h) (λ_=>?_);refine sQ<|bn<|bF<|bA<|aP (aQ (au.t rfl)) rfl rfl rfl rfl<|aP (aQ (au.t rfl)) rfl rfl rfl rfl<|aP (aQ (au.t rfl)) rfl rfl rfl rfl<|aP (bq.eqI (vC (au.t rfl) (au.t rfl)) U) rfl rfl rfl rfl<|aP (aeZ Tryz.underlying346 xN (au.t rfl) (au.t rfl) (by omega)) rfl rfl rfl rfl<|aP (dG (au.t rfl)) rfl rfl rfl rfl<|?_;refine ct ?_;refine bn<|bF<|bF<|bA<|aP (aQ (au.t rfl)) rfl rfl rfl rfl<|aP (aQ (au.t rfl)) rfl rfl rfl rfl<|aP (aQ (au.t rfl)) rfl rfl rfl rfl<|aP (aQ (au.t rfl)) rfl rfl rfl rfl<|aP (bq.eqI (vC (au.t rfl) (au.t rfl)) T) rfl rfl rfl rfl<|aP (oz Tryz.underlying346 xN (au.t rfl) (au.t rfl) (by omega) (by omega) (by omega)) rfl rfl rfl rfl<|aP (ajB (xs:=[(.tmp 61),(.tmp 66)]) (.cons (au.t rfl) (.cons (au.t rfl) .nil)) (Q _ _)) rfl rfl rfl rfl<|aP (adT (au.t rfl)) rfl rfl rfl rfl<|?_;refine ct ?_;refine bn<|jS (au.t rfl) (λ_=>?_) (λh=>by cases h);refine bF<|wH [0,0,0,6,9,0,0,96,144] (.q 0 0 (.q 1 1 (.q 2 3 (.q 3 7 (.q 4 15 (.q 5 31 (.q 6 63 (.q 7 127 (.l 8 255 .nil))))))))) (by kernel_rfl) (by kernel_rfl) ?_;intro L z;replace hb:=(z.block _ (Array.getElem?_eq_some_iff.1 hb).1).trans hb;replace f:=(z.block _ (Array.getElem?_eq_some_iff.1 f).1).trans f;replace D:=D.trans (z.vS _);refine iF (λ_=>(aQ (au.t rfl))) rfl rfl rfl rfl<|iF (λ_=>(aQ (au.t rfl))) rfl rfl rfl rfl<|iF (λ_=>(aQ (au.t rfl))) rfl rfl rfl rfl<|iF (λ_=>(bq.eqI (vC (au.t rfl) (au.t rfl)) T)) rfl rfl rfl rfl<|iF (λ_=>(oz Tryz.underlying346 xN (au.t rfl) (au.t rfl) (by omega) (by omega) (by omega))) rfl rfl rfl rfl<|iF (λ_=>(aQ (au.t rfl))) rfl rfl rfl rfl<|iF (λ_=>(aQ (au.t rfl))) rfl rfl rfl rfl<|iF (λ_=>(oz Tryz.underlying346 xN (au.t rfl) (au.t rfl) (by omega) (by omega) (by omega))) rfl rfl rfl rfl<|?_;refine ah9 (pend':=[]) rfl (by kernel_rfl) ?_;refine xm (AK (au.t rfl) (au.t rfl) (G _ hb _ _ _)) rfl rfl rfl rfl ?_;replace hb:=setRow_heap _ b cur k 457 (0,0) hb;replace f:=(setRow_other _ b p k I).trans f;replace D:=D.trans (xy b k);refine ct<|aq5 adx<|amo<|bn<|bF<|bA<|aP (aQ (au.t rfl)) rfl rfl rfl rfl<|aP (aQ (au.t rfl)) rfl rfl rfl rfl<|aP (oz Tryz.underlying346 xN (au.t rfl) (au.t rfl) (by omega) (by omega) (by omega)) rfl rfl rfl rfl<|aP (aQ (au.t rfl)) rfl rfl rfl rfl<|?_;refine xm (AK (au.t rfl) (au.t rfl) (F _ hb f _ _)) rfl rfl rfl rfl ?_;replace hb:=setRow_heap _ b k E 457 (0,0) hb;replace D:=D.trans (xy b E);refine ct<|bn<|bF<|bA<|aP (aQ (au.t rfl)) rfl rfl rfl rfl<|aP (dG (au.t rfl)) rfl rfl rfl rfl<|ct<|bn<|A3<|uc<|WR rfl (lE.t rfl) ?_;exact ⟨rfl,D,E,hb,j,g⟩
set_option maxRecDepth 100000 in
theorem avm{w:World}{b L n c i m mc:Nat}{cur d:x8}{ev:TypeId}(hin:i<n)(hm:0<m)(hnc:n<=c)(hroom:c<n+m)(T:(n+m)*16<=140737488355328)
  (hb:w.heap[b]? =some (.cells cur 457 (0,0))) (hsz:cur.size=c*2) (g:w.heap[L]? =some (.cells d ev (0,0))) (hvs:m*2<=d.size) (h1:∀v∈cur.toList.take (n*2),v.oneCell'=true) (h1v:∀v∈d.toList.take (m*2),v.oneCell'=true):
  gE Tryz.prog 344 [.slice (some ⟨b,0,none⟩) n c,.int .i64 (i:Int),.slice (some ⟨L,0,none⟩) m mc] w (λr w1=>r= .slice (some ⟨w.heap.size,0,none⟩) (n+m) (grownCap w (n+m) c 457)/\kQ [w.heap.size] w w1/\∃cur':x8,w1.heap[w.heap.size]? =some (.cells cur' 457 (0,0))/\cur'.size=grownCap w (n+m) c 457*2/\cur'.toList.take ((n+m)*2)=(cur.toList.take (n*2)).take (i*2)++d.toList.take (m*2)++(cur.toList.take (n*2)).drop (i*2)):=by
 have z1:((m:Int)==0)=false:=by simp;omega
 have z2:((i:Int)==(n:Int))=false:=by simp;omega
 have a1:IntKind.i64.wrap ((n:Int)+(m:Int))=((n+m:Nat):Int):=by rw [dO (by omega)];omega
 have a2:IntKind.i64.wrap ((i:Int)+(m:Int))=((i+m:Nat):Int):=by rw [dO (by omega)];omega
 have a3:IntKind.i64.wrap (((n+m:Nat):Int)-(i:Int))=((n+m-i:Nat):Int):=by rw [dO (by omega)];omega
 have hl:cur.toList.length=c*2:=by rw [de,hsz]
 have u:(d.toList.take (m*2)).length=m*2:=by rw [cx,de];omega
 have z3:decide ((c:Int)<((n+m:Nat):Int))=true:=by simp;omega
 have hbN:b≠w.heap.size:=by have:=(Array.getElem?_eq_some_iff.1 hb).1;omega
 have hvN:L≠w.heap.size:=by have:=(Array.getElem?_eq_some_iff.1 g).1;omega
 obtain ⟨i0,hi0,hs0,U,hz0⟩:=xN.out;have S:(cur.toList.take (n*2)).length=n*2:=by rw [cx];omega
 have E:((cur.toList.take (n*2)).take (i*2)).length=i*2:=by rw [cx];omega
 have x:(Builtin.firstCells i0.size i (.slice (some ⟨b,0,none⟩) i c)).run Tryz.prog w.drew= .ok ((cur.toList.take (n*2)).take (i*2)).toArray w.drew:=by rw [hs0];exact run_firstCells_some w.drew 2 i ⟨b,0,none⟩ i c _ (by rw [E]) (cell_of_heap (w:=w.drew) hb 0 _ (by rw [E,n3,pc,ed (by omega)]))
 have e:=Lib.run_append_grow_zeros (P:=Tryz.prog) w 346 3 346 457 i0 _ .i64 .i64 Tryz.underlying346 Tryz.underlying3 hi0 hz0 (some ⟨b,0,none⟩) i c _ x (n+m-i) (by omega) (by omega) (by omega) (by omega) (by rw [U];omega) (by rw [U];exact growslice_fits (by omega) (by rw [show i+(n+m-i)=n+m by omega];exact T));rw [show i+(n+m-i)=n+m by omega] at e;obtain ⟨G,hG⟩:∃G,G=grownCap w (n+m) c 457:=⟨_,rfl⟩;have hGn:n+m<=G:=by rw [hG];exact grownCap_ge w _ _ _
 have hG63:G<=9223372036854775807:=by have:=grownCap_le_maxLen w (n+m) c 457 (by unfold maxLen;omega);rw [<-hG] at this;unfold maxLen at this;omega
 rw [<-hG] at e ⊢;obtain ⟨O,B⟩:∃O:yp,O=(Builtin.zeroCells ((.agg #[(.int .u8 0),(.int .i64 0)]):Value).cells (n+m-i)++Builtin.zeroCells ((.agg #[(.int .u8 0),(.int .i64 0)]):Value).cells (G-(n+m))).toList:=⟨_,rfl⟩;have C:O.length=(G-i)*2:=by have hz2:((.agg #[(.int .u8 0),(.int .i64 0)]):Value).cells.size=2:=rfl;rw [B,de,qE,size_zeroCells,size_zeroCells,hz2];omega
 obtain ⟨f,I⟩:∃f:x8,f=((cur.toList.take (n*2)).take (i*2)).toArray++Builtin.zeroCells ((.agg #[(.int .u8 0),(.int .i64 0)]):Value).cells (n+m-i)++Builtin.zeroCells ((.agg #[(.int .u8 0),(.int .i64 0)]):Value).cells (G-(n+m)):=⟨_,rfl⟩;rw [<-I] at e;have p:f.toList=(cur.toList.take (n*2)).take (i*2)++O:=by rw [I,B];simp
 have Y:f.size=G*2:=by have:=congrArg List.length p;rw [de,du,E,C] at this;omega
 have hrz:(Builtin.append_ #[346,3] 346 #[.slice (some ⟨b,0,none⟩) i c,.int .i64 ((n+m-i:Nat):Int)]).run Tryz.prog w= .ok (.slice (some ⟨w.heap.size,0,none⟩) (n+m) G) (w.drew.alloc (.cells f 457)):=e;obtain ⟨Z,N,M⟩:=aoK (l:=cur.toList.take (n*2)) (vs:=d.toList.take (m*2)) (z:=O) (a:=i*2) (b:=m*2) (n:=n*2) (by omega) u S (by rw [C];omega);rw [<-p] at Z N M;obtain ⟨k,H⟩:∃k:x8,k=(f.toList.take (i*2)++d.toList.take (m*2)++f.toList.drop (i*2+(d.toList.take (m*2)).length)).toArray:=⟨_,rfl⟩;have A:k.toList=f.toList.take (i*2)++d.toList.take (m*2)++f.toList.drop (i*2+(d.toList.take (m*2)).length):=by rw [H]
 rw [<-A] at Z N M;have D:((cur.toList.take (n*2)).drop (i*2)).length=n*2-i*2:=by rw [cO,S]
 obtain ⟨K,F⟩:∃K:x8,K=(k.toList.take (i*2+m*2)++(cur.toList.take (n*2)).drop (i*2)++k.toList.drop (i*2+m*2+((cur.toList.take (n*2)).drop (i*2)).length)).toArray:=⟨_,rfl⟩;have y:K.toList=k.toList.take (i*2+m*2)++(cur.toList.take (n*2)).drop (i*2)++k.toList.drop (i*2+m*2+((cur.toList.take (n*2)).drop (i*2)).length):=by rw [F]
 rw [<-y] at N M;rw [de,de,Y] at Z N;rw [show n*2+m*2=(n+m)*2 by omega] at M;have X:=N;have V:=M;have R:∀W:World,W.heap[w.heap.size]? =some (.cells f 457 (0,0))->W.heap[L]? =some (.cells d ev (0,0))->∀ty dc,(Builtin.copy_ #[346,346] ty #[.slice (some ⟨w.heap.size,0+i*2,none⟩) (n+m-i) dc,.slice (some ⟨L,0,none⟩) m mc]).run Tryz.prog W= .ok (goInt (Nat.min m (n+m-i))) (W.setRow w.heap.size k):=λW j g ty dc=>by
  have o:Nat.min m (n+m-i)=m:=by simp only [Nat.min_def];split <;> omega
  rw [H,j0];exact tZ Tryz.underlying346 xN (by rw [u,o]) (cell_of_heap g _ _ (by rw [u,n3])) j (by rw [u];omega) h1v
 have Q:∀W:World,W.heap[w.heap.size]? =some (.cells k 457 (0,0))->W.heap[b]? =some (.cells cur 457 (0,0))->∀ty dc sc,(Builtin.copy_ #[346,346] ty #[.slice (some ⟨w.heap.size,0+(i+m)*2,none⟩) (n+m-(i+m)) dc,.slice (some ⟨b,0+i*2,none⟩) (n-i) sc]).run Tryz.prog W= .ok (goInt (Nat.min (n-i) (n+m-(i+m)))) (W.setRow w.heap.size K):=λW j hb ty dc sc=>by
  have o:Nat.min (n-i) (n+m-(i+m))=n-i:=by simp only [Nat.min_def];split <;> omega
  rw [F,show i*2+m*2=0+(i+m)*2 by omega];exact tZ Tryz.underlying346 xN (by rw [D,o];omega) (cell_of_heap hb _ _ (by rw [D,j0,qj])) j (by rw [D];omega) (λv g=>h1 v (w4 g))
 have J:kQ [w.heap.size] w (w.drew.alloc (.cells f 457)):=⟨rfl,rfl,rfl,by simp,λb hb _=>heap_alloc_old w.drew _ hb⟩;clear H F A y I p B C Z N M e x;refine ln Tryz.func344 rfl Tryz.ntmps344 rfl<|bF<|bA<|aP (dG au.c) rfl rfl rfl rfl<|ct<|bn<|bF<|bA<|aP (aQ (au.t rfl)) rfl rfl rfl rfl<|aP (aQ (au.t rfl)) rfl rfl rfl rfl<|aP (oz Tryz.underlying346 xN (au.t rfl) (au.t rfl) (by omega) (by omega) (by omega)) rfl rfl rfl rfl<|?_;refine ct ?_;refine bn<|bF<|bA<|aP (aQ (au.t rfl)) rfl rfl rfl rfl<|aP (oJ Tryz.underlying346 (au.t rfl) (λ_=>⟨_,_,rfl⟩)) rfl rfl rfl rfl<|aP (dG (au.t rfl)) rfl rfl rfl rfl<|?_;refine ct ?_;refine bn<|bF<|bF<|bA<|aP (aQ (au.t rfl)) rfl rfl rfl rfl<|aP (bq.eqB (vT (au.t rfl) au.c) z1) rfl rfl rfl rfl<|ct<|bn<|jS (au.t rfl) (λh=>by cases h) (λ_=>?_);refine sQ<|bn<|bF<|bA<|aP (aQ (au.t rfl)) rfl rfl rfl rfl<|aP (oJ Tryz.underlying346 (au.t rfl) (λ_=>⟨_,_,rfl⟩)) rfl rfl rfl rfl<|aP (dG (au.t rfl)) rfl rfl rfl rfl<|?_;refine ct ?_;refine bn<|bF<|bF<|bA<|aP (aQ (au.t rfl)) rfl rfl rfl rfl<|aP (aQ (au.t rfl)) rfl rfl rfl rfl<|aP (bq.eqB (vT (au.t rfl) (au.t rfl)) z2) rfl rfl rfl rfl<|ct<|bn<|jS (au.t rfl) (λh=>by cases h) (λ_=>?_);refine sQ<|bn<|bF<|bF<|bA<|aP (aQ (au.t rfl)) rfl rfl rfl rfl<|aP (aQ (au.t rfl)) rfl rfl rfl rfl<|aP (bq.eqI (vC (au.t rfl) (au.t rfl)) a1) rfl rfl rfl rfl<|aP (aQ (au.t rfl)) rfl rfl rfl rfl<|aP (abH Tryz.underlying346 (au.t rfl)) rfl rfl rfl rfl<|aP (bq.eqB (Zr (au.t rfl) (au.t rfl)) z3) rfl rfl rfl rfl<|ct<|bn<|jS (au.t rfl) (λ_=>?_) (λh=>by cases h);refine bF<|bA<|aP (aQ (au.t rfl)) rfl rfl rfl rfl<|aP (aQ (au.t rfl)) rfl rfl rfl rfl<|aP (aeZ Tryz.underlying346 xN (au.t rfl) (au.t rfl) (by omega)) rfl rfl rfl rfl<|aP (aQ (au.t rfl)) rfl rfl rfl rfl<|aP (aQ (au.t rfl)) rfl rfl rfl rfl<|aP (bq.eqI (vC (au.t rfl) (au.t rfl)) a1) rfl rfl rfl rfl<|aP (aQ (au.t rfl)) rfl rfl rfl rfl<|aP (bq.eqI (aiF (au.t rfl) (au.t rfl)) a3) rfl rfl rfl rfl<|?_;refine xm (Uc (au.t rfl) (au.t rfl) hrz) rfl rfl rfl rfl ?_;have j:=heap_alloc_new w.drew (.cells f 457);replace hb:=(heap_alloc_old w.drew (.cells f 457) (Array.getElem?_eq_some_iff.1 hb).1).trans hb;replace g:=(heap_alloc_old w.drew (.cells f 457) (Array.getElem?_eq_some_iff.1 g).1).trans g;refine aP (dG (au.t rfl)) rfl rfl rfl rfl<|ct<|bn<|bF<|bA<|aP (aQ (au.t rfl)) rfl rfl rfl rfl<|aP (aQ (au.t rfl)) rfl rfl rfl rfl<|aP (oz Tryz.underlying346 xN (au.t rfl) (au.t rfl) (by omega) (by omega) (by omega)) rfl rfl rfl rfl<|aP (aQ (au.t rfl)) rfl rfl rfl rfl<|?_;refine xm (AK (au.t rfl) (au.t rfl) (R _ j g _ _)) rfl rfl rfl rfl ?_;replace J:=J.trans (xy w.heap.size k);replace j:=setRow_heap _ w.heap.size f k 457 (0,0) j;replace hb:=(setRow_other _ w.heap.size b k hbN).trans hb;replace g:=(setRow_other _ w.heap.size L k hvN).trans g;refine ct<|bn<|bF<|wH [0,0,0,6,9,0,0,96,144] (.q 0 0 (.q 1 1 (.q 2 3 (.q 3 7 (.q 4 15 (.q 5 31 (.q 6 63 (.q 7 127 (.l 8 255 .nil))))))))) (by kernel_rfl) (by kernel_rfl) ?_;intro w1 s;replace j:=(s.block _ (Array.getElem?_eq_some_iff.1 j).1).trans j;replace hb:=(s.block _ (Array.getElem?_eq_some_iff.1 hb).1).trans hb;replace g:=(s.block _ (Array.getElem?_eq_some_iff.1 g).1).trans g;replace J:=J.trans (s.vS _);refine iF (λ_=>(aQ (au.t rfl))) rfl rfl rfl rfl<|iF (λ_=>(aQ (au.t rfl))) rfl rfl rfl rfl<|iF (λ_=>(aQ (au.t rfl))) rfl rfl rfl rfl<|iF (λ_=>(bq.eqI (vC (au.t rfl) (au.t rfl)) a2)) rfl rfl rfl rfl<|iF (λ_=>(oz Tryz.underlying346 xN (au.t rfl) (au.t rfl) (by omega) (by omega) (by omega))) rfl rfl rfl rfl<|iF (λ_=>(aQ (au.t rfl))) rfl rfl rfl rfl<|iF (λ_=>(aQ (au.t rfl))) rfl rfl rfl rfl<|iF (λ_=>(oz Tryz.underlying346 xN (au.t rfl) (au.t rfl) (by omega) (by omega) (by omega))) rfl rfl rfl rfl<|?_;refine ah9 (pend':=[]) rfl (by kernel_rfl) ?_;refine xm (AK (au.t rfl) (au.t rfl) (Q _ j hb _ _ _)) rfl rfl rfl rfl ?_;replace J:=J.trans (xy w.heap.size K);replace j:=setRow_heap _ w.heap.size k K 457 (0,0) j;refine ct<|aq5 adx<|amo<|bn<|bF<|bA<|aP (aQ (au.t rfl)) rfl rfl rfl rfl<|aP (dG (au.t rfl)) rfl rfl rfl rfl<|ct<|bn<|A3<|uc<|WR rfl (lE.t rfl) ?_;exact ⟨rfl,J,K,j,X,V⟩
theorem aeQ{Φ:Ctx}{v U:gV}{xs ys:List (Int×Int)}{R Ry:zh}{i:Int}(J:Sat (iJ (RP (RI .u8) (RI .i64)) 457 (sl v) xs R::iJ (RP (RI .u8) (RI .i64)) 457 (sl U) ys Ry::Φ) w)(L:ys≠[])(hi:VN i xs.length=true)(g:aI (xs.length+ys.length) 16=true):
  gE Tryz.prog 344 [sl v,.int .i64 i,sl U] w (λr w'=>∃(p:gV) (W:zh),r=sl p/\Sat (iJ (RP (RI .u8) (RI .i64)) 457 (sl p) (oI xs i ys) W::Mj (Mr (RP (RI .u8) (RI .i64))) [sl U] ys::Φ) w'):=by
 obtain ⟨hi0,hi1⟩:=apl.1 hi;obtain ⟨k,rfl⟩:∃k:Nat,i=k:=⟨i.toNat,by omega⟩;have hk:k<=xs.length:=by omega
 have D:0<ys.length:=List.length_pos_iff.2 L;have hO:=J.own (i:=0) rfl;obtain ⟨p,c,I,H⟩:=hO.shape;obtain ⟨V,mc,j,l,hRy,M,hmc,_,B,u⟩:=(J.own (i:=1) rfl).atH (by decide) L;have mono:∀{S S':Value->World->Prop} {args},gE Tryz.prog 344 args w S->(∀r w',S r w'->S' r w')->gE Tryz.prog 344 args w S':=λh C=>mw.mono h C (λ_ _ h=>h);by_cases N:k=xs.length
 . -- at the end
  subst N;have o:=J.freeze (i:=1) rfl;have o:Sat (iJ (RP (RI .u8) (RI .i64)) 457 (sl v) xs R::Mj (Mr (RP (RI .u8) (RI .i64))) [sl U] ys::Φ) w:=o;obtain ⟨v',W,w',hr,A,Q,hP⟩:=alF (t:=346) (ty:=346) Tryz.underlying346 xN rfl (by decide) (o.own (i:=0) rfl) (o.sl (i:=1) rfl) (λb hb=>Ctx.jV (i:=0) rfl hb) g;have C:=o.ra (i:=0) rfl (new:=iJ (RP (RI .u8) (RI .i64)) 457 v' (xs++ys) W) A Q (λM' m _=>hP M' m);have X:∃p,v'=sl p:=by obtain ⟨a,cap,I⟩:=(C.own (i:=0) rfl).len;exact ⟨(a,_,cap),I⟩
  obtain ⟨p',rfl⟩:=X;rw [I,l] at hr ⊢;refine mono (avp H D hr) ?_;rintro r T ⟨rfl,rfl⟩;rw [<-l];refine ⟨p',W,rfl,?_⟩;rw [aoN];exact C
 .have z:k<xs.length:=by omega
  have K:xs≠[]:=λh=>by rw [h] at z;simp at z
  obtain ⟨b,c,cur,I,Q,hh,H,P,F,x⟩:=hO.atH (by decide) K;have O:c<=9223372036854775807:=by unfold maxLen at P;omega
  have Y:V≠b:=by intro e;subst e;exact J.sep 0 1 _ _ rfl rfl (by decide) V (by show V∈R;rw [Q];simp) (by show V∈Ry;rw [hRy];simp)
  have f:=apU (ys:=ys) hk;simp only [aI,ar] at g;have hb1:=c5 g.1;have Z:=c5 g.2;have hcur:c*2=cur.size:=F.symm;by_cases y:xs.length+ys.length<=c
  . -- there is room
   rw [I,l];refine mono (avq z D y O Y hh F M (by rw [show j.size=mc*2 from B];omega) x.Dd u.Dd) ?_;rintro r T ⟨rfl,A,s,q,G,E⟩;rw [<-l];refine ⟨(some ⟨b,0,none⟩,xs.length+ys.length,c),[b],rfl,?_⟩;have C:=J.ra (i:=0) rfl (new:=iJ (RP (RI .u8) (RI .i64)) 457 (.slice (some ⟨b,0,none⟩) (xs.length+ys.length) c) (oI xs (k:Int) ys) [b]) (by show kQ R w T;rw [Q];exact A) (λd hd=>by
    have:d=b:=by simpa [iJ] using hd
    subst this;exact ⟨(Array.getElem?_eq_some_iff.1 q).1,.inl (by show d∈R;rw [Q];simp)⟩) (λM' m _=>by
    show bU _ _ _ _ _ _ _;rw [<-f];refine bU.mk0 q (by omega) P G ?_;rw [f];have:=(aiy (i:=k) x u).mv m;have e:s.toList.take ((xs.length+ys.length)*((RP (RI .u8) (RI .i64))).n)=(cur.toList.take (xs.length*((RP (RI .u8) (RI .i64))).n)).take (k*((RP (RI .u8) (RI .i64))).n)++j.toList.take (ys.length*((RP (RI .u8) (RI .i64))).n)++(cur.toList.take (xs.length*((RP (RI .u8) (RI .i64))).n)).drop (k*((RP (RI .u8) (RI .i64))).n):=E;rw [e];exact this)
   exact C.freeze (i:=1) rfl
  . -- a new row
   rw [I,l];refine mono (avm z D H (by omega) hb1 hh F M (by rw [show j.size=mc*2 from B];omega) x.Dd u.Dd) ?_;rintro r T ⟨rfl,A,s,q,G,E⟩;rw [<-l];refine ⟨(some ⟨w.heap.size,0,none⟩,xs.length+ys.length,_),[w.heap.size],rfl,?_⟩;have hE:kQ R w T:=⟨A.os,A.tape,A.output,A.size,λd hd _=>A.block d hd (by simp;omega)⟩;have C:=J.ra (i:=0) rfl (new:=iJ (RP (RI .u8) (RI .i64)) 457 (.slice (some ⟨w.heap.size,0,none⟩) (xs.length+ys.length) (grownCap w (xs.length+ys.length) c 457)) (oI xs (k:Int) ys) [w.heap.size]) hE (λd hd=>by
    have:d=w.heap.size:=by simpa [iJ] using hd
    subst this;exact ⟨(Array.getElem?_eq_some_iff.1 q).1,.inr (ch _)⟩) (λM' m _=>by
    show bU _ _ _ _ _ _ _;rw [<-f];refine bU.mk0 (by rw [f] at *; exact q) (by rw [f];exact grownCap_ge w _ _ _) (by rw [f];exact grownCap_le_maxLen w _ c 457 (by simpa [maxLen] using Z)) (by rw [f];exact G) ?_;rw [f];have:=(aiy (i:=k) x u).mv m;have e:s.toList.take ((xs.length+ys.length)*((RP (RI .u8) (RI .i64))).n)=(cur.toList.take (xs.length*((RP (RI .u8) (RI .i64))).n)).take (k*((RP (RI .u8) (RI .i64))).n)++j.toList.take (ys.length*((RP (RI .u8) (RI .i64))).n)++(cur.toList.take (xs.length*((RP (RI .u8) (RI .i64))).n)).drop (k*((RP (RI .u8) (RI .i64))).n):=E;rw [e];exact this)
   exact C.freeze (i:=1) rfl
end I344
open Go.Lib
theorem asq{P:Program}{Γg:Ctx}{f e bytes:Nat}{t:Ty}(hE:Enters P f)
  (o:∀{Φ:Ctx} {w:World} {v C:gV} {xs ys:List t.T} {R Ry:zh} {i:Int},Sat (iJ t.rep e (sl v) xs R::iJ t.rep e (sl C) ys Ry::Φ) w->ys≠[]->VN i xs.length=true->aI (xs.length+ys.length) bytes=true->
   gE P f [sl v,.int .i64 i,sl C] w (λr w'=>∃(p:gV) (n:zh),r=sl p/\Sat (iJ t.rep e (sl p) (oI xs i ys) n::Mj (Mr t.rep) [sl C] ys::Φ) w'))
  (m:List t.T->Int->List t.T->Option (List t.T)) (hm:∀xs i ys r,m xs i ys=some r->ys≠[]/\VN i xs.length=true/\aI (xs.length+ys.length) bytes=true/\r=oI xs i ys):
  (⟨f,[.own t e true,.int .i64,.own t e true],.own t e true,[],λs=>m s.1 s.2.1 s.2.2⟩:aq).Ok P Γg:=by
 refine ⟨hE,λs r hr vs N I X Φ w hS H hΦ=>?_⟩;obtain ⟨v1,W,D1,D2,I1,I2,X1,X2,N1,rfl,⟨a,l,rfl,_,rfl,rfl,rfl,rfl,_⟩,⟨v2,V,D3,D4,I3,I4,X3,X4,N2,rfl,⟨i,rfl,rfl,rfl,rfl,rfl⟩,⟨v3,U,D5,D6,I5,I6,X5,X6,N3,rfl,⟨b,Q,rfl,_,rfl,rfl,rfl,rfl,_⟩,⟨rfl,rfl,rfl,rfl,rfl⟩,rfl,rfl,rfl⟩,rfl,rfl,rfl⟩,z,rfl,rfl⟩:=hS;obtain ⟨c,u,g⟩:=s;obtain ⟨J,hb,k,rfl⟩:=hm c u g r hr;have z:[(⟨.l t,c⟩:cD),⟨.i .i64,u⟩,⟨.l t,g⟩]=[⟨.l t,l⟩,⟨.i .i64,i⟩,⟨.l t,Q⟩]:=z;simp only [qm,and_true] at z;obtain ⟨O,L,K⟩:=z;have q1:c=l:=by cases O;rfl
 have q2:u=i:=by cases L;rfl
 have Z:g=Q:=by cases K;rfl
 subst q1 q2 Z;have H:Sat (oa t.rep e a.v c True::oa t.rep e b.v g True::Φ) w:=H;have G:Sat (iJ t.rep e (sl a.v) c (vH a.v)::oa t.rep e b.v g True::Φ) w:=Sat.GV (A:=[]) H ⟨λ_ h=>h,λM w h=>h.1⟩;have F:Sat (iJ t.rep e (sl a.v) c (vH a.v)::iJ t.rep e (sl b.v) g (vH b.v)::Φ) w:=Sat.GV (A:=[iJ t.rep e (sl a.v) c (vH a.v)]) G ⟨λ_ h=>h,λM w h=>h.1⟩;refine gE.mono (o F J hb k) ?_;rintro v w' ⟨p,n,rfl,j⟩;obtain ⟨Y,S⟩:∃Y:List t.T,Y=oI c u g:=⟨_,rfl⟩;rw [<-S] at j;refine ⟨[a,b,{ dB with v:=p,y:=⟨.l t,Y⟩ }],[a,b,{ dB with v:=p,y:=⟨.l t,Y⟩ }],[⟨.l t,Y⟩],[],[(true,oa t.rep e p Y True)],[],[],[],
  ⟨{ dB with v:=p,y:=⟨.l t,Y⟩ },Y,rfl,(λq h=>by cases h),rfl,rfl,rfl,rfl,rfl⟩,⟨rfl,rfl,rfl,rfl⟩,by rw [S];rfl,?_⟩
 have hO:=j.own (i:=0) rfl;have d:=hO.canon;have E:Sat ([iJ t.rep e (sl p) Y n]++gT::Φ) w':=Sat.GV (A:=[iJ t.rep e (sl p) Y n]) (B:=Φ) j ⟨(λ_ h=>nomatch h),λ_ _ _=>trivial⟩;have D:=Sat.oI (A:=[iJ t.rep e (sl p) Y n]) (B:=gT::Φ) E [gT] (λit bQ=>by rw [List.mem_singleton.1 bQ];exact ⟨rfl,λ_ _=>trivial⟩);exact Sat.GV (A:=[]) (B:=gT::gT::Φ) (x:=iJ t.rep e (sl p) Y n) D ⟨λb hb=>d.1 b hb,λM w h=>⟨d.2 M w h,trivial⟩⟩
end Go.Proofs.YthhmkmmmbcjghaaGreatDoor
