/-
  Own texts for the statement NestArgs, cut down to what it needs: B18, B19, B20, B21, B26, B28, B29, B27. (cut and joined by a program)
-/
import Derived.Test.YtcgihjbfppkcfaaGreatDoorNestArgsC
set_option linter.unusedVariables false
set_option linter.unusedSimpArgs false
namespace Go.Proofs.YtcgihjbfppkcfaaGreatDoor
noncomputable section
variable {o : Oper}
open Go.Lib
abbrev ah0{R:Type}(fr:Fr)(KP:AV->aC->Option R)(T:aB)(v:AV)(st:aC):Option R:=aD (Fe T fr st) (KP v (Bx T st)) none
def E7{R:Type}(X:Cx)(tb:List aA)(tp:List bZ)(KP:Bool->AV->aC->Option R)(ops:zj)(fr:Fr):zj->aB->aC->cL R->Option R
 |[],T,st,K=>aD (Fe T fr st) (K (Bx T st)) none
 |o::l,T,st,K=>match ago tp T fr st o (λb=>ah0 fr (KP b) T) (λst=>E7 X tb tp KP ops fr l T st K) with
  |some q=>q
  |none=>stepG ops T fr st o λT g=>ZR X tb T fr st g o λst=>E7 X tb tp KP ops fr l T st K
section
variable {R : Type} {X : Cx} {tb : List aA} {tp : List bZ} {KP : Bool -> AV -> aC -> Option R} {b : Bool} {σ : ze} {Q : bh} {D : x3} {ops : zj} {r : R} {fr : Fr} {Φ : Ctx} {K : cL R}
theorem afb{T:aB}{v:AV}{st:aC}{ρ:ay}{w:World}(d:FT T fr)(h:ah0 fr (KP b) T v st=some r)(i:Sat (ab ρ T st.G++(ab ρ T (Js b fr.H)++Φ)) w):
  ∃st',KP b v st'=some r/\st'.c=st.c/\lR (az ρ [] st'.E fr.F) (az ρ T st.E fr.F)/\Sat (ab ρ [] st'.G++(ab ρ [] (Js b fr.H)++Φ)) w:=by
 unfold ah0 at h;obtain ⟨e,k⟩:=aI h;have j:Fe T ⟨fr.F,Js b fr.H,fr.n⟩ st=true:=by unfold Fe at e ⊢;exact e
 obtain ⟨k1,g,f⟩:=KB (fr:=⟨fr.F,Js b fr.H,fr.n⟩) j ⟨d.1,λr a=>d.2 r (by
  cases b
  .exact a
  .exact (tT a).1)⟩ i
 exact ⟨_,k,k1,g,f⟩
theorem Ly{rest:zj}(g:∀it∈X.Γ,it∈Φ)(m:∀e∈tb,e.Ok X.P X.Γ)(k:∀e∈tp,e.Ok X.P X.Γ):∀{l:zj} {T:aB} {st:aC} {ρ:ay} {w:World},gi T st.E fr.F->sK ops fr.n T->FT T fr->Sat (ab ρ T st.G++(ab ρ T fr.H++Φ)) w->
  E7 X tb tp KP ops fr l T st K=some r->
  (∀st' ρ' w',aS st.c ρ ρ'->st.c<=st'.c->K st'=some r->Sat (ab ρ' [] st'.G++(ab ρ' [] fr.H++Φ)) w'->WL X.P σ ops.toArray Q fr.n D rest (az ρ' [] st'.E fr.F) w')->
  (∀b v st' ρ' w',aS st.c ρ ρ'->st.c<=st'.c->KP b v st'=some r->Sat (ab ρ' [] st'.G++(ab ρ' [] (Js b fr.H)++Φ)) w'->At Q (.panic (kh (v.val ρ'))) fr.n D (az ρ' [] st'.E fr.F) w')->
  WL X.P σ ops.toArray Q fr.n D (l++rest) (az ρ T st.E fr.F) w
 |[],T,st,ρ,w,h1,h2,p,hs,h,next,pnext=>by
  unfold E7 at h;obtain ⟨S,R⟩:=aI h;obtain ⟨k1,L,B⟩:=KB S p hs;exact λa p hd=>next _ ρ w .refl (by rw [k1];exact cK _) R B a (p.p6 L) hd
 |o::l,T,st,ρ,w,h1,h2,p,hs,h,next,pnext=>by
  unfold E7 at h;split at h
  .rename_i q O;subst h;refine aow h1 hs g k O (λst' ρ' w' A y i I W C=>?_) (λz v st' ρ' w' A M J V U y=>?_)
   .exact Ly g m k A h2 p C I (λd f j x u t s=>next d f j (y.trans x i) (dx i u) t s) (λz v d f j x u t s=>pnext z v d f j (y.trans x i) (dx i u) t s)
   .obtain ⟨d,k1,L,N,B⟩:=afb p J y;exact (pnext z v d ρ' w' A (by omega) k1 B).p6 _ N
  .exact abA (K:=λT st=>E7 X tb tp KP ops fr l T st K) h1 h2 rfl (λ_ h=>h) p hs g m h (λT' st' ρ' w' A M J y i I W C=>
    Ly g m k A M J C I (λd f j x u t s=>next d f j (y.trans x i) (dx i u) t s) (λz v d f j x u t s=>pnext z v d f j (y.trans x i) (dx i u) t s))
theorem aey(d:∀it∈X.Γ,it∈Φ)(g:∀e∈tb,e.Ok X.P X.Γ)(f:∀e∈tp,e.Ok X.P X.Γ){l:zj}{T:aB}{st:aC}{ρ:ay}{w:World}(m:gi T st.E fr.F)(k:sK ops fr.n T)(j:FT T fr)(i:Sat (ab ρ T st.G++(ab ρ T fr.H++Φ)) w)
  (h:E7 X tb tp KP ops fr l T st K=some r)
  (next:∀st' ρ' w',aS st.c ρ ρ'->st.c<=st'.c->K st'=some r->Sat (ab ρ' [] st'.G++(ab ρ' [] fr.H++Φ)) w'->At Q .normal fr.n D (az ρ' [] st'.E fr.F) w')
  (a:∀b v st' ρ' w',aS st.c ρ ρ'->st.c<=st'.c->KP b v st'=some r->Sat (ab ρ' [] st'.G++(ab ρ' [] (Js b fr.H)++Φ)) w'->At Q (.panic (kh (v.val ρ'))) fr.n D (az ρ' [] st'.E fr.F) w'):
  WL X.P σ ops.toArray Q fr.n D l (az ρ T st.E fr.F) w:=by
 have:=Ly (σ:=σ) (Q:=Q) (D:=D) (rest:=[]) d g f m k j i h (λst' ρ' w' s q p o=>cj (next st' ρ' w' s q p o)) a;rwa [ko] at this
end
def oJ(c:Nat):List AV->List AV×List Row×Nat
 |[]=>([],[],c)
 |v::vs=>match v with
  | .nv u=>match oJ c vs with
   |(cs,R,c)=>(.nv u::cs,R,c)
  |v=>match oJ (c+1) vs with
   |(cs,R,c')=>(.nv c::cs,.eq c v::R,c')
structure an7(c:Nat)(vs:List AV)(ρ ρ':ay)(x:List AV×List Row×Nat):Prop where
 ag:aS c ρ ρ'
 le:c<=x.2.2
 eq:AV.al ρ' x.1=AV.al ρ vs
 lw:AV.cq x.2.2 x.1=true
 rl:bD x.2.2 x.2.1=true
 rp:∀r∈x.2.1,(r.item ρ' []).cN=true/\∀M w,(r.item ρ' []).P M w
 rg:∀r∈x.2.1,r.gd=none
theorem BX{c d:Nat}(a:c<=d):{G:List Row}->bD c G=true->bD d G=true
 |[],_=>rfl
 |r::G,h=>by simp only [bD,au] at h ⊢;exact ⟨Row.gX a h.1,BX a h.2⟩
theorem wh{c:Nat}:{G H:List Row}->bD c G=true->bD c H=true->bD c (G++H)=true
 |[],_,_,h=>h
 |r::G,H,h,k=>by simp only [qb,bD,au] at h ⊢;exact ⟨h.1,wh h.2 k⟩
theorem JX:{vs:List AV}->{c:Nat}->{ρ:ay}->AV.cq c vs=true->∃ρ',an7 c vs ρ ρ' (oJ c vs)
 |[],c,ρ,h=>⟨ρ,.refl,cK _,rfl,rfl,rfl,(λ_ h=>by cases h),λ_ h=>by cases h⟩
 |v::vs,c,ρ,h=>by
  simp only [AV.cq,au] at h;have a:(∀u,v≠ .nv u)->oJ c (v::vs)=(match oJ (c+1) vs with|(cs,R,f)=>(.nv c::cs,.eq c v::R,f))->∃ρ',an7 c (v::vs) ρ ρ' (oJ c (v::vs)):=λ_ e=>by
   have g:aS c ρ (ρ.set c { dB with x:=v.val ρ }):=ay.aX;obtain ⟨ρ',l⟩:=JX (c:=c+1) (ρ:=ρ.set c { dB with x:=v.val ρ }) (AV.mK (j6 c) _ h.2);rw [e];generalize oJ (c+1) vs=L at l;obtain ⟨cs,R,f⟩:=L;have d:aS c ρ ρ':=g.trans l.ag (j6 _);have hx:(ρ' c).x=v.val ρ:=by rw [l.ag _ (l7 _),ay.bI]
   have i:c+1<=f:=l.le;refine ⟨ρ',d,dx (j6 _) l.le,?_,?_,?_,?_,?_⟩
   .simp only [AV.al,AV.val,hx];rw [l.eq,AV.cd g _ h.2]
   .simp only [AV.cq,AV.low,au,j5];exact ⟨by omega,l.lw⟩
   .simp only [bD,Row.low,au,j5];exact ⟨⟨by omega,AV.gX (by omega) _ h.1⟩,l.rl⟩
   .intro r b;rcases List.mem_cons.1 b with rfl|b
    .exact ⟨rfl,λM w=>by show (ρ' c).x=v.val ρ';rw [hx,AV.oC d _ h.1]⟩
    .exact l.rp r b
   .intro r b;rcases List.mem_cons.1 b with rfl|b
    .rfl
    .exact l.rg r b
  cases v with
  |nv u=>
   obtain ⟨ρ',l⟩:=JX (c:=c) (ρ:=ρ) h.2;unfold oJ;dsimp only;generalize oJ c vs=L at l;obtain ⟨cs,R,f⟩:=L;refine ⟨ρ',l.ag,l.le,?_,?_,l.rl,l.rp,l.rg⟩
   .simp only [AV.al];rw [l.eq,AV.oC l.ag _ h.1]
   .simp only [AV.cq,au];exact ⟨AV.gX l.le _ h.1,l.lw⟩
  |_=>exact a (λu h=>by cases h) rfl
def aib{R:Type}(X:Cx)(T:aB)(fr:Fr)(st:aC)(g:GK)(op:Op)(dst:zf)(K:cL R):Option R:=match op,dst with
 | .indexAddr t x y,some d=>(match jH X.P t with
  |some _=>aha X T fr st g d t x y K
  |none=>(match bw T st.E fr.F g x with
   |some (.gp _)=>Ze X T fr st g d t x y K
   |_=>gone g (ahj X T fr st d t x y K)))
 | .slice t x lo hi mx,some d=>abQ X T fr st g d t x lo hi mx K
 | .call ⟨.builtin .unsafeSliceData,⟨[x]⟩,_⟩,some d=>gone g (Zj T fr st d x K)
 | .call ⟨.builtin .len,⟨[x]⟩,⟨[t]⟩⟩,some d=>ahO X T fr st g d t x K
 |_,_=>none
def acB{R:Type}(X:Cx)(T:aB)(fr:Fr)(st:aC)(g:GK)(o:Oper)(K:cL R):Option R:=
 match agP X T st.E fr.F g o.op with
 |some cv=>Kf cv.1 (g.map λ_=>T.get g) (K { st with E:=cM o.dst g cv.2 st.E })
 |none=>match af6 X T st.E fr.F [] fr.H g o.op with
  |some cv=>Kf cv.1 (g.map λ_=>T.get g) (K { st with E:=cM o.dst g cv.2 st.E })
  |none=>aD (st.low fr) (aib X T fr st g o.op o.dst K) none
def bm(p:Row->Bool):List Row->List Row
 |[]=>[]
 |r::G=>aD (p r) (r::bm p G) (bm p G)
def cX(r:Row):Bool:= !r.cN
theorem Sat.Bz{w:World}{B:Ctx}:∀{A:Ctx},Sat (A++B) w->Sat B w
 |[],h=>h
 |_x::A,h=>Sat.Bz (A:=A) (Sat.Du (A:=[]) h)
section
variable {ρ : ay} {T : aB} {w : World}
theorem uC{p:Row->Bool}{H:List Row}{Φ:Ctx}:∀{G:List Row} {A:Ctx},Sat (A++(ab ρ T G++(ab ρ T H++Φ))) w->Sat (A++(ab ρ T (bm p G)++(ab ρ T (bm (λr=> !(p r)) G++H)++Φ))) w
 |[],_,h=>h
 |r::G,A,h=>by
  unfold bm;cases hp:p r
  .have b:Sat ((A++[r.item ρ T])++(ab ρ T G++(ab ρ T H++Φ))) w:=by simpa [ab] using h
   have a:=uC (p:=p) (G:=G) b;have c:Sat (A++r.item ρ T::(ab ρ T (bm p G)++(ab ρ T (bm (λr=> !(p r)) G++H)++Φ))) w:=by simpa using a
   exact c.move
  .have b:Sat ((A++[r.item ρ T])++(ab ρ T G++(ab ρ T H++Φ))) w:=by simpa [ab] using h
   have a:=uC (p:=p) (G:=G) b;simpa [ab] using a
end
abbrev sN(fr:Fr)(A:List Row)(st:aC):Fr:=⟨fr.F,bm (λr=> !(cX r)) st.G++(A++fr.H),fr.n⟩
abbrev stM(st:aC):aC:={ st with G:=bm cX st.G }
abbrev yu:=Nat×Nat×Nat×zm
def Pj:List AV->Option zm
 |[]=>some []
 |v::l=>(match v with
  | .nv u=>(match Pj l with
   |some us=>some (u::us)
   |none=>none)
  |_=>none)
def aa9:List AV->zm->Bool
 |_,[]=>true
 |l,n::ns=>(match l with
  | .nv u::l=>Nat.beq u n&&aa9 l ns
  |_=>false)
def NG(G:List Row):List yu->Bool
 |[]=>true
 |x::Pd=>(match tI (Bs x.2.1) G with
  |some (_,.box _ _ cs)=> !(Nat.beq x.2.2.1 1000000000)&&aa9 (cs.drop x.2.2.1) x.2.2.2
  |_=>false)&&NG G Pd
def pdF(G:List Row):List yu->Bool
 |[]=>true
 |x::Pd=>(Nat.beq x.2.2.1 1000000000||(match tI (Bs x.2.1) G with
  |some (_,.box _ _ cs)=> !(Nat.beq x.2.2.1 1000000000)&&aa9 (cs.drop x.2.2.1) x.2.2.2
  |_=>false))&&pdF G Pd
def gE(ops:zj)(k:Nat):List yu->List yu
 |[]=>[]
 |x::Pd=>aD (waits .any ops.toArray k x.1) (gE ops k Pd) (x::gE ops k Pd)
def szA(P:Program)(t:TypeId):ze:=match P.underlying t with
 |some d=>aD (mW d) (match pO P t with
  |some z=>some z.1
  |none=>none) (some 1)
 |none=>none
def af0{R:Type}(X:Cx)(T:aB)(fr:Fr)(st:aC)(g:GK)(k:Nat)(o:Oper)(K:List Row->yu->aC->Option R):Option (Option R):=match o.op,o.dst with
 | .load t x,some d=>(match bw T st.E fr.F g x with
  |some (.ptr id off)=>(match tI (Bs id) st.G with
   |some (j,.box _ bt cs)=>some (match szA X.P t with
    |some n=>(match n7 X.P t ((cs.drop off).map (yW st.G fr.H)) with
     |some v=>(match Pj (oJ st.c ((cs.drop off).take n)).1 with
      |some us=>aD (st.low fr&&v.low st.c&&Nat.ble (off+n) cs.length&& !(Nat.beq off 1000000000)) (
        K (oJ st.c ((cs.drop off).take n)).2.1 (k,id,off,us) { st with c:=(oJ st.c ((cs.drop off).take n)).2.2,E:=cM (some d) g v st.E,G:=st.G.set j (.box id bt (xI cs off (oJ st.c ((cs.drop off).take n)).1)) } ) none
      |none=>none)
     |none=>none)
    |none=>none)
   |_=>none)
  |_=>none)
 |_,_=>none
def aok(T:aB)(fr:Fr)(st:aC)(g:GK)(o:Oper):Option (Tmp×TypeId×Nat×Nat):=match o.op,o.dst with
 | .load t x,some d=>(match bw T st.E fr.F g x with
  |some (.adr q off)=>(match Cl T [] fr.H g (.adr q off) with
   |some _=>none
   |none=>(match eO st.G fr.H (RW q) with
    |some _=>some (d,t,q,off)
    |none=>none))
  |_=>none)
 |_,_=>none
def Pb{R:Type}(X:Cx)(tb:List aA)(tp:List bZ)(KP:AV->aC->Option R)(ops:zj)(fr:Fr)(A:List Row)(T:aB)(st:aC)(o:Oper)(K:aB->cL R):Option R:=
 match ago tp T (sN fr A st) (stM st) o (λb v st'=>aD b none (ah0 fr KP T v { st' with G:=st'.G++(bm (λr=> !(cX r)) st.G++A) })) (K T) with
 |some q=>q
 |none=>stepG ops T (sN fr A st) (stM st) o λT g=>ZR X tb T (sN fr A st) (stM st) g o (K T)
def arf(X:Cx)(T:aB)(fr:Fr)(st:aC)(ops:zj)(k:Nat)(fl:zm)(rest:OT)(f:Nat):Bool:=(match ops[f]? with
 |some o=>(match J7 X T fr st o,o.dst with
  |some _,some d=>km o&&Nat.blt d fr.n&&(match ez st.E fr.F d with|some _=>false|none=>true)&&(o.looksAt ops.toArray).all (λt=> !(Nat.beq t d))
  |_,_=>false)
 |none=>false)&&(k::rest.ops).all (λj=>tN ops.toArray j f)&&(fl++rest.SU).all (λj=>Nat.beq j f||tN ops.toArray j f)
def ahu{R:Type}(X:Cx)(ops:zj)(fr:Fr)(T:aB):zm->aC->cL R->Option R
 |[],st,K=>K st
 |f::fs,st,K=>(match ops[f]? with
  |some o=>aD (sC o.dst T&& !(ey f fs)) (anA X T fr st o λst=>ahu X ops fr T fs st K) none
  |none=>none)
abbrev frA(fr:Fr)(A:List Row):Fr:=⟨fr.F,A++fr.H,fr.n⟩
def tz{R:Type}(X:Cx)(tb:List aA)(tp:List bZ)(KP:AV->aC->Option R)(ops:zj)(fr:Fr):OT->List Row->List yu->aB->aC->cL R->Option R
 | .nil,A,_,T,st,K=>aD (Fe T fr { st with G:=st.G++A }) (K (Bx T { st with G:=st.G++A })) none
 | .q k _ rest,A,Pd,T,st,K=>(match ops[k]? with
  |some o=>stepG ops T (sN fr A st) (stM st) o λT g=>match af0 X T (sN fr A st) (stM st) g k o (λR p st'=>tz X tb tp KP ops fr rest (R++(bm (λr=> !(cX r)) st.G++A)) (p::Pd) T st' K) with
   |some q=>q
   |none=>(match aok T (sN fr A st) (stM st) g o with
    |some p=>aD ((stM st).low (sN fr A st)) (Ul X T (sN fr A st) (stM st) g p.1 p.2.1 p.2.2.1 p.2.2.2 λst'=>tz X tb tp KP ops fr rest (bm (λr=> !(cX r)) st.G++A) ((k,p.2.2.1,1000000000,[])::Pd) T st' K) none
    |none=>acB X T (sN fr A st) (stM st) g o λst'=>tz X tb tp KP ops fr rest (bm (λr=> !(cX r)) st.G++A) Pd T st' K)
  |none=>none)
 | .l k _ rest,A,Pd,T,st,K=>(match ops[k]? with
  |some o=>Pb X tb tp KP ops fr A T st o λT st'=>aD (NG st'.G (gE ops k Pd)) (tz X tb tp KP ops fr rest (bm (λr=> !(cX r)) st.G++A) (gE ops k Pd) T st' K) none
  |none=>none)
 | .l2 _ k₁ r₁ k₂ r₂,A,Pd,T,st,K=>both
  (match ops[k₁]? with
  |some o=>Pb X tb tp KP ops fr A T st o λT st'=>aD (NG st'.G (gE ops k₁ Pd)) (tz X tb tp KP ops fr r₁ (bm (λr=> !(cX r)) st.G++A) (gE ops k₁ Pd) T st' K) none
  |none=>none)
  (match ops[k₂]? with
  |some o=>Pb X tb tp KP ops fr A T st o λT st'=>aD (NG st'.G (gE ops k₂ Pd)) (tz X tb tp KP ops fr r₂ (bm (λr=> !(cX r)) st.G++A) (gE ops k₂ Pd) T st' K) none
  |none=>none)
 | .f k _ fl fs rest,A,Pd,T,st,K=>aD (fl.all (arf X T (frA fr A) st ops k fl rest)&&pdF st.G Pd) (ahu X ops (frA fr A) T fs st λst=>(match ops[k]? with
  |some o=>Pb X tb tp KP ops fr A T st o λT st'=>aD (NG st'.G (gE ops k Pd)) (tz X tb tp KP ops fr rest (bm (λr=> !(cX r)) st.G++A) (gE ops k Pd) T st' K) none
  |none=>none)) none
section
variable {R : Type} {X : Cx} {tb : List aA} {tp : List bZ} {KP : AV -> aC -> Option R} {σ : ze} {Q : bh} {D : x3} {ops : zj} {r : R} {fr : Fr} {Φ : Ctx} {K : cL R}
theorem ajm{T:aB}{st:aC}{g:GK}{ρ:ay}{w:World}(j:∀it∈X.Γ,it∈Φ)(m:gi T st.E fr.F)(e:Sat (ab ρ T st.G++(ab ρ T fr.H++Φ)) w)(h:acB X T fr st g o K=some r):
  ∃(v:Value) (J:World->Prop),(∀w',(∃b,Sat (ab ρ T fr.H++b) w')->J w')/\(∀w',J w'->bc X.P (az ρ T st.E fr.F) (T.get g) o w' v)/\aU r K T fr st g o.dst ρ Φ v w:=by
 obtain ⟨dst,op,ty,pos,af,gd⟩:=o;unfold acB at h;simp only at h;have c:∀{O:Value->World->Prop},PW X.P T g (az ρ T st.E fr.F) ⟨dst,op,ty,pos,af,gd⟩ w O->∃(v:Value) (J:World->Prop),(∀w',(∃b,Sat (ab ρ T fr.H++b) w')->J w')/\(∀w',J w'->bc X.P (az ρ T st.E fr.F) (T.get g) ⟨dst,op,ty,pos,af,gd⟩ w' v)/\O v w:=λh=>by obtain ⟨v,d,a⟩:=h;exact ⟨v,λ_=>True,λ_ _=>trivial,λw' _=>d w',a⟩
 split at h
 next cv f=>obtain ⟨d,a⟩:=uj h;exact c ⟨_,λw'=>ab5 m f d,aU.lr a (cK _) rfl rfl e⟩
 .split at h
  next cv f=>obtain ⟨d,a⟩:=uj h;refine ⟨_,λw'=>∃b,Sat (ab ρ T fr.H++b) w',λ_ h=>h,λw' l=>?_,aU.lr a (cK _) rfl rfl e⟩;obtain ⟨b,i⟩:=l;exact ZX (G:=[]) (Φ:=b) i f d
  .obtain ⟨d,a⟩:=aI h;unfold aib at a;split at a
   .split at a
    .exact c (afu d e a)
    .split at a
     .exact c (acU d j e a)
     .obtain ⟨rfl,k⟩:=dJ a;exact c (aeg e k)
   .exact c (V6 d e a)
   .obtain ⟨rfl,k⟩:=dJ a;exact c (ZK d e k)
   .exact c (anc e a)
   .cases a
def BF(ρ:ay)(x:yu)(w:World):Prop:=Nat.beq x.2.2.1 1000000000=false/\∃cs t,gH w (ρ x.2.1).b t cs/\(cs.drop x.2.2.1).take x.2.2.2.length=x.2.2.2.map λu=>(ρ u).x
def agz(c:Nat)(Pd:List yu):Prop:= ∀x,x∈Pd->x.2.1<c/\∀u,u∈x.2.2.2->u<c
theorem EA{ρ ρ':ay}{c:Nat}(ha:aS c ρ ρ'){x:yu}(hx:x.2.1<c/\∀u,u∈x.2.2.2->u<c){w:World}:BF ρ' x w↔BF ρ x w:=by
 unfold BF;rw [ha _ hx.1];have:(x.2.2.2.map λu=>(ρ' u).x)=x.2.2.2.map λu=>(ρ u).x:=qQ λu a=>by rw [ha _ (hx.2 u a)]
 rw [this]
theorem Yg{ρ:ay}:∀{l:List AV} {us:zm},aa9 l us=true->(AV.al ρ l).take us.length=us.map λu=>(ρ u).x
 |l,[],_=>by simp
 |l,n::ns,h=>by
  unfold aa9 at h;split at h
  next u l'=>simp only [au] at h;have e:=b0 h.1;subst e;simp only [AV.al,AV.val,eb,q5,fb];rw [Yg h.2]
  .cases h
theorem UO{ρ:ay}:∀{l:List AV} {us:zm},Pj l=some us->AV.al ρ l=us.map (λu=>(ρ u).x)/\us.length=l.length
 |[],us,h=>by cases h;simp [AV.al]
 |v::l,us,h=>by
  unfold Pj at h;split at h
  .rename_i u;split at h
   next b a=>cases h;obtain ⟨d,c⟩:=UO (ρ:=ρ) a;simp [AV.al,AV.val,d,c]
   .cases h
  .cases h
theorem XU{c:Nat}:∀{l:List AV} {us:zm},Pj l=some us->AV.cq c l=true->∀u,u∈us->u<c
 |[],us,h,_,u,a=>by cases h;cases a
 |v::l,us,h,hl,u,a=>by
  unfold Pj at h;split at h
  .rename_i u';split at h
   .rename_i d b;cases h;simp only [AV.cq,AV.low,au,j5] at hl;rcases List.mem_cons.1 a with rfl|a
    .exact hl.1
    .exact XU b hl.2 u a
   .cases h
  .cases h
theorem acS{ρ:ay}{T:aB}{G:List Row}{B:Ctx}{w:World}(c:Sat (ab ρ T G++B) w):∀{Pd:List yu},NG G Pd=true->∀x,x∈Pd->BF ρ x w
 |[],_,x,hx=>by cases hx
 |y::Pd,h,x,hx=>by
  simp only [NG,au] at h;rcases List.mem_cons.1 hx with rfl|hx
  .have a:=h.1;split at a
   next j id t cs d=>obtain ⟨f,e⟩:=pr d;have:id=x.2.1:=b0 e;subst this;have hb:gH w (ρ x.2.1).b t (AV.al ρ cs):=c.at_ (iT f);simp only [au] at a;refine ⟨by simpa using a.1,_,t,hb,?_⟩;rw [<-AV.jX];exact Yg a.2
   .cases a
  .exact acS c h.2 x hx
theorem ajO{ρ:ay}{T:aB}{G:List Row}{B:Ctx}{w:World}(b:Sat (ab ρ T G++B) w):∀{Pd:List yu},pdF G Pd=true->∀x,x∈Pd->BF ρ x w\/Nat.beq x.2.2.1 1000000000=true
 |[],_,x,hx=>by cases hx
 |y::Pd,h,x,hx=>by
  simp only [pdF,au,e9] at h;rcases List.mem_cons.1 hx with rfl|hx
  .rcases h.1 with a|a
   .exact .inr a
   .exact .inl (acS b (Pd:=[x]) (by simp only [NG,au];exact ⟨a,trivial⟩) x (c8 ..))
  .exact ajO b h.2 x hx
theorem yr{k:Nat}:∀{Pd:List yu} {x:yu},x∈gE ops k Pd↔x∈Pd/\waits .any ops.toArray k x.1=false
 |[],x=>by simp [gE]
 |y::Pd,x=>by
  unfold gE;cases c:waits .any ops.toArray k y.1
  .show x∈y::gE ops k Pd↔_;rw [qe,qe,yr];constructor
   .rintro (rfl|⟨b,a⟩)
    .exact ⟨.inl rfl,c⟩
    .exact ⟨.inr b,a⟩
   .rintro ⟨rfl|b,a⟩
    .exact .inl rfl
    .exact .inr ⟨b,a⟩
  .show x∈gE ops k Pd↔_;rw [qe,yr];constructor
   .rintro ⟨b,a⟩;exact ⟨.inr b,a⟩
   .rintro ⟨rfl|b,a⟩
    .rw [c] at a;cases a
    .exact ⟨b,a⟩
theorem adQ{pend:fP}{w:World}(h:∀p,p∈pend->p.2 w):jl pend w:=by
 induction pend with
 |nil=>trivial
 |cons p l ih=>exact ⟨h p (c8 ..),ih λq a=>h q (cp _ a)⟩
theorem apz{P:Program}{ρ:ay}{Ev:Env}{g:Bool}{t:TypeId}{x:Operand}{n:Nat}{l:List AV}{v:AV}{q:Addr}{w:World}{dst:zf}{ty:TypeId}{pos:String}{af:zh}{gd:Option (Nat×Bool)}
  (hx:ar Ev g x (.pointer (some q))) (hn:szA P t=some n) (j:n7 P t l=some v) (hl:n<=l.length) (k:bN w q ((AV.al ρ l).take n)):bc P Ev g ⟨dst,.load t x,ty,pos,af,gd⟩ w (v.val ρ):=by
 have s:n7 P t (l.drop 0)=some v:=by simpa using j
 obtain ⟨d,n',bytes,z,c1,u,b⟩:=ss (X:=⟨P,[],[],[],(λ_ h=>nomatch h),0,[],[],(λ_ h=>nomatch h),[]⟩) (ρ:=ρ) s;have c1:P.underlying t=some d:=c1;unfold szA at hn;rw [c1] at hn;rcases ew hn with ⟨hd,i⟩|⟨hd,i⟩
 .split at i
  .rename_i o c;obtain ⟨m,y,o⟩:=o;cases i;unfold n7 at j;rw [c1] at j;rcases ew j with ⟨_,f⟩|⟨f,_⟩
   .rw [c] at f;obtain ⟨_,r⟩:=aI f;cases r;simp only [AV.val,AV.mO];exact Ni c1 hd (cT c) hx (λ_=>k) (by rw [dm,AV.bF];exact iQ hl)
   .rw [hd] at f;cases f
  .cases i
 .cases i;rw [hd] at b;simp only [eT,qn] at b;refine Ot c1 hd hx (λ_=>?_);have e:(AV.al ρ l).take 1=[v.val ρ]:=by
   cases p:AV.al ρ l with
   |nil=>rw [p] at b;cases b
   |cons a l=>rw [p] at b;cases b;rfl
  rw [e] at k;exact k
theorem adw{l:zc}{a n:Nat}(h:a+n<=l.length):sQ l a ((l.drop a).take n)=l:=by
 unfold sQ;have c:((l.drop a).take n).length=n:=by rw [dm,j0];omega
 rw [c];have b:(l.drop a).take n++l.drop (a+n)=l.drop a:=by rw [<-qz,qv]
 rw [cx,b,qv]
theorem amZ{T:aB}{st:aC}{g:GK}{k:Nat}{ρ:ay}{w:World}{KQ:List Row->yu->aC->Option R}(hs:Sat (ab ρ T st.G++(ab ρ T fr.H++Φ)) w)(h:af0 X T fr st g k o KQ=some (some r)):
  ∃(v:Value) (ρ':ay) (st':aC) (av:AV) (D:List Row) (p:yu),KQ D p st'=some r/\aS st.c ρ ρ'/\st.c<=st'.c/\st'.E=cM o.dst g av st.E/\av.val ρ'=v/\az ρ' T st.E fr.F=az ρ T st.E fr.F/\ab ρ' T fr.H=ab ρ T fr.H/\
   Sat (ab ρ' T st'.G++(ab ρ' T (D++fr.H)++Φ)) w/\p.1=k/\BF ρ' p w/\(p.2.1<st'.c/\∀u,u∈p.2.2.2->u<st'.c)/\(∀w',BF ρ' p w'->bc X.P (az ρ T st.E fr.F) (T.get g) o w' v):=by
 obtain ⟨dst,op,ty,pos,af,gd⟩:=o;unfold af0 at h;simp only at h;split at h
 .rename_i t x d;split at h
  .rename_i id f hx;split at h
   .rename_i j y bt cs hf;simp only [ej] at h;split at h
    .rename_i n hn;split at h
     .rename_i v hv;split at h
      .rename_i us K;obtain ⟨Z,h2⟩:=aI h;simp only [au,Nat.ble_eq] at Z;obtain ⟨⟨⟨hl,hvl⟩,hle⟩,hmk⟩:=Z;obtain ⟨l1,l2,l3,l4⟩:=aC.cJ.1 hl;obtain ⟨f1,f2⟩:=pr hf;have:y=id:=b0 f2;subst this;have C:j<st.G.length:=(List.getElem?_eq_some_iff.1 f1).1;have i:=vk l3 f1;simp only [Row.low,au,j5] at i;have S:∀{l:List AV} {c m q:Nat},AV.cq c l=true->AV.cq c ((l.drop m).take q)=true:=λ{l c m q} h=>by
        have dr:∀(l:List AV) (m:Nat),AV.cq c l=true->AV.cq c (l.drop m)=true:=λl=>by
         induction l with
         |nil=>intro m h;simp [AV.cq]
         |cons a l ih=>
          intro m h;cases m with
          |zero=>exact h
          |succ m=>simp only [AV.cq,au] at h;exact ih m h.2
        have tk:∀(l:List AV) (m:Nat),AV.cq c l=true->AV.cq c (l.take m)=true:=λl=>by
         induction l with
         |nil=>intro m h;simp [AV.cq]
         |cons a l ih=>
          intro m h;cases m with
          |zero=>rfl
          |succ m=>simp only [AV.cq,au,q5] at h ⊢; exact ⟨h.1,ih m h.2⟩
        exact tk _ _ (dr _ _ h)
       obtain ⟨ρ',J⟩:=JX (ρ:=ρ) (S (m:=f) (q:=n) i.2);obtain ⟨i1,i2⟩:=UO (ρ:=ρ') K;have V:=XU K J.lw;generalize oJ st.c ((cs.drop f).take n)=L at h2 J K i1 i2 V;obtain ⟨ls,D,c'⟩:=L;have Y:st.c<=c':=J.le;have s:aS st.c ρ ρ':=J.ag;have N:AV.al ρ' ls=AV.al ρ ((cs.drop f).take n):=J.eq;have hb:gH w (ρ y).b bt (AV.al ρ cs):=hs.at_ (iT f1);have W:AV.al ρ' cs=AV.al ρ cs:=AV.cd s _ i.2;have Q:v.val ρ'=v.val ρ:=AV.oC s _ hvl;have I:us.length=n:=by
        have e1:(AV.al ρ' ls).length=n:=by rw [N,AV.bF,dm,j0];omega
        rw [i2,<-AV.bF (ρ:=ρ') (l:=ls)];exact e1
       have eG:=aZ (T:=T) s l3;have eH:=aZ (T:=T) s l4;have e3:(us.map λu=>(ρ' u).x)=((AV.al ρ cs).drop f).take n:=by rw [<-i1,N,AV.mO,AV.jX]
       refine ⟨v.val ρ,ρ',_,v,D,(k,y,f,us),h2,s,Y,rfl,Q,sn hl s,eH,?_,rfl,⟨by simpa using hmk,AV.al ρ cs,bt,?_,?_⟩,⟨gr i.1 Y,V⟩,λw' hw=>?_⟩
       .show Sat (ab ρ' T (st.G.set j _)++(ab ρ' T (D++fr.H)++Φ)) w;rw [gG C,eG];have e4:(Row.box y bt (xI cs f ls)).item ρ' T=(Row.box y bt cs).item ρ T:=by simp only [Row.item];rw [s _ i.1,<-BL,W,N,AV.mO,AV.jX,adw (by rw [AV.bF];exact hle)]
        have hi:=iT (ρ:=ρ) (T:=T) (Φ:=ab ρ' T (D++fr.H)++Φ) f1;have e5:(ab ρ T st.G++(ab ρ' T (D++fr.H)++Φ)).set j ((Row.box y bt (xI cs f ls)).item ρ' T)=ab ρ T st.G++(ab ρ' T (D++fr.H)++Φ):=by
         rw [e4];apply mm;intro q;by_cases hq:q=j
         .subst hq;rw [sj (List.getElem?_eq_some_iff.1 hi).1,hi]
         .rw [qN (λh=>hq h.symm)]
        rw [e5,bg,eH,cx];have ins:∀(L:List Item) (A B:Ctx),Sat (A++B) w->(∀it∈L,it.own=[]/\∀M w,it.P M w)->Sat (A++(L++B)) w:=λL=>by
         induction L with
         |nil=>intro A B h _;exact h
         |cons x L ih=>
          intro A B h hL;have Z:=ih A B h (λit bJ=>hL it (cp _ bJ));have hx:=hL x (c8 ..);refine Z.DE (λj k=>(j<A.length/\k=j)\/(A.length<j/\k+1=j)) (λj jt C=>?_) (λj k q hjk Z h2=>by omega);by_cases e:j<A.length
          .rw [ec e] at C;exact .inr ⟨j,jt,.inl ⟨e,rfl⟩,by rw [ec e];exact C,bX.refl⟩
          .rw [de (by omega)] at C;by_cases e2:j=A.length
           .subst e2;simp at C;subst C;exact .inl hx
           .refine .inr ⟨j-1,jt,.inr ⟨by omega,by omega⟩,?_,bX.refl⟩;rw [de (by omega)];have:j-A.length=(j-1-A.length)+1:=by omega
            rw [this,qb,hU] at C;exact C
        refine ins (ab ρ' T D) (ab ρ T st.G) (ab ρ T fr.H++Φ) hs (λit bJ=>?_);obtain ⟨z,U,rfl⟩:=List.mem_map.1 bJ;have h9:=J.rp z U;have h10:z.item ρ' T=z.item ρ' []:=by have hgd:z.gd=none:=J.rg z U;exact Row.Fc (by rw [hgd,aB.get_none,aB.get_none])
        rw [h10];exact ⟨(z.item ρ' []).hp h9.1,h9.2⟩
       .show gH w (ρ' y).b bt _;rw [s _ i.1];exact hb
       .show ((AV.al ρ cs).drop f).take us.length=us.map λu=>(ρ' u).x;rw [I,e3]
       .obtain ⟨_,csv,t2,b1,b2⟩:=hw;have b1:gH w' (ρ' y).b t2 csv:=b1;have b2:(csv.drop f).take us.length=us.map λu=>(ρ' u).x:=b2;rw [s _ i.1] at b1;rw [I,e3] at b2;have O:=aP (ρ:=ρ) hx;simp only [AV.val] at O;have e6:AV.al ρ ((cs.drop f).map (yW st.G fr.H))=(AV.al ρ cs).drop f:=by rw [Nv hs,AV.jX]
        refine apz O hn hv (by rw [nI,j0];omega) ?_;rw [e6];refine b1.part f ?_;have:(((AV.al ρ cs).drop f).take n).length=n:=by rw [dm,j0,AV.bF];omega
        rw [this];exact b2
      .cases h
     .cases h
    .cases h
   .cases h
  .cases h
 .cases h
theorem Ol{e:OT}{k mk_:Nat}{pend:fP}{EV:List vA}{T T':aB}{g:GK}{fr1:Fr}{st1:aC}{ρ:ay}{w:World}{v:Value}{J:World->Prop}(hn:fr1.n=fr.n)(p:aiR ops fr fr1 st1 ρ o T T' g)(A:ops[k]? =some o)(t:∀x∈EV,tN ops.toArray k x.1=true)(i:J w)
  (r:∀w',J w'->bc X.P (az ρ T' st1.E fr1.F) (T'.get g) o w' v) (c:GS X.P σ ops.toArray Q fr.n D e EV ((k,J)::pend) (uv o.dst (T'.get g) v (az ρ T' st1.E fr1.F)) w):
  GS X.P σ ops.toArray Q fr.n D (.q k mk_ e) EV pend (az ρ T' st1.E fr1.F) w:=by
 have m:ops.toArray[k]? =some o:=by simpa using A
 have f:=p.ds;rw [hn] at f;intro a d u hC;have j:∀v,∀x∈EV,yK X.P ops.toArray (a.put o.dst v) x:=λv x hx=>(hC x hx).put m (t x hx);simp only [lY,m];cases s:g with
 |none=>
  subst s;rw [aB.get_none] at r c;refine ⟨v,J,i,.inl ⟨by simp [Region.wanted,p.gg],λw' h=>r w' h _ a d rfl⟩,?_⟩;exact c _ (d.uv f) (by rw [kE];exact u) (j _)
 |some gk=>
  obtain ⟨rj,par,b,G,C,z,B⟩:=p.gk gk s;rw [hn] at z;subst s;have l:=Hg (ops:=ops.toArray) p.gg (by simpa using G) C d z;rw [B] at l;cases y:T'.get (some gk)
  .rw [y] at l c;refine ⟨undef,J,i,.inr ⟨l,rfl⟩,?_⟩;exact c _ (d.uv (g:=false) (v:=v) f) (by rw [kE];exact u) (j _)
  .rw [y] at l r c;refine ⟨v,J,i,.inl ⟨l,λw' h=>r w' h _ a d rfl⟩,?_⟩;exact c _ (d.uv f) (by rw [kE];exact u) (j _)
theorem aqJ{G H:List Row}{s:Src}{a:Row}{q c:Nat}(h:s.at_ G H a)(hk:RW q a=true)(f:bD c G=true)(d:bD c H=true):q<c:=by
 have key:∀{L:List Row},bD c L=true->a∈L->q<c:=λ{L} hl hm=>by
  have b:a.low c=true:=by
   induction L with
   |nil=>cases hm
   |cons x L ih=>
    simp only [bD,au] at hl;rcases List.mem_cons.1 hm with rfl|hm
    .exact hl.1
    .exact ih hl.2 hm
  unfold RW at hk;split at hk
  .have e:=b0 hk;subst e;simp only [Row.low,au,j5] at b;exact b.1.1
  .cases hk
 cases s with
 |top i=>exact key f (fm h)
 |cB i=>exact key d (fm h)
 |nilI t=>exact h.elim
 |nilO t e=>exact h.elim
 |nilM k v=>exact h.elim
def HP(ρ:ay)(T:aB)(fr:Fr)(A:List Row)(Pd:List yu)(pend:fP)(w:World):Prop:= ∀p,p∈pend->∀w',(∃Φ',Sat (ab ρ T (A++fr.H)++Φ') w')->(∀x,x∈Pd->x.1=p.1->BF ρ x w'\/(Nat.beq x.2.2.1 1000000000=true/\Ext w w'))->p.2 w'
def gh(EV:List vA):Ctx:=EV.map λx=>box x.2.1 x.2.2.1 x.2.2.2
def VI(ops:zj)(order:OT)(EV:List vA):Prop:= ∀x∈EV,(∀j∈order.ops,tN ops.toArray j x.1=true)/\∀j∈order.SU,j=x.1\/tN ops.toArray j x.1=true
theorem Ka{B:Ctx}{w:World}{p:vA->Bool}:∀{EV:List vA} {A:Ctx},Sat (A++(gh EV++B)) w->Sat (A++(gh (EV.filter p)++B)) w
 |[],_,h=>h
 |x::EV,A,h=>by
  rw [tj];split
  .have a:Sat ((A++[box x.2.1 x.2.2.1 x.2.2.2])++(gh EV++B)) w:=by simpa [gh] using h
   have:=Ka (p:=p) a;simpa [gh] using this
  .exact Ka (p:=p) (Sat.Du (A:=A) (B:=gh EV++B) h)
theorem RC{B:Ctx}{w:World}:∀{EV:List vA} {A:Ctx},Sat (A++(gh EV++B)) w->Sat (A++B) w
 |[],_,h=>h
 |_::EV,A,h=>RC (EV:=EV) (Sat.Du (A:=A) (B:=gh EV++B) h)
theorem Fits.lr{n:Nat}{E:Env}{a:Act}{d:Tmp}{v:Value}(h:Fits n E a)(e:a.tmps.getD d undef=v):Fits n ((d,true,v)::E) a:=by
 refine ⟨h.size,λt g b ht=>?_⟩;simp only [look] at ht;cases hb:Nat.beq d t
 .rw [hb,b7] at ht;exact h.at_ t g b ht
 .rw [hb,ca] at ht;have:=b0 hb;subst this;cases ht;exact e
theorem Fits.ata{n:Nat}{E:Env}{a:Act}{d:Tmp}(h:Fits n E a)(hd:look E d=none)(v:Value):Fits n E (a.put (some d) v):=by
 refine ⟨by simp [Act.put,h.size],λt g c ht=>?_⟩;have b:d≠t:=λe=>by subst e;rw [hd] at ht;cases ht
 have:=Act.eval_put (a:=a) (dst:=some d) (v:=v) (x:= .tmp t) (λe f i=>b (by cases f;cases i;rfl));exact Eq.trans this (h.at_ t g c ht)
theorem apN{X:Cx}{T:aB}{fr:Fr}{st:aC}{p:TypeId×List AV×List AV}(h:J7 X T fr st o=some p):o.guard=none/\∀cs b,o.op≠ .select cs b:=by
 unfold J7 at h;split at h
 next d c=>exact ⟨c,λcs b a=>by rw [d] at a;cases a⟩
 next d c=>exact ⟨c,λcs b a=>by rw [d] at a;cases a⟩
 .cases h
theorem yK.same{P:Program}{ops:zg}{a:Act}{x:vA}{X:Cx}{T:aB}{fr:Fr}{st:aC}{ρ:ay}(k:X.P=P)(h:yK P ops a x)(i:ops[x.1]? =some o)(j:Fits fr.n (az ρ T st.E fr.F) a):
  ∀e vs cs,J7 X T fr st o=some (e,vs,cs)->x.2.2.1=e/\x.2.2.2=AV.al ρ cs:=λe vs cs l=>by
 subst k;obtain ⟨q,d,b,g,u,t,s,r,p⟩:=h;rw [i] at g;cases g;have f:=aae (ρ:=ρ) l b _ a j;rw [p] at f;have m:b.alloc (.cells x.2.2.2.toArray x.2.2.1)=b.alloc (.cells (AV.al ρ cs).toArray e):=by injection f
 have c:(some (Obj.cells x.2.2.2.toArray x.2.2.1):Option Obj)=some (.cells (AV.al ρ cs).toArray e):=by rw [<-heap_alloc_new b (.cells x.2.2.2.toArray x.2.2.1),<-heap_alloc_new b (.cells (AV.al ρ cs).toArray e),m]
 simp only [ej,Obj.cells.injEq] at c;exact ⟨c.2.1,by simpa using c.1⟩
theorem afm{frx:Fr}{T:aB}{w:World}{a:Act}{M:cL R}:∀{k:zm} {EV:List vA} {st:aC} {ρ:ay},gi T st.E frx.F->Sat (ab ρ T st.G++(ab ρ T frx.H++(gh EV++Φ))) w->Fits frx.n (az ρ T st.E frx.F) a->
  (∀x∈EV,yK X.P ops.toArray a x)->(∀f∈k,f∈EV.map (·.1))->ahu X ops frx T k st M=some r->
  ∃st' ρ',M st'=some r/\aS st.c ρ ρ'/\st.c<=st'.c/\gi T st'.E frx.F/\Fits frx.n (az ρ' T st'.E frx.F) a/\ab ρ' T frx.H=ab ρ T frx.H/\
   Sat (ab ρ' T st'.G++(ab ρ' T frx.H++(gh (EV.filter λx=> !(ey x.1 k))++Φ))) w
 |[],EV,st,ρ,ht,hs,hf,hC,_,h=>by
  refine ⟨st,ρ,h,.refl,cK _,ht,hf,rfl,?_⟩;have e:(EV.filter λx=> !(ey x.1 []))=EV:=by rw [List.filter_eq_self];intro x _;rfl
  rw [e];exact hs
 |f::k,EV,st,ρ,ht,hs,hf,hC,hin,h=>by
  unfold ahu at h;split at h
  .rename_i o ho;obtain ⟨m,h2⟩:=aI h;simp only [au,l9] at m;obtain ⟨x,hx,v⟩:=List.mem_map.1 (hin f (c8 ..));subst v;obtain ⟨i,g,L⟩:=List.append_of_mem hx;have l:ops.toArray[x.1]? =some o:=by simpa using ho
   have D:Sat (((ab ρ T st.G++ab ρ T frx.H)++gh i)++box x.2.1 x.2.2.1 x.2.2.2::(gh g++Φ)) w:=by
    have e:ab ρ T st.G++(ab ρ T frx.H++(gh EV++Φ))=((ab ρ T st.G++ab ρ T frx.H)++gh i)++box x.2.1 x.2.2.1 x.2.2.2::(gh g++Φ):=by rw [L];simp [gh]
    rw [<-e];exact hs
   have C:Sat ([]++box x.2.1 x.2.2.1 x.2.2.2::((ab ρ T st.G++ab ρ T frx.H)++(gh i++(gh g++Φ)))) w:=by have:=D.alU;simpa using this
   have B:Sat (ab ρ T st.G++(ab ρ T frx.H++(box x.2.1 x.2.2.1 x.2.2.2::(gh i++(gh g++Φ))))) w:=by have:=C.move;simpa using this
   have K:=hC x hx;obtain ⟨o2,d,w0,r1,r2,r3,r4,N,r6⟩:=id K;rw [l] at r1;cases r1;obtain ⟨b,st1,av,k1,k2,J,I,k5,k6,k7,Z⟩:=ap0 B (yK.same rfl K l hf) h2;have e1:az b T st1.E frx.F=(d,true,Iw o x.2.1)::az ρ T st.E frx.F:=by rw [I,xM,k5,k6,r2,aB.get_none];rfl
   have A:Sat (ab b T st1.G++(ab b T frx.H++(gh (EV.filter λy=> !(Nat.beq x.1 y.1))++Φ))) w:=by
    have e2:(EV.filter λy=> !(Nat.beq x.1 y.1))=(i++g).filter λy=> !(Nat.beq x.1 y.1):=by rw [L];simp
    rw [e2];have:Sat ((ab b T st1.G++ab b T frx.H)++(gh (i++g)++Φ)) w:=by
     have e3:gh (i++g)=gh i++gh g:=by simp [gh]
     rw [e3];simpa using Z
    have:=Ka (p:=λy=> !(Nat.beq x.1 y.1)) this;simpa using this
   have z:gi T st1.E frx.F:=by rw [I];exact ht.out m.1 none av
   obtain ⟨s,q,Y,W,V,U,S,Q,O⟩:=afm z A (by rw [e1];exact hf.lr N) (λy u=>hC y (List.mem_filter.1 u).1) (λf' j=>by obtain ⟨y,u,t⟩:=List.mem_map.1 (hin f' (cp _ j));subst t;refine List.mem_map.2 ⟨y,List.mem_filter.2 ⟨u,?_⟩,rfl⟩;rw [l9,qj];intro hb;have:=b0 hb;rw [<-this] at j;rw [dE.2 j] at m;cases m.2) k1
   refine ⟨s,q,Y,k2.trans W J,dx J V,U,S,Q.trans k7,?_⟩;have e4:((EV.filter λy=> !(Nat.beq x.1 y.1)).filter λy=> !(ey y.1 k))=EV.filter λy=> !(ey y.1 (x.1::k)):=by
    rw [List.filter_filter];congr 1
    funext y
    simp only [ey,Bool.not_or];exact Bool.and_comm ..
   rw [<-e4];exact O
  .cases h
theorem apa(hΓ:∀it∈X.Γ,it∈Φ)(htb:∀e∈tb,e.Ok X.P X.Γ)(htp:∀e∈tp,e.Ok X.P X.Γ):∀{S:OT} {EV:List vA} {A:List Row} {Pd:List yu} {T:aB} {st:aC} {ρ:ay} {w:World} {pend:fP},gi T st.E fr.F->sK ops fr.n T->FT T fr->VI ops S EV->agz st.c Pd->Sat (ab ρ T st.G++(ab ρ T (A++fr.H)++(gh EV++Φ))) w->
  HP ρ T fr A Pd pend w->tz X tb tp KP ops fr S A Pd T st K=some r->
  (∀st' ρ' w',aS st.c ρ ρ'->st.c<=st'.c->K st'=some r->Sat (ab ρ' [] st'.G++(ab ρ' [] fr.H++Φ)) w'->At Q .normal fr.n D (az ρ' [] st'.E fr.F) w')->
  (∀v st' ρ' w',aS st.c ρ ρ'->st.c<=st'.c->KP v st'=some r->Sat (ab ρ' [] st'.G++(ab ρ' [] fr.H++Φ)) w'->EI Q (kh (v.val ρ')) D w')->
  GS X.P σ ops.toArray Q fr.n D S EV pend (az ρ T st.E fr.F) w:=by
 intro S
 -- a loud operation, the rest by induction
 have loud:∀(rest:OT) (k mk:Nat),(∀{EV:List vA} {A:List Row} {Pd:List yu} {T:aB} {st:aC} {ρ:ay} {w:World} {pend:fP},gi T st.E fr.F->sK ops fr.n T->FT T fr->VI ops rest EV->agz st.c Pd->Sat (ab ρ T st.G++(ab ρ T (A++fr.H)++(gh EV++Φ))) w->
   HP ρ T fr A Pd pend w->tz X tb tp KP ops fr rest A Pd T st K=some r->
   (∀st' ρ' w',aS st.c ρ ρ'->st.c<=st'.c->K st'=some r->Sat (ab ρ' [] st'.G++(ab ρ' [] fr.H++Φ)) w'->At Q .normal fr.n D (az ρ' [] st'.E fr.F) w')->
   (∀v st' ρ' w',aS st.c ρ ρ'->st.c<=st'.c->KP v st'=some r->Sat (ab ρ' [] st'.G++(ab ρ' [] fr.H++Φ)) w'->EI Q (kh (v.val ρ')) D w')->
   GS X.P σ ops.toArray Q fr.n D rest EV pend (az ρ T st.E fr.F) w)->
   ∀{EV:List vA} {A:List Row} {Pd:List yu} {T:aB} {st:aC} {ρ:ay} {w:World} {pend:fP},gi T st.E fr.F->sK ops fr.n T->FT T fr->(∀x∈EV,tN ops.toArray k x.1=true)->VI ops rest EV->agz st.c Pd->Sat (ab ρ T st.G++(ab ρ T (A++fr.H)++(gh EV++Φ))) w->
   HP ρ T fr A Pd pend w->
   (match ops[k]? with
    |some o=>Pb X tb tp KP ops fr A T st o λT st'=>aD (NG st'.G (gE ops k Pd)) (tz X tb tp KP ops fr rest (bm (λr=> !(cX r)) st.G++A) (gE ops k Pd) T st' K) none
    |none=>none)=some r->
   (∀st' ρ' w',aS st.c ρ ρ'->st.c<=st'.c->K st'=some r->Sat (ab ρ' [] st'.G++(ab ρ' [] fr.H++Φ)) w'->At Q .normal fr.n D (az ρ' [] st'.E fr.F) w')->
   (∀v st' ρ' w',aS st.c ρ ρ'->st.c<=st'.c->KP v st'=some r->Sat (ab ρ' [] st'.G++(ab ρ' [] fr.H++Φ)) w'->EI Q (kh (v.val ρ')) D w')->
   GS X.P σ ops.toArray Q fr.n D (.l k mk rest) EV pend (az ρ T st.E fr.F) w:=by
  intro rest k mk ih EV A Pd T st ρ w pend h1 h2 hf hfk i C hs hp h next s;have V:∀it∈X.Γ,it∈gh EV++Φ:=λit bJ=>gy _ (hΓ it bJ);split at h
  .rename_i o ho;have hs1:=uC (A:=[]) (p:=cX) hs;refine alN (k:=k) (mk:=mk) (o:=o) (by simpa using ho) hfk rfl ?_;have fin:∀T' st' ρ' w',gi T' st'.E (sN fr A st).F->sK ops (sN fr A st).n T'->FT T' fr->aS (stM st).c ρ ρ'->(stM st).c<=st'.c->(aD (NG st'.G (gE ops k Pd)) (tz X tb tp KP ops fr rest (bm (λr=> !(cX r)) st.G++A) (gE ops k Pd) T' st' K) none)=some r->ab ρ' T' (sN fr A st).H=ab ρ T (sN fr A st).H->Sat (ab ρ' T' st'.G++(ab ρ' T' (sN fr A st).H++(gh EV++Φ))) w'->
     WL X.P σ ops.toArray (QKE X.P σ ops.toArray Q rest EV (still .any ops.toArray k pend)) fr.n D [] (az ρ' T' st'.E (sN fr A st).F) w':=by
    intro T' st' ρ' w' a1 a2 a3 a4 a5 a6 a7 a8;obtain ⟨a9,a10⟩:=aI a6;have e1:bm (λr=> !(cX r)) st.G++(A++fr.H)=(bm (λr=> !(cX r)) st.G++A)++fr.H:=by rw [cx]
    have hs8:Sat (ab ρ' T' st'.G++(ab ρ' T' ((bm (λr=> !(cX r)) st.G++A)++fr.H)++(gh EV++Φ))) w':=by rw [<-e1];exact a8
    have conv:∀z,(∃y,Sat (ab ρ' T' ((bm (λr=> !(cX r)) st.G++A)++fr.H)++y) z)->∃y,Sat (ab ρ T (A++fr.H)++y) z:=λz hw=>by
     obtain ⟨y,O⟩:=hw;refine ⟨y,?_⟩;rw [<-e1] at O;have U:Sat (ab ρ T (bm (λr=> !(cX r)) st.G++(A++fr.H))++y) z:=by rw [<-a7];exact O
     rw [bg,cx] at U;exact U.Bz
    have mem:∀p,p∈still .any ops.toArray k pend->p∈pend/\∀x,x∈Pd->x.1=p.1->x∈gE ops k Pd:=λp R=>by unfold still at R;rw [List.mem_filter] at R;exact ⟨R.1,λx hx he=>yr.2 ⟨hx,by rw [he];simpa using R.2⟩⟩
    have hBF:=acS (B:=ab ρ' T' ((bm (λr=> !(cX r)) st.G++A)++fr.H)++(gh EV++Φ)) hs8 a9;have HP':HP ρ' T' fr (bm (λr=> !(cX r)) st.G++A) (gE ops k Pd) (still .any ops.toArray k pend) w':=λp R z hw hB=>by obtain ⟨m1,m2⟩:=mem p R;exact hp p m1 z (conv z hw) (λx hx he=>(hB x (m2 x hx he) he).elim (λh=> .inl ((EA a4 (C x hx)).1 h)) (λh=>by have:=(hBF x (m2 x hx he)).1;rw [h.1] at this;cases this))
    refine cj (arJ (adQ λp R=>HP' p R w' ⟨gh EV++Φ,hs8.Bz⟩ (λx hx _=> .inl (hBF x hx))) ?_);exact ih a1 a2 a3 i (λx hx=>⟨gr (C x (yr.1 hx).1).1 a5,λu hu=>gr ((C x (yr.1 hx).1).2 u hu) a5⟩) hs8 HP' a10 (λI M z b1 b2 b3 b4=>next I M z (a4.trans b1 a5) (dx a5 b2) b3 b4) (λv I M z b1 b2 b3 b4=>s v I M z (a4.trans b1 a5) (dx a5 b2) b3 b4)
   unfold Pb at h;split at h
   .rename_i q hq;subst h;refine aow (fr:=sN fr A st) (st:=stM st) h1 hs1 V htp hq (λst' ρ' w' a1 a4 a5 a6 a7 a8=>fin T st' ρ' w' a1 h2 hf a4 a5 a6 a7 a8) (λlb v st' ρ' w' a1 a2 a3 ae1 ae2 a4=>?_);cases lb with
    |true=>cases a3
    |false=>
    have a4':Sat (ab ρ' T ({ st' with G:=st'.G++(bm (λr=> !(cX r)) st.G++A) }:aC).G++(ab ρ' T fr.H++(gh EV++Φ))) w':=by
     have e2:(sN fr A st).H=(bm (λr=> !(cX r)) st.G++A)++fr.H:=by rw [cx]
     rw [e2,bg,cx] at a4;show Sat (ab ρ' T (st'.G++(bm (λr=> !(cX r)) st.G++A))++_) w';rw [bg,cx];exact a4
    obtain ⟨I,k1,Y,_,L⟩:=afb (fr:=fr) (KP:=λ_=>KP) (b:=false) hf a3 a4';rw [<-cx] at L;replace L:=RC L;rw [cx] at L;have k2':I.c=st'.c:=Y;have:=s v I ρ' w' a1 (by rw [k2'];exact a2) k1 L;exact Zs this
   .exact abA (fr:=sN fr A st) (st:=stM st) (fr0:=fr) (K:=λT st'=>aD (NG st'.G (gE ops k Pd)) (tz X tb tp KP ops fr rest (bm (λr=> !(cX r)) st.G++A) (gE ops k Pd) T st' K) none) h1 h2 rfl (λr hr=>gy _ (gy _ hr)) hf hs1 V htb h fin
  .cases h
 induction S with
 |nil=>
  intro EV A Pd T st ρ w pend h1 h2 hf i C hs hp h next s;have V:∀it∈X.Γ,it∈gh EV++Φ:=λit bJ=>gy _ (hΓ it bJ);unfold tz at h;obtain ⟨h3,h4⟩:=aI h;have hs':Sat (ab ρ T ({ st with G:=st.G++A }:aC).G++(ab ρ T fr.H++(gh EV++Φ))) w:=by show Sat (ab ρ T (st.G++A)++_) w;rw [bg,cx];rw [bg,cx] at hs;exact hs
  obtain ⟨k1,Y,L⟩:=KB h3 hf hs';rw [<-cx] at L;replace L:=RC L;rw [cx] at L;exact apy ((next _ ρ w .refl (by rw [k1];exact cK _) h4 L).p6 _ Y)
 |q k m rest ih=>
  intro EV A Pd T st ρ w pend h1 h2 hf i C hs hp h next s;have hevr:VI ops rest EV:=λx hx=>⟨λj hj=>(i x hx).1 j (cp _ hj),(i x hx).2⟩;have V:∀it∈X.Γ,it∈gh EV++Φ:=λit bJ=>gy _ (hΓ it bJ);unfold tz at h;split at h
  .rename_i o ho;have hs1:=uC (A:=[]) (p:=cX) hs;obtain ⟨T',g,hk,Z⟩:=abk (ρ:=ρ) (fr0:=fr) (fr:=sN fr A st) (st:=stM st) h1 h2 rfl (λr hr=>gy _ (gy _ hr)) hf h;have hs':Sat (ab ρ T' (stM st).G++(ab ρ T' (sN fr A st).H++(gh EV++Φ))) w:=by rw [Z.eg,Z.eh];exact hs1
   have he:az ρ T st.E fr.F=az ρ T' st.E fr.F:=by have e1:=Z.ee;have e2:=Z.ef;rw [az,az,e1,e2]
   rw [he];have e1:bm (λr=> !(cX r)) st.G++(A++fr.H)=(bm (λr=> !(cX r)) st.G++A)++fr.H:=by rw [cx]
   -- from what stands then to what stands now
   have conv0:∀z y,Sat (ab ρ T' (bm (λr=> !(cX r)) st.G++(A++fr.H))++y) z->∃y,Sat (ab ρ T (A++fr.H)++y) z:=λz y O=>by
    refine ⟨y,?_⟩;have U:Sat (ab ρ T (bm (λr=> !(cX r)) st.G++(A++fr.H))++y) z:=by rw [<-Z.eh];exact O
    rw [bg,cx] at U;exact U.Bz
   split at hk
   .rename_i q hq;subst hk;obtain ⟨v,ρ',st',av,Rq,p,k1,Y,L,k4,k5,k6,k7,k8,k9,k10,k11,k12⟩:=amZ (fr:=sN fr A st) (st:=stM st) hs' hq;have e2:Rq++(bm (λr=> !(cX r)) st.G++(A++fr.H))=(Rq++(bm (λr=> !(cX r)) st.G++A))++fr.H:=by simp
    refine Ol (fr1:=sN fr A st) (st1:=stM st) (J:=BF ρ' p) rfl Z ho (λx hx=>(i x hx).1 k (c8 ..)) k10 k12 ?_;have:=ih (A:=Rq++(bm (λr=> !(cX r)) st.G++A)) (Pd:=p::Pd) (T:=T') (st:=st') (ρ:=ρ') (w:=w) (pend:=(k,BF ρ' p)::pend) (by rw [k4];exact Z.t1.out Z.ak g av) Z.t2 Z.ft hevr (λx hx=>?_) (by rw [<-e2];exact k8) (λq W z hw hB=>?_) k1 (λI M z b1 b2 b3 b4=>next I M z (Y.trans b1 L) (dx L b2) b3 b4) (λv I M z b1 b2 b3 b4=>s v I M z (Y.trans b1 L) (dx L b2) b3 b4)
    .rw [k4,xM,k5,k6] at this;exact this
    .rcases List.mem_cons.1 hx with rfl|hx
     .exact k11
     .exact ⟨gr (C x hx).1 L,λu hu=>gr ((C x hx).2 u hu) L⟩
    .rcases List.mem_cons.1 W with rfl|W
     .exact (hB p (c8 ..) k9).elim id (λh=>by have:=k10.1;rw [h.1] at this;cases this)
     .obtain ⟨y,O⟩:=hw;rw [<-e2,bg,cx] at O;have hΦ1:=O.Bz;have U:Sat (ab ρ T' (bm (λr=> !(cX r)) st.G++(A++fr.H))++y) z:=by rw [<-k7];exact hΦ1
      exact hp q W z (conv0 z y U) (λx hx he=>(hB x (cp _ hx) he).imp (EA Y (C x hx)).1 id)
   .split at hk
    .rename_i p hpo;obtain ⟨lw,hk⟩:=aI hk;obtain ⟨dst,op,ty,pos,af,gd⟩:=o;unfold aok at hpo;split at hpo
     .rename_i t x d hop hdst;simp only at hop hdst;subst hop hdst;split at hpo
      .rename_i q off hx;split at hpo
       .cases hpo
       split at hpo
       .rename_i sr hkn;cases hpo;obtain ⟨v,hr,hO⟩:=XO (ty:=ty) (pos:=pos) (af:=af) (gd:=gd) lw hs' hx hk;obtain ⟨ρ',st',av,k1,Y,L,k4,k5,k6,k7,k8⟩:=hO;have hq:q<st.c:=by obtain ⟨_,_,l3,l4⟩:=aC.cJ.1 lw;obtain ⟨f1,f2⟩:=bY hkn;exact aqJ f1 f2 l3 l4
        refine Ol (fr1:=sN fr A st) (st1:=stM st) (J:=λw'=>Ext w w') (v:=v) rfl Z ho (λx hx=>(i x hx).1 k (c8 ..)) (Ext.refl w) (λw' hw'=>hr w' hw') ?_;have:=ih (A:=bm (λr=> !(cX r)) st.G++A) (Pd:=(k,q,1000000000,[])::Pd) (T:=T') (st:=st') (ρ:=ρ') (w:=w) (pend:=(k,λw'=>Ext w w')::pend) (by rw [k4];exact Z.t1.out Z.ak g av) Z.t2 Z.ft hevr (λx hx=>?_) (by rw [<-e1];exact k8) (λq' W z hw hB=>?_) k1 (λI M z b1 b2 b3 b4=>next I M z (Y.trans b1 L) (dx L b2) b3 b4) (λv I M z b1 b2 b3 b4=>s v I M z (Y.trans b1 L) (dx L b2) b3 b4)
        .rw [k4,xM,k5,k6] at this;exact this
        .rcases List.mem_cons.1 hx with rfl|hx
         .exact ⟨gr hq L,λu hu=>by cases hu⟩
         .exact ⟨gr (C x hx).1 L,λu hu=>gr ((C x hx).2 u hu) L⟩
        .obtain ⟨y,O⟩:=hw;rw [<-e1] at O;have hΦ1:Sat (ab ρ T' (bm (λr=> !(cX r)) st.G++(A++fr.H))++y) z:=by rw [<-k7];exact O
         rcases List.mem_cons.1 W with rfl|W
         .exact (hB (k,q,1000000000,[]) (c8 ..) rfl).elim (λh=>by have:=h.1;simp at this) (λh=>h.2)
         .exact hp q' W z (conv0 z y hΦ1) (λx hx he=>(hB x (cp _ hx) he).imp (EA Y (C x hx)).1 id)
       .cases hpo
      .cases hpo
     .cases hpo
    .obtain ⟨v,J,hJ,hr,hO⟩:=ajm (fr:=sN fr A st) (st:=stM st) V Z.t1 hs' hk;obtain ⟨ρ',st',av,k1,Y,L,k4,k5,k6,k7,k8⟩:=hO;refine Ol (fr1:=sN fr A st) (st1:=stM st) rfl Z ho (λx hx=>(i x hx).1 k (c8 ..)) (hJ w ⟨gh EV++Φ,hs'.Bz⟩) hr ?_;have:=ih (A:=bm (λr=> !(cX r)) st.G++A) (Pd:=Pd) (T:=T') (st:=st') (ρ:=ρ') (w:=w) (pend:=(k,J)::pend) (by rw [k4];exact Z.t1.out Z.ak g av) Z.t2 Z.ft hevr (λx hx=>⟨gr (C x hx).1 L,λu hu=>gr ((C x hx).2 u hu) L⟩) (by rw [<-e1];exact k8) (λq W z hw hB=>?_) k1 (λI M z b1 b2 b3 b4=>next I M z (Y.trans b1 L) (dx L b2) b3 b4) (λv I M z b1 b2 b3 b4=>s v I M z (Y.trans b1 L) (dx L b2) b3 b4)
     .rw [k4,xM,k5,k6] at this;exact this
     .obtain ⟨y,O⟩:=hw;rw [<-e1] at O;have hΦ1:Sat (ab ρ T' (bm (λr=> !(cX r)) st.G++(A++fr.H))++y) z:=by rw [<-k7];exact O
      rcases List.mem_cons.1 W with rfl|W
      .exact hJ z ⟨y,hΦ1⟩
      .exact hp q W z (conv0 z y hΦ1) (λx hx he=>(hB x hx he).imp (EA Y (C x hx)).1 id)
  .cases h
 |l k m rest ih=>
  intro EV A Pd T st ρ w pend h1 h2 hf i C hs hp h next s;have V:∀it∈X.Γ,it∈gh EV++Φ:=λit bJ=>gy _ (hΓ it bJ);unfold tz at h;exact loud rest k m (λ{EV A Pd T st ρ w pend}=>ih) h1 h2 hf (λx hx=>(i x hx).1 k (c8 ..)) (λx hx=>⟨λj hj=>(i x hx).1 j (cp _ hj),(i x hx).2⟩) C hs hp h next s
 |l2 m k1 r1 Y r2 ih1 ih2=>
  intro EV A Pd T st ρ w pend h1 h2 hf i C hs hp h next s;have V:∀it∈X.Γ,it∈gh EV++Φ:=λit bJ=>gy _ (hΓ it bJ);unfold tz at h;obtain ⟨h3,h4⟩:=Ya h;exact aqX (loud r1 k1 m (λ{EV A Pd T st ρ w pend}=>ih1) h1 h2 hf (λx hx=>(i x hx).1 k1 (c8 ..)) (λx hx=>⟨λj hj=>(i x hx).1 j (cp _ (cp _ (qA _ hj))),λj hj=>(i x hx).2 j (qA _ hj)⟩) C hs hp h3 next s)
   (loud r2 Y m (λ{EV A Pd T st ρ w pend}=>ih2) h1 h2 hf (λx hx=>(i x hx).1 Y (cp _ (c8 ..))) (λx hx=>⟨λj hj=>(i x hx).1 j (cp _ (cp _ (gy _ hj))),λj hj=>(i x hx).2 j (gy _ hj)⟩) C hs hp h4 next s)
 |f k m fl fs rest ih=>
  intro EV A Pd T st ρ w₀ pend h1 h2 hf i C hs hp h next s;unfold tz at h;obtain ⟨hc,h⟩:=aI h;simp only [au,qo] at hc;obtain ⟨hfl,hpd0⟩:=hc;have hrun:∀f∈fl,∃o p d,ops[f]? =some o/\J7 X T (frA fr A) st o=some p/\o.dst=some d/\km o=true/\Nat.blt d fr.n=true/\ez st.E fr.F d=none/\(∀t∈o.looksAt ops.toArray,t≠d)/\
    (∀j∈k::rest.ops,tN ops.toArray j f=true)/\∀j∈fl++rest.SU,j=f\/tN ops.toArray j f=true:=λf hf=>by
   have:=hfl f hf;unfold arf at this;simp only [au,qo,e9] at this;obtain ⟨⟨g1,g2⟩,g3⟩:=this;split at g1
   .rename_i o ho;split at g1
    .rename_i p d hp hd;simp only [au,qo] at g1;obtain ⟨⟨⟨g4,g5⟩,g6⟩,g7⟩:=g1;refine ⟨o,p,d,ho,hp,hd,g4,g5,?_,λt ht hc=>?_,g2,λj hj=>(g3 j hj).imp b0 id⟩
     .split at g6
      .cases g6
      .assumption
     .have:=g7 t ht;rw [hc] at this;simp at this
    .cases g1
   .cases g1
  have nxp:∀(EV:List vA) (a:Act) (w:World),Ext w₀ w->VI ops (.f k m fl fs rest) EV->Sat (ab ρ T st.G++(ab ρ T (A++fr.H)++(gh EV++Φ))) w->Fits fr.n (az ρ T st.E fr.F) a->a.defers=D->(∀x∈EV,yK X.P ops.toArray a x)->
    (∀f∈fs,f∈EV.map (·.1))->wpOpIn (FW σ) 0 X.P ops.toArray (QN Q) k (λa' w'=>jl (still .any ops.toArray k pend) w'/\lY X.P σ ops.toArray (QN Q) rest ((EV.map (·.1)).filter λf=> !(ey f fs)) (still .any ops.toArray k pend) a' w') a w:=by
   intro EV a w hx0 i hs N hD hC hall;obtain ⟨st1,ρ1,k1,Y,L,k4,k5,k6,k7⟩:=afm (frx:=frA fr A) h1 hs N hC hall h;have hev':∀x∈EV.filter (λx=> !(ey x.1 fs)),(∀j∈k::rest.ops,tN ops.toArray j x.1=true)/\∀j∈rest.SU,j=x.1\/tN ops.toArray j x.1=true:=λx hx=>
    ⟨(i x (List.mem_filter.1 hx).1).1,λj hj=>(i x (List.mem_filter.1 hx).1).2 j (gy _ hj)⟩
   have HP':HP ρ1 T fr A Pd pend w:=λp R z hw hB=>by have k6:ab ρ1 T (A++fr.H)=ab ρ T (A++fr.H):=k6;rw [k6] at hw;exact hp p R z hw (λx hx he=>(hB x hx he).imp (EA Y (C x hx)).1 (λh=>⟨h.1,hx0.trans h.2⟩))
   have hl:=loud rest k 0 (λ{EV A Pd T st ρ w pend}=>ih) (EV:=EV.filter λx=> !(ey x.1 fs)) (pend:=pend) k4 h2 hf (λx hx=>(hev' x hx).1 k (c8 ..)) (λx hx=>⟨λj hj=>(hev' x hx).1 j (cp _ hj),(hev' x hx).2⟩)
    (λx hx=>⟨gr (C x hx).1 L,λu hu=>gr ((C x hx).2 u hu) L⟩) k7 HP' k1 (λI M z b1 b2 b3 b4=>next I M z (Y.trans b1 L) (dx L b2) b3 b4) (λv I M z b1 b2 b3 b4=>s v I M z (Y.trans b1 L) (dx L b2) b3 b4)
   have:=hl a k5 hD (λx hx=>hC x (List.mem_filter.1 hx).1);simp only [lY] at this;have e:(EV.map (·.1)).filter (λf=> !(ey f fs))=(EV.filter λx=> !(ey x.1 fs)).map (·.1):=by rw [List.filter_map];rfl
   rw [e];split at this
   .exact this.elim
   .exact this
  have main:∀(nf:Nat) (EV:List vA) (a:Act) (w:World),Ext w₀ w->VI ops (.f k m fl fs rest) EV->Sat (ab ρ T st.G++(ab ρ T (A++fr.H)++(gh EV++Φ))) w->Fits fr.n (az ρ T st.E fr.F) a->a.defers=D->(∀x∈EV,yK X.P ops.toArray a x)->
    wpE X.P σ ops.toArray (QN Q) fl pend (λea a w=>(∀f∈fs,f∈ea)->wpOpIn (FW σ) 0 X.P ops.toArray (QN Q) k (λa' w'=>jl (still .any ops.toArray k pend) w'/\lY X.P σ ops.toArray (QN Q) rest (ea.filter λf=> !(ey f fs)) (still .any ops.toArray k pend) a' w') a w) nf (EV.map (·.1)) a w:=by
   intro nf
   induction nf with
   |zero=>exact λEV a w hx0 i hs N hD hC=>nxp EV a w hx0 i hs N hD hC
   |succ nf ihf=>
    intro EV a w hx0 i hs N hD hC;refine ⟨nxp EV a w hx0 i hs N hD hC,λf hf' hm=>?_⟩;obtain ⟨o,p,d,r1,r2,r3,r4,r5,r6,r7,r8,r9⟩:=hrun f hf';obtain ⟨e,vs,cs⟩:=p;obtain ⟨gn,ns⟩:=apN r2;have ho':ops.toArray[f]? =some o:=by simpa using r1
    have hR:=aae (ρ:=ρ) r2 w _ a N;have hw:Region.wanted o (yielded ops.toArray a.tmps)=true:=by simp [Region.wanted,gn]
    have hdn:look (az ρ T st.E fr.F) d=none:=by rw [ja,r6];rfl
    have hne:∀x∈EV,f≠x.1:=λx hx hc=>by have:ey f (EV.map (·.1))=true:=dE.2 (List.mem_map.2 ⟨x,hx,hc.symm⟩);rw [hm] at this;cases this
    have hs1:Sat (box w.heap.size e (AV.al ρ cs)::(ab ρ T st.G++(ab ρ T (A++fr.H)++(gh EV++Φ)))) (w.alloc (.cells (AV.al ρ cs).toArray e)):=hs.push (gD _ _) (λb hb=>by
     have:b=w.heap.size:=by simpa [box] using hb
     subst this;simp) (λ_ _=>heap_alloc_new w _)
    have hs2:Sat (ab ρ T st.G++(ab ρ T (A++fr.H)++(gh ((f,w.heap.size,e,AV.al ρ cs)::EV)++Φ))) (w.alloc (.cells (AV.al ρ cs).toArray e)):=by
     have h0:Sat ([]++box w.heap.size e (AV.al ρ cs)::((ab ρ T st.G++ab ρ T (A++fr.H))++(gh EV++Φ))) (w.alloc (.cells (AV.al ρ cs).toArray e)):=by rw [cx];exact hs1
     have:=h0.move;rw [p5,cx] at this;exact this
    have hfit':=N.ata hdn (Iw o w.heap.size);have hflo:∀x∈(f,w.heap.size,e,AV.al ρ cs)::EV,yK X.P ops.toArray (a.put o.dst (Iw o w.heap.size)) x:=λx hx=>by
     rcases List.mem_cons.1 hx with rfl|hx
     .refine ⟨o,d,w,ho',r3,ns,rfl,?_,?_⟩
      .rw [r3];have hlt:d<a.tmps.size:=by rw [N.size];simpa using r5
       show (a.tmps.setIfInBounds d _).getD d undef=_;simp [Array.getD,hlt]
      .rw [execOp_put (ops:=ops.toArray) o ns a o.dst _ (λt ht hc=>r7 t hc (by rw [r3] at ht;exact (gj ht).symm))];exact hR
     .refine (hC x hx).put ho' ?_;rcases (i x hx).2 f (qA _ hf') with h9|h9
      .exact absurd h9 (hne x hx)
      .exact h9
    unfold wpOpIn;simp only [ho',hw,qU];refine ot r4 ?_;rw [hR,Oper.uponIn_value];refine ⟨adQ λp R=>hp p R _ ⟨gh ((f,w.heap.size,e,AV.al ρ cs)::EV)++Φ,hs2.Bz⟩ (λx hx _=>(ajO hs2 hpd0 x hx).imp id (λh=>⟨h,hx0.trans (gD _ _)⟩)),?_⟩;have:=ihf ((f,w.heap.size,e,AV.al ρ cs)::EV) (a.put o.dst (Iw o w.heap.size)) _ (hx0.trans (gD _ _)) (λx hx=>?_) hs2 (by rw [r3];exact hfit') (by rw [kE];exact hD) hflo
    .exact this
    .rcases List.mem_cons.1 hx with rfl|hx
     .exact ⟨r8,r9⟩
     .exact i x hx
  intro a N hD hC;simp only [lY];exact main fl.length EV a w₀ (Ext.refl _) i hs N hD hC
end
def cO:Code->Nat
 | .region _ ops _=>ops.toList.foldl (λm o=>match o.dst with|some d=>Nat.lor m (Nat.shiftLeft 1 d)|none=>m) 0
 | .seq a b=>Nat.lor (cO a) (cO b)
 | .cond _ a b=>Nat.lor (cO a) (cO b)
 | .block _ c=>cO c
 | .loop c=>cO c
 | .scope c=>cO c
 | .rangeFunc _ ps a b=>Nat.lor (ps.toList.foldl (λm d=>Nat.lor m (Nat.shiftLeft 1 d)) 0) (Nat.lor (cO a) (cO b))
 |_=>0
def QD(t:Nat):List (Bool×Nat×Pt)->Bool
 |[]=>false
 |x::l=>(!x.1&&Nat.beq x.2.1 t)||QD t l
def Dw(m:Nat)(vs:List (Bool×Nat×Pt))(t:Nat):Bool:= !(Nat.testBit m t)&& !(QD t vs)
def sw(m:Nat)(vs:List (Bool×Nat×Pt)):aF->aF
 |[]=>[]
 |x::E=>aD ( Dw m vs x.1 ) ( x::sw m vs E ) ( sw m vs E )
def tE(m:Nat)(vs:List (Bool×Nat×Pt)):aF->aF
 |[]=>[]
 |x::E=>aD ( Dw m vs x.1 ) ( tE m vs E ) ( x::tE m vs E )
theorem XN{m:Nat}{vs:List (Bool×Nat×Pt)}{t:Nat}:{E:aF}->bC E t=aD (Dw m vs t) (bC (sw m vs E) t) (bC (tE m vs E) t)/\bC (aD (Dw m vs t) (tE m vs E) (sw m vs E)) t=none
 |[]=>by cases Dw m vs t <;> exact ⟨rfl,rfl⟩
 |(t',g,v)::E=>by obtain ⟨b,a⟩:=XN (m:=m) (vs:=vs) (t:=t) (E:=E);grind [Nat.beq,jJ,sw,tE,Dw,Nat.eq_of_beq_eq_true,oR]
theorem ahI{m:Nat}{vs:List (Bool×Nat×Pt)}{t:Nat}{E F:aF}:ez (tE m vs E) (sw m vs E++F) t=ez E F t:=by
 have app:∀A B:aF,bC (A++B) t=match bC A t with|some x=>some x|none=>bC B t:=λA B=>by
  induction A with
  |nil=>rfl
  |cons x A ih=>
   obtain ⟨t',g,v⟩:=x;cases hb:Nat.beq t' t
   .grind [jJ]
   grind [oR]
 obtain ⟨b,a⟩:=XN (m:=m) (vs:=vs) (t:=t) (E:=E);grind [ez,Dw,bC,sw,tE]
theorem ajB{ρ:ay}{E E' F a:aF}(h:∀t,ez E' a t=ez E F t):lR (az ρ [] E' a) (az ρ [] E F):=λt p hp=>by grind [ja]
mutual
def AV.ids:AV->zm
 | .ptr id _|.sl id|.adr id _|.mp id|.nv id|.sfp id _=>[id]
 | .agg l|.tuple l=>AV.acC l
 | .fn _ a b=>AV.acC a++AV.acC b
 | .ifc _ v=>v.ids
 |_=>[]
def AV.acC:List AV->zm
 |[]=>[]
 |v::l=>v.ids++AV.acC l
end
def alk(res:AV->AV)(ids:zm):List Row->zm
 |[]=>[]
 |r::G=>(match r with
  | .box j _ vs=>aD (xg j ids) (AV.acC (vs.map res)) []
  |_=>[])++alk res ids G
def reach(st:aC)(fr:Fr)(ts:zm):zm:=
 let a:=(ts.map λt=>match ez st.E fr.F t with
  |some (_,v)=>v.ids
  |none=>[]).flatten
 let b:=a++alk (yW st.G fr.H) a st.G
 b++alk (yW st.G fr.H) b st.G
def ie(ids:zm)(r:Row):Bool:=xg r.id ids
def oV(ids:zm)(c:Nat):List Row->List Row×List Row×Nat
 |[]=>([],[],c)
 |r::G=>match r with
  | .box j t vs=>aD ( xg j ids ) ( match oJ c vs with
   |(cs,R,c)=>match oV ids c G with
    |(G,R',c)=>(.box j t cs::G,R++R',c) )<|match oV ids c G with
   |(G,R',c)=>(.box j t vs::G,R',c)
  |r=>match oV ids c G with
   |(G,R',c)=>(r::G,R',c)
def kc:List Row->List (List AV)
 |[]=>[]
 |r::G=>(match r with
  | .box _ _ cs=>cs::kc G
  |_=>kc G)
structure aod(c:Nat)(G:List Row)(ρ ρ':ay)(x:List Row×List Row×Nat):Prop where
 ag:aS c ρ ρ'
 le:c<=x.2.2
 eq:ab ρ' [] x.1=ab ρ [] G
 lw:bD x.2.2 x.1=true
 rl:bD x.2.2 x.2.1=true
 rp:∀r∈x.2.1,(r.item ρ' []).cN=true/\∀M w,(r.item ρ' []).P M w
 bx:(kc x.1).map (AV.al ρ')=(kc G).map (AV.al ρ)
theorem M8{ρ ρ':ay}{c:Nat}(ha:aS c ρ ρ'):{G:List Row}->bD c G=true->(kc G).map (AV.al ρ')=(kc G).map (AV.al ρ)
 |[],_=>rfl
 |r::G,h=>by
  simp [bD,au] at h;have ih:=M8 ha h.2;cases r with
  |box j t cs=>
   have a:=h.1;simp [Row.low] at a;grind [AV.al,kc,AV.cd]
  |_=>exact ih
theorem Kz{ids:zm}:{G:List Row}->{c:Nat}->{ρ:ay}->bD c G=true->∃ρ',aod c G ρ ρ' (oV ids c G)
 |[],c,ρ,h=>⟨ρ,.refl,cK _,rfl,rfl,rfl,(λ_ h=>by cases h),rfl⟩
 |r::G,c,ρ,h=>by
  simp [bD,au] at h;have g:(∀t cs j,r= .box j t cs->xg j ids=false)->oV ids c (r::G)=(match oV ids c G with|(G,o,c)=>(r::G,o,c))->∃ρ',aod c (r::G) ρ ρ' (oV ids c (r::G)):=λ_ e=>by
   obtain ⟨ρ',l⟩:=Kz h.2;rw [e];generalize oV ids c G=L at l;obtain ⟨s,R,y⟩:=L;refine ⟨ρ',l.ag,l.le,?_,?_,l.rl,l.rp,?_⟩
   .have:=l.eq;simp only [ab,fb] at this ⊢;rw [this,Row.C0 l.ag h.1]
   .simp [bD,au];exact ⟨Row.gX l.le h.1,l.lw⟩
   .have hb  :=l.bx;cases r with
    |box j t cs=>
     have u:=h.1;simp [Row.low,au] at u;show AV.al ρ' cs::(kc s).map (AV.al ρ')=AV.al ρ cs::(kc G).map (AV.al ρ);rw [hb,AV.cd l.ag _ u.2]
    |_=>exact hb
  cases r with
  |box j t vs=>
   cases hm:xg j ids
   .grind [oV]
   .have b:=h.1;simp [Row.low,au,j5] at b;obtain ⟨p,l1⟩:=JX (ρ:=ρ) b.2;have e:oV ids c (.box j t vs::G)=(match oJ c vs with
     |(cs,R,c)=>match oV ids c G with
      |(G,o,c)=>(.box j t cs::G,R++o,c)):=by simp [oV,hm]
    rw [e];generalize oJ c vs=L at l1;obtain ⟨cs,R,c1⟩:=L;obtain ⟨f,a⟩:=Kz (ρ:=p) (BX l1.le h.2);dsimp only;generalize oV ids c1 G=L at a;obtain ⟨s,o,w⟩:=L;have m:c<=c1:=l1.le;have d:c1<=w:=a.le;have n  :=l1.ag.trans a.ag l1.le;refine ⟨f,n,dx m d,?_,?_,wh (BX d l1.rl) a.rl,?_,?_⟩
    .have v:=a.eq;simp [ab,fb,Row.item] at v ⊢;have i  :=l1.lw;have k  :=l1.eq;rw [v,n _ b.1,AV.cd a.ag _ i,k];have:=aZ (T:=[]) l1.ag h.2;grind
    .simp [bD,Row.low,au,j5];exact ⟨⟨by omega,AV.mK d _ l1.lw⟩,a.lw⟩
    .intro r b;rcases List.mem_append.1 b with b|b
     .have q  :=by
       have key:∀{R:List Row},bD c1 R=true->∀r∈R,r.low c1=true:=λ{R}=>by
        induction R with
        |nil=>intro _ r h;cases h
        |cons x R ih=>
         intro h r b;simp [bD] at h;grind
       exact key l1.rl r b
      rw [Row.C0 a.ag q];exact l1.rp r b
     .exact a.rp r b
    .have hb  :=a.bx;show AV.al f cs::(kc s).map (AV.al f)=AV.al ρ vs::(kc G).map (AV.al ρ);have i  :=l1.lw;have k  :=l1.eq;rw [hb,AV.cd a.ag _ i,k,M8 l1.ag h.2]
  |_=>exact g (λt cs j h=>by cases h) rfl
variable {G : List Row}
def BO(E F:aF)(t:Nat):Option AV:=match ez E F t with
 |some (none,v)=>some v
 |_=>none
theorem Is{ρ:ay}{E F:aF}{t:Nat}{v:AV}(h:BO E F t=some v):look (az ρ [] E F) t=some (true,v.val ρ):=by
 unfold BO at h;split at h
 next b a=>cases h;rw [ja,a];simp
 .cases h
def Ua(st:aC)(fr:Fr):List (Bool×Nat×Pt)->zm
 |[]=>[]
 |x::l=>(aD x.1 (match ez st.E fr.F x.2.1 with
  |some (_,v)=>v.ids
  |none=>[]) [])++Ua st fr l
mutual
def anQ(G H:List Row):Pt->AV->zm
 | .own _ _ _,v=>v.ids
 | .mp _ _ _,v=>v.ids
 | .it,v=>v.ids
 | .bx _ _ _ vs,v=>(match v with
  | .ptr j _=>j::O3 G H vs (cellsOf G H j)
  |_=>[])
 | .agg l,v=>(match v with
  | .agg vs=>O3 G H l vs
  |_=>[])
 | .cU l,v=>(match v with
  | .tuple vs=>O3 G H l vs
  |_=>[])
 | .fn _ a b,v=>(match v with
  | .fn _ a' b'=>O3 G H a a'++O3 G H b b'
  |_=>[])
 | .ifc _ p,v=>(match v with
  | .ifc _ u=>anQ G H p u
  |_=>[])
 | .dat _ o,v=>aD (o.all (λx=>x.isNone)) [] v.ids
 |_,_=>[]
def O3(G H:List Row):List Pt->List AV->zm
 |[],_=>[]
 |p::l,vs=>(match vs with
  |v::vs=>anQ G H p (yW G H v)++O3 G H l vs
  |[]=>[])
end
def amR(st:aC)(fr:Fr):List (Bool×Nat×Pt)->zm
 |[]=>[]
 |x::l=>(match ez st.E fr.F x.2.1 with
  |some (_,v)=>anQ st.G fr.H x.2.2 (yW st.G fr.H v)
  |none=>[])++amR st fr l
structure En where
 fr:Fr
 E:aF
 G:List Row
 Et:aF
 Gt:List Row
 c:Nat
 fix:Nat->jN
def alj(E F:aF)(G:List Row)(t:Nat):jN:=match ez E F t with
 |some (_,v)=>some (v,match v with
  | .ptr j _=>cellsOf G [] j
  |_=>[])
 |none=>none
def enter(fr:Fr)(tm:Tm)(m:Nat)(st:aC):En:=
 let ids:=amR st fr tm.vs++reach st fr tm.th
 match oV (Ua st fr tm.vs) st.c (bm (ie ids) st.G) with
 |(Gt,R,c)=>⟨⟨sw m tm.vs st.E++fr.F,(R++bm (λr=> !(ie ids r)) st.G)++fr.H,fr.n⟩,sw m tm.vs st.E,R++bm (λr=> !(ie ids r)) st.G,tE m tm.vs st.E,Gt,c,alj st.E fr.F Gt⟩
structure atL(fr:Fr)(st:aC)(Φ:Ctx)(w:World)(ρ ρ':ay)(en:En):Prop where
 ag:aS st.c ρ ρ'
 le:st.c<=en.c
 ff:en.fr.F=en.E++fr.F
 fh:en.fr.H=en.G++fr.H
 fn:en.fr.n=fr.n
 lF:aF.low en.c en.fr.F=true
 lH:bD en.c en.fr.H=true
 sub:lR (az ρ' [] en.Et en.fr.F) (az ρ [] st.E fr.F)
 sat:Sat (ab ρ' [] en.Gt++(ab ρ' [] en.fr.H++Φ)) w
 fx:∀t q,en.fix t=some q->q.1.low en.c=true/\AV.cq en.c q.2=true
theorem aF.gX{c d:Nat}(a:c<=d):{E:aF}->E.low c=true->E.low d=true
 |[],_=>rfl
 |x::E,h=>by simp only [aF.low,au] at h ⊢;exact ⟨AV.gX a _ h.1,aF.gX a h.2⟩
theorem aF.Lm{c:Nat}:{E F:aF}->E.low c=true->F.low c=true->aF.low c (E++F)=true
 |[],_,_,h=>h
 |x::E,F,h,k=>by simp only [qb,aF.low,au] at h ⊢;exact ⟨h.1,aF.Lm h.2 k⟩
theorem K5{c:Nat}:{E:aF}->E.low c=true->{t:Nat}->{x:GK×AV}->bC E t=some x->x.2.low c=true
 |[],_,_,_,h=>by cases h
 |(t',g,v)::E,h,t,x,hx=>by
  simp only [aF.low,au] at h;cases hb:Nat.beq t' t
  .rw [jJ hb] at hx;exact K5 h.2 hx
  .rw [oR hb] at hx;cases hx;exact h.1
theorem Nl{c m:Nat}{vs:List (Bool×Nat×Pt)}:{E:aF}->E.low c=true->(sw m vs E).low c=true
 |[],_=>rfl
 |x::E,h=>by
  simp only [aF.low,au] at h;unfold sw;cases Dw m vs x.1
  .exact Nl h.2
  .show aF.low c (x::sw m vs E)=true;simp only [aF.low,au];exact ⟨h.1,Nl h.2⟩
theorem N8{c m:Nat}{vs:List (Bool×Nat×Pt)}:{E:aF}->E.low c=true->(tE m vs E).low c=true
 |[],_=>rfl
 |x::E,h=>by
  simp only [aF.low,au] at h;unfold tE;cases Dw m vs x.1
  .show aF.low c (x::tE m vs E)=true;simp only [aF.low,au];exact ⟨h.1,N8 h.2⟩
  .exact N8 h.2
theorem GC{c:Nat}{p:Row->Bool}:{G:List Row}->bD c G=true->bD c (bm p G)=true
 |[],_=>rfl
 |r::G,h=>by
  simp only [bD,au] at h;unfold bm;cases p r
  .exact GC h.2
  .show bD c (r::bm p G)=true;simp only [bD,au];exact ⟨h.1,GC h.2⟩
theorem acY{c:Nat}{j:Nat}(h:bD c G=true):AV.cq c (cellsOf G [] j)=true:=by
 unfold cellsOf;split
 .rename_i s d t cs b;obtain ⟨a,_⟩:=bY b;cases s with
  |top i=>
   have:=vk h (show G[i]? =some _ from a);simp only [Row.low,au] at this;exact this.2
  |cB i=>have a:([]:List Row)[i]? =some _:=a;simp at a
  |nilI=>exact a.elim
  |nilO=>exact a.elim
  |nilM=>exact a.elim
 .rfl
theorem alf{c:Nat}{E F:aF}(e:E.low c=true)(d:F.low c=true)(b:bD c G=true){t:Nat}{q:AV×List AV}(h:alj E F G t=some q):q.1.low c=true/\AV.cq c q.2=true:=by
 unfold alj at h;split at h
 .rename_i v a;cases h;refine ⟨?_,?_⟩
  .unfold ez at a;split at a
   next x hx=>cases a;exact K5 e hx
   .exact K5 d a
  .split
   .exact acY b
   .rfl
 .cases h
theorem AW{fr:Fr}{tm:Tm}{m:Nat}{st:aC}{ρ:ay}{Φ:Ctx}{w:World}(hl:st.low fr=true)(C:Sat (ab ρ [] st.G++(ab ρ [] fr.H++Φ)) w):∃ρ',atL fr st Φ w ρ ρ' (enter fr tm m st):=by
 obtain ⟨l1,e,s,o⟩:=aC.cJ.1 hl;unfold enter;dsimp only;generalize amR st fr tm.vs++reach st fr tm.th=ids;have i:=uC (A:=[]) (p:=ie ids) C;obtain ⟨ρ',l⟩:=Kz (ids:=Ua st fr tm.vs) (c:=st.c) (ρ:=ρ) (GC (p:=ie ids) s);generalize oV (Ua st fr tm.vs) st.c (bm (ie ids) st.G)=L at l;obtain ⟨Gt,R,c⟩:=L;have a:st.c<=c:=l.le;have v:=Nl (m:=m) (vs:=tm.vs) l1;have hp:=GC (p:=λr=> !(ie ids r)) s;refine ⟨ρ',l.ag,a,rfl,rfl,rfl,?_,?_,?_,?_,λt q I=>?_⟩
 .exact aF.Lm (aF.gX a v) (aF.gX a e)
 .exact wh (wh l.rl (BX a hp)) (BX a o)
 .have n:az ρ' [] (tE m tm.vs st.E) (sw m tm.vs st.E++fr.F)=az ρ [] (tE m tm.vs st.E) (sw m tm.vs st.E++fr.F):=by rw [az,az,ud l.ag (N8 l1),ud l.ag (aF.Lm v e)]
  show lR (az ρ' [] (tE m tm.vs st.E) (sw m tm.vs st.E++fr.F)) _;rw [n];exact ajB λt=>ahI
 .show Sat (ab ρ' [] Gt++(ab ρ' [] ((R++bm (λr=> !(ie ids r)) st.G)++fr.H)++Φ)) w;have n:ab ρ' [] Gt=ab ρ [] (bm (ie ids) st.G):=l.eq;have T:ab ρ' [] (bm (λr=> !(ie ids r)) st.G++fr.H)=ab ρ [] (bm (λr=> !(ie ids r)) st.G++fr.H):=aZ l.ag (wh hp o);rw [cx,bg,n,T];have g:Sat (ab ρ [] (bm (ie ids) st.G)++(ab ρ [] (bm (λr=> !(ie ids r)) st.G++fr.H)++Φ)) w:=by simpa using i
  have d:∀(L:List Item) (A B:Ctx),(∀it∈L,it.cN=true/\∀M w,it.P M w)->Sat (A++B) w->Sat (A++(L++B)) w:=λL A B u h=>by
   have z:=EY h L (λit bJ=>⟨(u it bJ).1,(u it bJ).2 _ _⟩);have mv:∀(L:List Item) (A B:Ctx),Sat (L++(A++B)) w->Sat (A++(L++B)) w:=λL=>by
    induction L with
    |nil=>intro A B h;exact h
    |cons x L ih=>
     intro A B h;have y:Sat ([]++x::((L++A)++B)) w:=by simpa using h
     have Q:Sat ([]++((L++A)++x::B)) w:=y.move;have O:Sat (L++(A++x::B)) w:=by simpa using Q
     have N:Sat (A++(L++x::B)) w:=ih _ _ O;have K:Sat (A++(L++[x]++B)) w:=by simpa using N
     -- x goes ahead of L
     refine K.DE (λj k=>(j<A.length/\k=j)\/(j=A.length/\k=A.length+L.length)\/(A.length<j/\j<=A.length+L.length/\k+1=j)\/(A.length+L.length<j/\k=j)) (λj f b=>?_) (λj k q J z y=>by omega);by_cases c1:j<A.length
     .rw [ec c1] at b;exact .inr ⟨j,f,.inl ⟨c1,rfl⟩,by rw [ec c1];exact b,bX.refl⟩
     .rw [de (by omega)] at b;by_cases V:j=A.length
      .subst V;simp at b;subst b;refine .inr ⟨A.length+L.length,x,.inr (.inl ⟨rfl,rfl⟩),?_,bX.refl⟩;rw [de (by omega)];have:A.length+L.length-A.length=L.length:=by omega
       rw [this];simp
      .have S:j-A.length=(j-A.length-1)+1:=by omega
       rw [S,qb,hU] at b;by_cases U:j<=A.length+L.length
       .rw [ec (by omega)] at b;refine .inr ⟨j-1,f,.inr (.inr (.inl ⟨by omega,U,by omega⟩)),?_,bX.refl⟩;rw [de (by omega),cx,ec (by omega)];rw [show j-1-A.length=j-A.length-1 by omega];exact b
       .rw [de (by omega)] at b;refine .inr ⟨j,f,.inr (.inr (.inr ⟨by omega,rfl⟩)),?_,bX.refl⟩;rw [de (by omega),de (by simp;omega)];have:j-A.length-(L++[x]).length=j-A.length-1-L.length:=by simp;omega
        rw [this];exact b
   exact mv L A B z
  have:=d (ab ρ' [] R) (ab ρ [] (bm (ie ids) st.G)) (ab ρ [] (bm (λr=> !(ie ids r)) st.G++fr.H)++Φ) (λit bJ=>by obtain ⟨r,D,rfl⟩:=List.mem_map.1 bJ;exact l.rp r D) g
  simpa using this
 .exact alf (aF.gX a l1) (aF.gX a e) l.lw I
def Vj(G H:List Row)(look:Nat->Option AV)(fix:Nat->jN):List (Bool×Nat×Pt)->zm
 |[]=>[]
 |x::l=>(match (aD x.1 ((fix x.2.1).map (·.1)) (look x.2.1)) with
  |some v=>yt G H x.2.2 v
  |none=>[])++Vj G H look fix l
def Sx(F:aF)(vs:List (Bool×Nat×Pt)):aF->Bool
 |[]=>true
 |x::E=>(QD x.1 vs||vj (bC F x.1))&&Sx F vs E
def OY(en:En)(tm:Tm)(E:aF)(G:List Row):List Row:=cB (Vj G en.fr.H (BO E en.fr.F) en.fix tm.vs) G
def nL(en:En)(tm:Tm)(E:aF)(G:List Row):Option (fW (jK tm.vs)):=
 match mtV (OY en tm E G) en.fr.H (BO E en.fr.F) en.fix tm.vs [] with
 |some mr=>aD (Ip (mr.S.map λx=>dG (OY en tm E G) en.fr.H x.2)&&Qo (OY en tm E G).length (mr.S.map λx=>dG (OY en tm E G) en.fr.H x.2)&&Sx en.fr.F tm.vs E) (cU _ mr.D) none
 |none=>none
def rowsOf(R:List (Bool×Row)):List Row:=R.map (·.2)
def cS(en:En)(tm:Tm)(s:fW (jK tm.vs))(h:HT):aC:=match gL (λn=>en.c+n) en.fix tm.vs 0 (jc _ s) with
 |⟨E,R,k,_⟩=>⟨en.c+k,E,rowsOf R,h⟩
def jk(en:En)(tm:Tm)(s:fW (jK tm.vs))(h:HT):aC:=match gL (λn=>en.c+n) en.fix tm.vs 0 (jc _ s) with
 |⟨E,R,k,_⟩=>⟨en.c+k,E++en.E,rowsOf R++en.G,h⟩
def Bg(e:XE)(en:En)(st:aC):aC:=match e with
 | .panL _=>{ st with E:=st.E++en.E,G:=st.G++dA en.G }
 |_=>{ st with E:=st.E++en.E,G:=st.G++en.G }
theorem Sat.Vi{w:World}{A C:Ctx}:∀{B:Ctx},Sat (A++(B++C)) w->Sat (A++C) w
 |[],h=>h
 |_x::B,h=>Sat.Vi (B:=B) (Sat.Du h)
theorem Ye{nm:Nat->Nat}{fix:Nat->jN}{t:Nat}:{l:List (Bool×Nat×Pt)}->{n:Nat}->{D:List cr}->QD t l=true->bC (gL nm fix l n D).E t≠none
 |[],n,D,h=>by cases h
 |(b,t',p)::l,n,D,h=>by
  unfold gL;dsimp only;generalize fill nm p (aD b (fix t') none) none n D=L;obtain ⟨v,R,k,c,j⟩:=L;dsimp only;generalize d:gL nm fix l k c=f;obtain ⟨a,m,i,g⟩:=f;dsimp only;have ih:QD t l=true->bC a t≠none:=λe=>by have:=Ye (nm:=nm) (fix:=fix) (n:=k) (D:=c) e;rw [d] at this;exact this
  simp only [QD,e9,au] at h;cases b
  .show bC ((t',none,v)::a) t≠none;cases hb:Nat.beq t' t
   .rw [jJ hb];rcases h with ⟨_,h⟩|h
    .rw [hb] at h;cases h
    .exact ih h
   .rw [oR hb];simp
  .show bC a t≠none;rcases h with ⟨h,_⟩|h
   .cases h
   .exact ih h
theorem aac{F:aF}{vs:List (Bool×Nat×Pt)}{t:Nat}:{E:aF}->{x:GK×AV}->Sx F vs E=true->bC E t=some x->QD t vs=true\/bC F t=none
 |[],x,_,h=>by cases h
 |(t',g,v)::E,x,hb,h=>by
  simp only [Sx,au,e9] at hb;cases b:Nat.beq t' t
  .rw [jJ b] at h;exact aac hb.2 h
  .have e:=b0 b;subst e;rcases hb.1 with a|a
   .exact .inl a
   .cases c:bC F t' with
    |none=>exact .inr rfl
    |some y=>rw [c] at a;cases a
section
variable {en : En} {tm : Tm} {Φ : Ctx} {w : World} {ρ : ay}
theorem sU{E:aF}{s:fW (jK tm.vs)}(lF:aF.low en.c en.fr.F=true)(lH:bD en.c en.fr.H=true)(fx:∀t q,en.fix t=some q->q.1.low en.c=true/\AV.cq en.c q.2=true)
  (Z:Sat (ab ρ [] G++(ab ρ [] en.fr.H++Φ)) w) (h:nL en tm E G=some s):
  ∃ρ' E' R k D,gL (λn=>en.c+n) en.fix tm.vs 0 (jc _ s)=⟨E',R,k,D⟩/\aS en.c ρ ρ'/\lR (az ρ' [] E' en.fr.F) (az ρ [] E en.fr.F)/\Sat (ab ρ' [] (rowsOf R)++(ab ρ' [] en.fr.H++Φ)) w:=by
 unfold nL at h;have d:=lS (ids:=Vj G en.fr.H (BO E en.fr.F) en.fix tm.vs) Z;change Sat (ab ρ [] (OY en tm E G)++_) w at d;generalize OY en tm E G=G' at h d;split at h
 .rename_i P hm;obtain ⟨Q,h2⟩:=aI h;simp only [au] at Q;obtain ⟨⟨h3,h4⟩,h5⟩:=Q;obtain ⟨N,I,o,n1,a1⟩:=Uh d tm.vs [] P [] hm .nil;rw [<-DQ _ h2] at o;obtain ⟨p1,_⟩:=OL d a1;obtain ⟨O,_⟩:=Bn d p1 (Ba h3);rw [Ey h4] at O;have W:=O.Vi
  -- names
  have b:aS en.c ρ (λi=>aD (Nat.blt i en.c) (ρ i) ((N[i-en.c]?).getD dB)):=λj hj=>by
   have:Nat.blt j en.c=true:=by simpa using hj
   simp only [this]
  have l:Ai (λi=>aD (Nat.blt i en.c) (ρ i) ((N[i-en.c]?).getD dB)) (λn=>en.c+n) 0 N:=λi a ha=>by
   have:Nat.blt (en.c+i) en.c=false:=by
    cases hb:Nat.blt (en.c+i) en.c
    .rfl
    .simp only [j5] at hb;omega
   simp only [this,show en.c+i-en.c=i by omega,ha,qG];exact ⟨trivial,trivial,trivial,λ_=>trivial⟩
  generalize (λi=>aD (Nat.blt i en.c) (ρ i) ((N[i-en.c]?).getD dB))=ρ' at b l;have e1:(λi=>iK ρ (en.fix i))=λi=>iK ρ' (en.fix i):=by
   funext i
   cases hq:en.fix i with
   |none=>rfl
   |some q=>
    obtain ⟨k1,Y⟩:=fx i q hq;show some (q.1.val ρ,AV.al ρ q.2)=some (q.1.val ρ',AV.al ρ' q.2);rw [AV.oC b _ k1,AV.cd b _ Y]
  rw [e1] at o;obtain ⟨M,U,S,K⟩:=Ra (T:=[]) (nm:=λn=>en.c+n) tm.vs [] (jc _ s) I (fq ρ P.X) N o (Z1 hm) l (pF _) [];simp only [ko,qf] at M U S K;generalize hF:gL (λn=>en.c+n) en.fix tm.vs 0 (jc _ s)=L at M U S K;obtain ⟨E',R,k,D⟩:=L;refine ⟨ρ',E',R,k,D,rfl,b,λt p hp=>?_,?_⟩
  .rw [ja] at hp;cases hk:bC E' t with
   |some x=>
    have r:look (aF.env ρ' [] E') t=some (aB.get [] x.1,x.2.val ρ'):=by rw [A3,hk];rfl
    obtain ⟨c1,g⟩:=M t _ r;have J:ez E' en.fr.F t=some x:=by unfold ez;rw [hk]
    rw [J] at hp;simp only [mj,ej] at hp;subst hp;simp only at c1 g;cases f:BO E en.fr.F t with
    |none=>rw [f] at g;cases g
    |some v=>
     rw [f] at g;simp only [mj,ej] at g;rw [Is f,c1,g]
   |none=>
    have J:ez E' en.fr.F t=bC en.fr.F t:=by unfold ez;rw [hk]
    rw [J] at hp;cases e:bC en.fr.F t with
    |none=>rw [e] at hp;cases hp
    |some y=>
     rw [e] at hp;simp only [mj,ej] at hp;have u:bC E t=none:=by
      cases u:bC E t with
      |none=>rfl
      |some z=>
       rcases aac h5 u with m|m
       .have:=Ye (nm:=λn=>en.c+n) (fix:=en.fix) (n:=0) (D:=jc _ s) m;rw [hF] at this;exact (this hk).elim
       .rw [e] at m;cases m
     rw [ja];unfold ez;rw [u,e,<-hp];simp only [mj];rw [AV.oC b _ (K5 lF e)]
  .have V:=Sat.leL (A:=[]) (B:=dH I) (C:=ab ρ [] en.fr.H++Φ) W K.rw;rw [aZ b lH];exact V
 .cases h
end
variable {fr : Fr}
def an5(P:Program)(o:Oper):Bool:=match o.op with
 | .store ..|.alloc _|.box ..|.buildSlice ..|.makeSlice ..|.makeMap ..|.mapUpdate ..|.insert ..|.range ..|.next ..|.defer _|.panic _=>true
 | .convert s d _=>isStr P s&& !(isStr P d)
 | .call ⟨.builtin b,_,_⟩=>(match b with
  | .len|.cap|.min|.max|.unsafeSliceData=>false
  |_=>true)
 | .call _=>true
 |_=>false
def af5(q:Bool)(m:Nat):Nat->List (Nat×Bool)->ze
 |_,[]=>none
 |k,x::l=>aD ( WQ x.2 (!q)&& !(Nat.testBit m k)&&Kq x.1 m ) ( some k )<|af5 q m (k+1) l
def abx(l:List (Nat×Bool)):Nat->Nat->OT
 |0,_=> .nil
 |n+1,m=>match af5 true m 0 l with
  |some k=> .q k m (abx l n (bit m k))
  |none=>match af5 false m 0 l with
   |none=> .nil
   |some k=>match af5 false m (k+1) (l.drop (k+1)) with
    |none=> .l k m (abx l n (bit m k))
    |some j=> .l2 m k (abx l n (bit m k)) j (abx l n (bit m j))
def atW(o:Oper):Bool:=match o.op,o.guard with
 | .alloc _,none=>true
 | .buildSlice .., none=>true
 |_,_=>false
def amn(kd m:Nat):Nat->List (Nat×Nat)->Option (Nat×Nat)
 |_,[]=>none
 |k,x::l=>aD ( Nat.beq x.2 kd&& !(Nat.testBit m k)&&Kq x.1 m ) ( some (k,x.1) )<|amn kd m (k+1) l
def V9(m:Nat):Nat->List (Nat×Nat)->zm
 |_,[]=>[]
 |k,x::l=>aD ( Nat.beq x.2 2&& !(Nat.testBit m k)&&Kq x.1 m ) ( k::V9 m (k+1) l )<|V9 m (k+1) l
def am9(l:List (Nat×Nat)):Nat->Nat->OT
 |0,_=> .nil
 |n+1,m=>match amn 0 m 0 l with
  |some p=> .q p.1 m (am9 l n (bit m p.1))
  |none=>match amn 1 (lJ m (V9 m 0 l)) 0 l with
   |none=> .nil
   |some p=> .f p.1 m (V9 m 0 l) ((V9 m 0 l).filter λf=>Nat.testBit p.2 f) (am9 l n (bit (lJ m ((V9 m 0 l).filter λf=>Nat.testBit p.2 f)) p.1))
def aoo{R:Type}(X:Cx)(tb:List aA)(tp:List bZ)(KP:AV->aC->Option R)(ops:zg)(fr:Fr)(th:zm)(t:OT)(st:aC)(K:cL R):Option R:=
 aD ( X.P.follows .mixedOrders&&abc ops (ops.toList.map λo=>ln o.after.toList) t ) (
  tz X tb tp KP ops.toList fr t (bm (λr=> !(ie (reach st fr th) r)) st.G) [] [] { st with G:=bm (ie (reach st fr th)) st.G } K ) none
def am3(fr:Fr)(st:aC):zm->zm
 |[]=>[]
 |t::th=>aD (Nat.ble 20000 t) ((match ez st.E fr.F (t-20000) with
  |some (_,v)=>AV.fK v++(match v with
   | .ptr id _=>(match tI (Bs id) st.G with
    |some (_,.box _ _ cs)=>((cs.map (yW st.G fr.H)).map AV.fK).flatten
    |_=>[])
   |_=>[])
  |none=>[])++am3 fr st th) (am3 fr st th)
def Sg(fr:Fr)(st:aC)(th:zm):aC:=match am3 fr st th with
 |[]=>st
 |ids=>{ st with G:=cB ids st.G }
theorem ad8{st:aC}{th:zm}{ρ:ay}{T:aB}{B:Ctx}{w:World}(h:Sat (ab ρ T st.G++B) w):
  (Sg fr st th).c=st.c/\(Sg fr st th).E=st.E/\Sat (ab ρ T (Sg fr st th).G++B) w:=by
 unfold Sg;split
 .exact ⟨rfl,rfl,h⟩
 .exact ⟨rfl,rfl,lS h⟩
def Lk{R:Type}(X:Cx)(tb:List aA)(tp:List bZ)(KP:AV->aC->Option R)(ops:zg)(fr:Fr)(th:zm)(st:aC)(K:cL R):Option R:=
 aoo X tb tp KP ops fr th (cond (ey 40000 th) (am9 (ops.toList.map λo=>(ln o.after.toList,cond (atW o) 2 (cond (an5 X.P o) 1 0))) ops.toList.length 0) (abx (ops.toList.map λo=>(ln o.after.toList,an5 X.P o)) ops.toList.length 0)) (Sg fr st th) K
abbrev brk{R:Type}(i:Nat)(K:XE->aC->Option R):XE->aC->Option R
 | .ext j,st=>aD ( Nat.beq j i ) ( K .nrm st ) ( K (.ext j) st )
 |e,st=>K e st
abbrev yd{R:Type}(K1:aC->Option R)(K:XE->aC->Option R):XE->aC->Option R
 | .nrm,st=>K1 st
 |e,st=>K e st
abbrev cnd{R:Type}(b:Bool)(d1 d2:HT->Option R)(h:HT):Option R:=match h with
 | .c p q=>cond b (d1 p) (d2 q)
 |h=>cond b (d1 h) (d2 h)
def acq(fr:Fr)(st:aC):aC:=match st.h with
 | .r (30000::th) h=>Sg fr { st with h:=h } th
 |_=>st
theorem aqB{st:aC}{ρ:ay}{T:aB}{B:Ctx}{w:World}(h:Sat (ab ρ T st.G++B) w):
  (acq fr st).c=st.c/\(acq fr st).E=st.E/\Sat (ab ρ T (acq fr st).G++B) w:=by
 unfold acq;split
 next th a _=>exact ad8 (st:={ st with h:=a }) h
 .exact ⟨rfl,rfl,h⟩
def ami(v:AV)(i:Nat):Option (Int×(Int->AV)):=match v with
 | .int k x=>(match i with
  |0=>some (x,.int k)
  |_=>none)
 | .agg l=>(match i with
  |0=>none
  |j+1=>(match l[j]? with
   |some (.int k x)=>some (x,λy=> .agg (l.set j (.int k y)))
   |_=>none))
 |_=>none
theorem apr{v:AV}{i:Nat}{p:Int×(Int->AV)}(h:ami v i=some p):p.2 p.1=v:=by
 unfold ami at h;split at h
 .split at h
  .cases h;rfl
  .cases h
 .split at h
  .cases h
  .rename_i l j;split at h
   next k x hx=>cases h;simp only;congr 1;obtain ⟨b,a⟩:=List.getElem?_eq_some_iff.1 hx;rw [<-a];exact List.set_getElem_self b
   .cases h
 .cases h
def ab3{R:Type}(F:aF)(t i:Nat)(k:aC->Option R):zm->HT->aC->Option R
 |v::vs,h,st=>(match h with
  | .c h hs=>(match ez st.E F t with
   |some (none,av)=>(match ami av i with
    |some p=>cond (p.1==(v:Int)) (k { st with h:=h,E:=(t,none,p.2 (v:Int))::st.E }) (ab3 F t i k vs hs st)
    |none=>none)
   |_=>none)
  |_=>none)
 |[],h,st=>(match h with
  | .n 77777 _=>none
  |h=>k { st with h:=h })
theorem aeL{R:Type}{r:R}{F:aF}{t i:Nat}{k:aC->Option R}{st:aC}:∀{vs:zm} {h:HT},ab3 F t i k vs h st=some r->
  ∃st',k st'=some r/\st'.c=st.c/\st'.G=st.G/\∀ρ T,lR (az ρ T st'.E F) (az ρ T st.E F)
 |[],h,hh=>by
  unfold ab3 at hh;split at hh
  .cases hh
  .exact ⟨_,hh,rfl,rfl,λ_ _=> .refl⟩
 |v::vs,h,hh=>by
  unfold ab3 at hh;split at hh
  .rename_i j f;split at hh
   .rename_i av b;split at hh
    .rename_i p hp;rcases wJ hh with ⟨e,d⟩|⟨_,d⟩
     .refine ⟨_,d,rfl,rfl,λρ T u x hx=>?_⟩;have g:p.2 (v:Int)=av:=by rw [<-apr hp,eq_of_beq e]
      have hl:look (az ρ T st.E F) t=some (true,av.val ρ):=by rw [ja,b];simp
      show look (az ρ T st.E F) u=some x;rw [g] at hx;have a:look ((t,true,av.val ρ)::az ρ T st.E F) u=some x:=by simpa [az,aF.env] using hx
      unfold look at a;cases hb:Nat.beq t u
      .rw [hb] at a;exact a
      .rw [hb] at a;have:=b0 hb;subst this;rw [hl];exact a
     .exact aeL d
    .cases hh
   .cases hh
  .cases hh
abbrev frL(fr:Fr):Fr:=⟨fr.F,dA fr.H,fr.n⟩
abbrev stL(fr:Fr)(st:aC)(h:HT):aC:={ st with G:=st.G++bm cX fr.H,h:=h }
abbrev toL{R:Type}(K:XE->aC->Option R):XE->aC->Option R
 | .panE v,st=>K (.panL v) st
 |_,_=>none
abbrev aqO{R:Type}(X:Cx)(tb:List aA)(tp:List bZ)(ops:zg)(fr:Fr)(K:XE->aC->Option R)(st:aC):Option R:=
 E7 X tb tp (λb v st=>K (aD b (.panL v) (.panE v)) st) ops.toList fr ops.toList [] st (K .nrm)
def den{R:Type}(X:Cx)(tb:List aA)(tp:List bZ):Code->Fr->(XE->aC->Option R)->aC->Option R
 | .skip,_,K,st=>K .nrm st
 | .label _,_,K,st=>K .nrm st
 | .exit i,_,K,st=>K (.ext i) st
 | .goto l,_,K,st=>K (.gto l) st
 | .ret,_,K,st=>K .ret st
 | .block i c,fr,K,st=>den X tb tp c fr (brk i K) (acq fr st)
 | .cond c x y,fr,K,st=>match bw [] st.E fr.F none c with
  |some (.bool b)=>cnd b (λh=>den X tb tp x fr K { st with h:=h }) (λh=>den X tb tp y fr K { st with h:=h }) st.h
  |_=>none
 | .seq x y,fr,K,st=>match st.h with
  | .j tm p q=>aD (st.low fr) (
   ai (λs:fW (jK tm.vs)=>den X tb tp y fr K (jk (enter fr tm (cO x) st) tm s q)) λk=>
   den X tb tp x (enter fr tm (cO x) st).fr (yd (λst'=>match nL (enter fr tm (cO x) st) tm st'.E st'.G with
     |some s=>k s
     |none=>none) (λe st'=>K e (Bg e (enter fr tm (cO x) st) st'))) ⟨(enter fr tm (cO x) st).c,(enter fr tm (cO x) st).Et,(enter fr tm (cO x) st).Gt,p⟩ ) none
  | .s h=>den X tb tp x fr (yd (den X tb tp y fr K) K) { st with h:=h }
  | .r (60000::t::i::vs) h=>ab3 fr.F t i (λst=>den X tb tp x fr (yd (den X tb tp y fr K) K) st) vs h st
  |_=>den X tb tp x fr (yd (den X tb tp y fr K) K) st
 | .loop c,fr,K,st=>match st.h with
  | .l tm p=>aD (st.low fr) (
   match nL (enter fr tm (cO c) st) tm (enter fr tm (cO c) st).Et (enter fr tm (cO c) st).Gt with
   |some s=>aj (λagain s=>den X tb tp c (enter fr tm (cO c) st).fr (yd (λst'=>match nL (enter fr tm (cO c) st) tm st'.E st'.G with
      |some s=>again s
      |none=>none) (λe st'=>K e (Bg e (enter fr tm (cO c) st) st'))) (cS (enter fr tm (cO c) st) tm s p)) X.fl s
   |none=>none ) none
  | .n k h=>aj (λagain st=>den X tb tp c fr (yd again K) st) k { st with h:=h }
  |_=>none
 | .region _ ops false,fr,K,st=>match st.h with
  | .r (80000::_) h=>aqO X tb tp ops (frL fr) (toL K) (stL fr st h)
  |_=>aqO X tb tp ops fr K st
 | .region _ ops true,fr,K,st=>match st.h with
  | .r th h=>Lk X tb tp (λv st=>K (.kh v) st) ops fr th { st with h:=h } (K .nrm)
  |_=>Lk X tb tp (λv st=>K (.kh v) st) ops fr [] st (K .nrm)
 |_,_,_,_=>none
def XE.ex:XE->Exit
 | .nrm=> .normal
 | .ret=> .ret
 | .ext i=> .exit i
 | .gto l=> .goto l
 | .kh _=> .goto 0
 | .panE _=> .goto 0
 | .panL _=> .goto 0
def NV(Q:bh)(e:XE)(ρ:ay)(n:Nat)(D:x3)(E:Env)(w:World):Prop:=match e with
 | .kh v=>EI Q (kh (v.val ρ)) D w
 | .panE v=>At Q (.panic (kh (v.val ρ))) n D E w
 | .panL v=>At Q (.panic (kh (v.val ρ))) n D E w
 |e=>At Q e.ex n D E w
abbrev hx(e:XE)(fr:Fr):List Row:=match e with
 | .panL _=>dA fr.H
 |_=>fr.H
def lz{R:Type}(Q:bh)(D:x3)(fr:Fr)(Φ:Ctx)(c0:Nat)(ρ0:ay)(r:R)(K:XE->aC->Option R):Prop:=
 ∀e st ρ w,aS c0 ρ0 ρ->c0<=st.c->K e st=some r->Sat (ab ρ [] st.G++(ab ρ [] (hx e fr)++Φ)) w->NV Q e ρ fr.n D (az ρ [] st.E fr.F) w
theorem lz.less{R:Type}{Q:bh}{D:x3}{Φ:Ctx}{c0 c1:Nat}{ρ0 a:ay}{r:R}{K:XE->aC->Option R}(h:lz Q D fr Φ c0 ρ0 r K)(ha:aS c0 ρ0 a)(b:c0<=c1):lz Q D fr Φ c1 a r K:=
 λe st ρ w g f d c=>h e st ρ w (ha.trans g b) (dx b f) d c
section
variable {P : Program} {ρ : ze} {Q : bh} {n : Nat} {D : x3} {E : Env} {w : World}
theorem Sr{σ γ τ:Type}{F:(σ->Option τ)->σ->Option τ}{r:τ}(J:σ->γ->World->Prop)(c:σ->γ->Env){body:Code}
  {N:Nat} {b:σ} (hm:aj F N b=some r) (f:γ) (t:J b f w) (p:lR (c b f) E)
  (round:∀again s g w,F again s=some r->J s g w->WC P ρ body (Exit.then (Pp again r J c n D) Q) n D (c s g) w):
  WC P ρ (.loop body) Q n D E w:=λa k hd=>
 IZ (λm=>Pp (aj F m) r J c n D) N ⟨b,f,hm,t,k.p6 p,hd⟩ λm a w ⟨s,g,j,l,o,q⟩=>by
  obtain ⟨i,rfl,d⟩:=NS j;exact wpIn_mono (round (aj F i) s g w d l a o q) λe a w h=>by cases e <;> first|exact h|exact ⟨i,l7 _,h⟩
theorem Nz{σ γ τ:Type}{a:σ->Option τ}{r:τ}{J:σ->γ->World->Prop}{b:σ->γ->Env}
  (s:σ) (g:γ) (hm:a s=some r) (e:J s g w) (c:lR (b s g) E):At (Exit.then (Pp a r J b n D) Q) .normal n D E w:=
 λf d hd=>⟨s,g,hm,e,d.p6 c,hd⟩
theorem amJ{γ:Type}{J:γ->World->Prop}{a:γ->Env}(g:γ)(d:J g w)(b:lR (a g) E):At (Exit.then (RH J a n D) Q) .normal n D E w:=
 λe c hd=>⟨g,d,c.p6 b,hd⟩
theorem jv{K:Act->World->Prop}{e:XE}{ρ:ay}(a:e≠ .nrm)(h:NV Q e ρ n D E w):NV (Exit.then K Q) e ρ n D E w:=by cases e <;> first|exact (a rfl).elim|exact h
end
section
variable {X : Cx} {tb : List aA} {tp : List bZ} {σ : ze} {D : x3} {R : Type} {r : R} {Φ : Ctx}
theorem Rg{Q:bh}{c0 i:Nat}{ρ0:ay}{K:XE->aC->Option R}(h:lz Q D fr Φ c0 ρ0 r K):lz (Exit.inBlock i Q) D fr Φ c0 ρ0 r (brk i K):=λe st ρ w d c b a=>by
 cases e with
 |nrm=>exact Y2 (h .nrm st ρ w d c b a)
 |ret=>exact ahS (h .ret st ρ w d c b a)
 |gto l=>exact ac6 (h (.gto l) st ρ w d c b a)
 |kh v=>exact apd (h (.kh v) st ρ w d c b a)
 |panE v=>exact Od (h (.panE v) st ρ w d c b a)
 |panL v=>exact Od (h (.panL v) st ρ w d c b a)
 |ext j=>
  unfold brk at b;rcases ew b with ⟨g,f⟩|⟨g,f⟩
  .have:=b0 g;subst this;exact adC (h .nrm st ρ w d c f a)
  .exact ZN g (h (.ext j) st ρ w d c f a)
theorem ra{b:aC->Option R}{K:XE->aC->Option R}{e:XE}{st:aC}(a:e≠ .nrm):yd b K e st=K e st:=by cases e <;> first|exact (a rfl).elim|rfl
theorem xy{Q:bh}{c0:Nat}{ρ0 a:ay}{en:En}{K:XE->aC->Option R}(h:lz Q D fr Φ c0 ρ0 r K)(ag:aS c0 ρ0 a)(le:c0<=en.c)(ff:en.fr.F=en.E++fr.F)(fh:en.fr.H=en.G++fr.H)(fn:en.fr.n=fr.n):
  ∀e st ρ w,aS en.c a ρ->en.c<=st.c->K e (Bg e en st)=some r->Sat (ab ρ [] st.G++(ab ρ [] (hx e en.fr)++Φ)) w->NV Q e ρ en.fr.n D (az ρ [] st.E en.fr.F) w:=λe st ρ w l k j f=>by
 have g:(Bg e en st).c=st.c:=by cases e <;> rfl
 have i:(Bg e en st).E=st.E++en.E:=by cases e <;> rfl
 have:=h e (Bg e en st) ρ w (ag.trans l le) (dx le (by rw [g];exact k)) j (by
  have d:∀(A B:List Row),Sat (ab ρ [] st.G++(ab ρ [] (A++B)++Φ)) w->Sat (ab ρ [] (st.G++A)++(ab ρ [] B++Φ)) w:=λA B h=>by rw [bg,cx];rw [bg,cx] at h;exact h
  cases e with
  |panL v=>
   have b:Sat (ab ρ [] st.G++(ab ρ [] (dA en.fr.H)++Φ)) w:=f;rw [fh,MA] at b;exact d _ _ b
  |_=>
   have b:Sat (ab ρ [] st.G++(ab ρ [] en.fr.H++Φ)) w:=f;rw [fh] at b;exact d _ _ b)
 rw [fn,ff];have m:az ρ [] st.E (en.E++fr.F)=az ρ [] (Bg e en st).E fr.F:=by rw [i];show aF.env ρ [] st.E++aF.env ρ [] (en.E++fr.F)=aF.env ρ [] (st.E++en.E)++aF.env ρ [] fr.F;rw [su,su,cx]
 rw [m];exact this
theorem amp{Q:bh}{c0:Nat}{ρ0:ay}{K:XE->aC->Option R}(h:lz Q D fr Φ c0 ρ0 r K):lz Q D (frL fr) Φ c0 ρ0 r (toL K):=λe st ρ w d c a b=>by
 cases e with
 |panE v=>exact h (.panL v) st ρ w d c a b
 |_=>cases a
theorem aoJ{st:aC}{ρ:ay}{w:World}{d:HT}(b:Sat (ab ρ [] st.G++(ab ρ [] fr.H++Φ)) w):Sat (ab ρ [] (stL fr st d).G++(ab ρ [] (frL fr).H++Φ)) w:=by
 have a:=uC (p:=cX) (G:=fr.H) (H:=[]) (A:=ab ρ [] st.G) (Φ:=Φ) b;have c:∀H:List Row,bm (λr=> !(cX r)) H=dA H:=λH=>by
  induction H with
  |nil=>rfl
  |cons r H ih=>
   show aD (!(!r.cN)) (r::bm _ H) (bm _ H)=aD r.cN (r::dA H) (dA H);rw [ih,Bool.not_not]
 rw [ko,c] at a;show Sat (ab ρ [] (st.G++bm cX fr.H)++(ab ρ [] (dA fr.H)++Φ)) w;rw [bg,cx];exact a
theorem afi{Q:bh}{st:aC}{ρ:ay}{w:World}{K:XE->aC->Option R}(i:∀it∈X.Γ,it∈Φ)(k:∀e∈tb,e.Ok X.P X.Γ)(j:∀e∈tp,e.Ok X.P X.Γ){id:Nat}{ops:zg}(p:Sat (ab ρ [] st.G++(ab ρ [] fr.H++Φ)) w)
  (h:E7 X tb tp (λb v st=>K (aD b (.panL v) (.panE v)) st) ops.toList fr ops.toList [] st (K .nrm)=some r) (m:lz Q D fr Φ st.c ρ r K):WC X.P σ (.region id ops false) Q fr.n D (az ρ [] st.E fr.F) w:=by
 obtain ⟨l⟩:=ops;exact bn (aey i k j (λx h=>by cases h) (λx h=>by cases h) ⟨λx _=>rfl,λx _=>rfl⟩ p h (λst' ρ' w' g f d a=>m .nrm st' ρ' w' g f d a) (λo v st' ρ' w' g f d a=>by
  cases o
  .exact m (.panE v) st' ρ' w' g f d a
  .exact m (.panL v) st' ρ' w' g f d a))
theorem RT{Q:bh}{st:aC}{ρ:ay}{w:World}{K:XE->aC->Option R}(d:∀it∈X.Γ,it∈Φ)(g:∀e∈tb,e.Ok X.P X.Γ)(f:∀e∈tp,e.Ok X.P X.Γ){id:Nat}{ops:zg}{th:zm}(a:Sat (ab ρ [] st.G++(ab ρ [] fr.H++Φ)) w)
  (h:Lk X tb tp (λv st=>K (.kh v) st) ops fr th st (K .nrm)=some r) (b:lz Q D fr Φ st.c ρ r K):WC X.P σ (.region id ops true) Q fr.n D (az ρ [] st.E fr.F) w:=by
 obtain ⟨l⟩:=ops;unfold Lk at h;generalize cond (ey 40000 th) _ _=t at h;obtain ⟨u,s,a⟩:=ad8 (fr:=fr) (th:=th) a;rw [<-u] at b;rw [<-s];generalize Sg fr st th=st at h a b;unfold aoo at h;obtain ⟨j,z⟩:=aI h;simp only [au] at j;refine y6 _ t j.1 j.2 (λw1 y=>?_);have i:=uC (A:=[]) (p:=ie (reach st fr th)) (a.ext y);exact GS.wd (apa (EV:=[]) (st:={ st with G:=bm (ie (reach st fr th)) st.G }) d g f (λx h=>by cases h) (λx h=>by cases h) ⟨λx _=>rfl,λx _=>rfl⟩ (λx h=>by cases h) (λx h=>by cases h) i (λp h=>by cases h) z (λst' ρ' w' q o m k=>b .nrm st' ρ' w' q o m k) (λv st' ρ' w' q o m k=>b (.kh v) st' ρ' w' q o m k))
theorem Sb{b:Bool}{d1 d2:HT->Option R}{h:HT}(d:cnd b d1 d2 h=some r):∃p q,(b=true->d1 p=some r)/\(b=false->d2 q=some r):=by
 unfold cnd at d;split at d
 .rename_i p q;rcases wJ d with ⟨c,a⟩|⟨c,a⟩
  .exact ⟨p,q,λ_=>a,λe=>by rw [c] at e;cases e⟩
  .exact ⟨p,q,(λe=>by rw [c] at e;cases e),λ_=>a⟩
 .rcases wJ d with ⟨c,a⟩|⟨c,a⟩
  .exact ⟨_,h,λ_=>a,λe=>by rw [c] at e;cases e⟩
  .exact ⟨h,_,(λe=>by rw [c] at e;cases e),λ_=>a⟩
theorem gV(j:∀it∈X.Γ,it∈Φ)(t:∀e∈tb,e.Ok X.P X.Γ)(o:∀e∈tp,e.Ok X.P X.Γ):∀(c:Code) {Q:bh} {fr:Fr} {K:XE->aC->Option R} {st:aC} {ρ:ay} {w:World},Sat (ab ρ [] st.G++(ab ρ [] fr.H++Φ)) w->
  den X tb tp c fr K st=some r->lz Q D fr Φ st.c ρ r K->WC X.P σ c Q fr.n D (az ρ [] st.E fr.F) w
 | .skip,Q,fr,K,st,ρ,w,hs,h,hK=>u6 (hK .nrm st ρ w .refl (cK _) (by unfold den at h;exact h) hs)
 | .label _,Q,fr,K,st,ρ,w,hs,h,hK=>aaC (hK .nrm st ρ w .refl (cK _) (by unfold den at h;exact h) hs)
 | .exit i,Q,fr,K,st,ρ,w,hs,h,hK=>Wj (hK (.ext i) st ρ w .refl (cK _) (by unfold den at h;exact h) hs)
 | .goto l,Q,fr,K,st,ρ,w,hs,h,hK=>afq (hK (.gto l) st ρ w .refl (cK _) (by unfold den at h;exact h) hs)
 | .ret,Q,fr,K,st,ρ,w,hs,h,hK=>Cp (hK .ret st ρ w .refl (cK _) (by unfold den at h;exact h) hs)
 | .block i c,Q,fr,K,st,ρ,w,hs,h,hK=>by
  obtain ⟨z1,z2,z3⟩:=aqB (fr:=fr) hs;unfold den at h;rw [<-z2];rw [<-z1] at hK;exact QZ (gV j t o c z3 h (Rg hK))
 | .cond c x y,Q,fr,K,st,ρ,w,hs,h,hK=>by
  unfold den at h;split at h
  next b hb=>have W:=bL (ρ:=ρ) hb;simp only [AV.val] at W;obtain ⟨p,q,h1,S⟩:=Sb h;exact lq W (λhb=>gV j t o x (st:={ st with h:=p }) hs (h1 hb) hK) (λhb=>gV j t o y (st:={ st with h:=q }) hs (S hb) hK)
  .cases h
 | .seq x y,Q,fr,K,st,ρ,w,hs,h,hK=>by
  have N:∀T,den X tb tp x fr (yd (den X tb tp y fr K) K) { st with h:=T }=some r->WC X.P σ (.seq x y) Q fr.n D (az ρ [] st.E fr.F) w:=λT hd=>by
   refine br (gV j t o x (st:={ st with h:=T }) hs hd (λe st' ρ' w' I M z C=>?_));by_cases v:e= .nrm
   .subst v;exact ba (gV j t o y C z (hK.less I M))
   .rw [ra v] at z;exact jv v (hK e st' ρ' w' I M z C)
  unfold den at h;split at h
  .rename_i tm p q Z;obtain ⟨hl,S⟩:=aI h;obtain ⟨J,en⟩:=AW (tm:=tm) (m:=cO x) hl hs;generalize enter fr tm (cO x) st=f at S en;unfold ai at S;refine agG (γ:=fW (jK tm.vs)×ay) (λg w'=>den X tb tp y fr K (jk f tm g.1 q)=some r/\aS f.c J g.2/\Sat (ab g.2 [] (jk f tm g.1 q).G++(ab g.2 [] fr.H++Φ)) w') (λg=>az g.2 [] (jk f tm g.1 q).E fr.F) (λg w' hg=>?_) ?_
   .obtain ⟨g1,g2,g3⟩:=hg;refine gV j t o y g3 g1 (hK.less (en.ag.trans g2 en.le) ?_);have:f.c<=(jk f tm g.1 q).c:=by unfold jk;generalize gL (λn=>f.c+n) f.fix tm.vs 0 (jc _ g.1)=L;obtain ⟨a,b,c,d⟩:=L;exact qS _ _
    exact dx en.le this
   .have hx:=gV j t o x (fr:=f.fr) (st:=⟨f.c,f.Et,f.Gt,p⟩) (ρ:=J) (Q:=Exit.then (RH (λ(g:fW (jK tm.vs)×ay) w'=>den X tb tp y fr K (jk f tm g.1 q)=some r/\aS f.c J g.2/\Sat (ab g.2 [] (jk f tm g.1 q).G++(ab g.2 [] fr.H++Φ)) w') (λg=>az g.2 [] (jk f tm g.1 q).E fr.F) fr.n D) Q) en.sat S (λe st' ρ' w' I M z C=>?_)
    .rw [en.fn] at hx;exact hx.p6 _ en.sub
    .by_cases v:e= .nrm
     .subst v;have B:(match nL f tm st'.E st'.G with|some s=>den X tb tp y fr K (jk f tm s q)|none=>none)=some r:=z;split at B
      .rename_i s hb;obtain ⟨u,E',V,k,DD,b1,b2,b3,b4⟩:=sU en.lF en.lH en.fx C hb;have eJ:jk f tm s q=⟨f.c+k,E'++f.E,rowsOf V++f.G,q⟩:=by unfold jk;rw [b1]
       rw [en.fn];refine amJ (s,u) ⟨B,I.trans b2 (cK _),?_⟩ ?_
       .rw [eJ];show Sat (ab u [] (rowsOf V++f.G)++_) w';rw [bg,cx];rw [en.fh,bg,cx] at b4;exact b4
       .rw [eJ];show lR (aF.env u [] (E'++f.E)++_) _;rw [en.ff] at b3;have e2:az u [] E' (f.E++fr.F)=aF.env u [] (E'++f.E)++aF.env u [] fr.F:=by show aF.env u [] E'++aF.env u [] (f.E++fr.F)=_;rw [su,su,cx]
        rw [<-e2,en.ff];exact b3
      .cases B
     .rw [ra v] at z;have:=xy hK en.ag en.le en.ff en.fh en.fn e st' ρ' w' I M z C;exact jv v this
  next T Z=>exact N T h
  .obtain ⟨st',k1,k2,k3,k4⟩:=aeL h;have hs':Sat (ab ρ [] st'.G++(ab ρ [] fr.H++Φ)) w:=by rw [k3];exact hs
   have Y:lz Q D fr Φ st'.c ρ r K:=by rw [k2];exact hK
   refine WC.p6 _ (k4 ρ []) (br (gV j t o x (st:=st') hs' k1 (λe st2 ρ' w' I M z C=>?_)));by_cases v:e= .nrm
   .subst v;exact ba (gV j t o y C z (Y.less I M))
   .rw [ra v] at z;exact jv v (Y e st2 ρ' w' I M z C)
  .exact N st.h h
 | .loop c,Q,fr,K,st,ρ,w,hs,h,hK=>by
  unfold den at h;split at h
  .rename_i tm p Z;obtain ⟨hl,S⟩:=aI h;obtain ⟨J,en⟩:=AW (tm:=tm) (m:=cO c) hl hs;generalize enter fr tm (cO c) st=f at S en;split at S
   .rename_i s0 hb0;obtain ⟨u,E',V,k,DD,b1,b2,b3,b4⟩:=sU en.lF en.lH en.fx en.sat hb0;have eL:∀s E' V k DD,gL (λn=>f.c+n) f.fix tm.vs 0 (jc _ s)=⟨E',V,k,DD⟩->cS f tm s p=⟨f.c+k,E',rowsOf V,p⟩:=λs E' V k DD hb=>by unfold cS;rw [hb]
    refine Sr (γ:=ay) (λs g w'=>aS f.c J g/\Sat (ab g [] (cS f tm s p).G++(ab g [] f.fr.H++Φ)) w') (λs g=>az g [] (cS f tm s p).E f.fr.F) S u ⟨b2,?_⟩ ?_ (λA s g w' U O=>?_)
    .rw [eL _ _ _ _ _ b1];exact b4
    .rw [eL _ _ _ _ _ b1];exact b3.trans en.sub
    .have hx:=gV j t o c (fr:=f.fr) (st:=cS f tm s p) (ρ:=g) (Q:=Exit.then (Pp A r (λs g w'=>aS f.c J g/\Sat (ab g [] (cS f tm s p).G++(ab g [] f.fr.H++Φ)) w') (λs g=>az g [] (cS f tm s p).E f.fr.F) fr.n D) Q) O.2 U (λe st' ρ' w2 I M z C=>?_)
     .rw [en.fn] at hx;exact hx
     .have W:f.c<=(cS f tm s p).c:=by unfold cS;generalize gL (λn=>f.c+n) f.fix tm.vs 0 (jc _ s)=L;obtain ⟨a,b,c,d⟩:=L;exact qS _ _
      by_cases v:e= .nrm
      .subst v;have B:(match nL f tm st'.E st'.G with|some s=>A s|none=>none)=some r:=z;split at B
       .rename_i s' hb;obtain ⟨ρ3,E2,R2,k2,DD2,d1,d2,d3,d4⟩:=sU en.lF en.lH en.fx C hb;rw [en.fn];refine Nz s' ρ3 B ⟨(O.1.trans (I.less W) (cK _)).trans d2 (cK _),?_⟩ ?_
        .rw [eL _ _ _ _ _ d1];exact d4
        .rw [eL _ _ _ _ _ d1];exact d3
       .cases B
      .rw [ra v] at z;have:=xy hK en.ag en.le en.ff en.fh en.fn e st' ρ' w2 (O.1.trans (I.less W) (cK _)) (dx W M) z C;exact jv v this
   .cases S
  .rename_i k T Z;refine Sr (γ:=ay) (λs g w'=>aS st.c ρ g/\st.c<=s.c/\Sat (ab g [] s.G++(ab g [] fr.H++Φ)) w') (λs g=>az g [] s.E fr.F) h ρ ⟨.refl,cK _,hs⟩ .refl (λA s g w' U O=>?_);refine gV j t o c (st:=s) O.2.2 U (λe st' ρ' w2 I M z C=>?_);by_cases v:e= .nrm
   .subst v;exact Nz st' ρ' z ⟨O.1.trans I O.2.1,dx O.2.1 M,C⟩ .refl
   .rw [ra v] at z;exact jv v (hK e st' ρ' w2 (O.1.trans I O.2.1) (dx O.2.1 M) z C)
  .cases h
 | .region id ops false,Q,fr,K,st,ρ,w,hs,h,hK=>by
  unfold den at h;split at h
  .exact afi (fr:=frL fr) (st:=stL fr st _) j t o (aoJ hs) h (amp hK)
  .exact afi j t o hs h hK
 | .region id ops true,Q,fr,K,st,ρ,w,hs,h,hK=>by
  unfold den at h;split at h
  next th T Z=>exact RT (st:={ st with h:=T }) j t o hs h hK
  .exact RT j t o hs h hK
 | .scope _,Q,fr,K,st,ρ,w,hs,h,hK=>by unfold den at h;cases h
 | .rangeFunc _ _ _ _,Q,fr,K,st,ρ,w,hs,h,hK=>by unfold den at h;cases h
end
def sA(l:Nat):Code->Bool
 | .label j=>j==l
 | .seq x y=>sA l x||sA l y
 |_=>false
theorem apR{l:Nat}:(c:Code)->sA l c=false->findLabel c l=none:=λc=>by
 induction c with
 |label j=>
  intro h;unfold sA at h;unfold findLabel;rw [h];rfl
 |seq x y b a=>
  intro h;simp only [sA,l5] at h;simp only [findLabel,b h.1,a h.2]
 |_=>intro _;rfl
theorem Zq{l:Nat}:(c:Code)->sA l c=true->∃r,findLabel c l=some r:=λc=>by
 induction c with
 |label j=>
  intro h;unfold sA at h;unfold findLabel;rw [h];exact ⟨_,rfl⟩
 |seq x y b a=>
  intro h;simp only [sA,e9] at h;unfold findLabel;cases hx:findLabel x l with
  |some r=>exact ⟨_,rfl⟩
  |none=>
   rcases h with h|h
   .obtain ⟨r,d⟩:=b h;rw [hx] at d;cases d
   .exact a h
 |_=>intro h;cases h
def Jf(P:Program)(ρ:ze)(l:Nat):Code->bh->bh
 | .seq x y,Q=>aD (sA l x) (Jf P ρ l x (Exit.then (y.wpIn (FW ρ) 0 P Q) Q)) (Jf P ρ l y Q)
 |_,Q=>Q
theorem al9{P:Program}{ρ:ze}{l:Nat}:(c:Code)->{r:Code}->{Q:bh}->{a:Act}->{w:World}->findLabel c l=some r->Jf P ρ l c Q .normal a w->r.wpIn (FW ρ) 0 P Q a w:=λc=>by
 induction c with
 |label j=>
  intro r Q a w b h;unfold findLabel at b;split at b
  .cases b;exact wpIn_skip h
  .cases b
 |seq x y f e=>
  intro r Q a w b h;unfold Jf at h;unfold findLabel at b;cases hx:sA l x
  .rw [hx] at h;rw [apR x hx] at b;exact e b h
  .rw [hx] at h;obtain ⟨g,d⟩:=Zq x hx;rw [d] at b;cases b;exact wpIn_seq (f d h)
 |_=>intro r Q a w b h;cases b
def FB(l:Nat):Code->Nat
 | .seq x y=>aD (sA l x) (Nat.lor (FB l x) (cO y)) (FB l y)
 |_=>0
def CC(st:aC):aC:=match st.h with
 | .s h=>{ st with h:=h }
 |_=>st
abbrev gtk{R:Type}(l:Nat)(A:aC->Option R)(K:XE->aC->Option R):XE->aC->Option R
 | .gto j,st=>aD (Nat.beq j l) (A st) none
 |e,st=>K e st
def ON{R:Type}(X:Cx)(tb:List aA)(tp:List bZ)(l:Nat)(fr:Fr):Code->(XE->aC->Option R)->aC->Option R
 | .seq x y,K,st=>aD (sA l x) (ON X tb tp l fr x (yd (den X tb tp y fr K) K) st) (ON X tb tp l fr y K st)
 | .label _,K,st=>K .nrm st
 |_,_,_=>none
def NC{R:Type}(X:Cx)(tb:List aA)(tp:List bZ)(l:Nat)(fr:Fr)(K:XE->aC->Option R)(KL:aC->Option R):Code->aC->Option R
 | .seq x y,st=>aD (sA l x) (NC X tb tp l fr K KL x (CC st)) (den X tb tp x fr (yd (λst=>NC X tb tp l fr K KL y st) K) (CC st))
 | .label _,st=>KL st
 |_,_=>none
def amN{R:Type}(X:Cx)(tb:List aA)(tp:List bZ)(c:Code)(fr:Fr)(K:XE->aC->Option R)(st:aC):Option R:=match st.h with
 | .n l (.j tm p q)=>aD (sA l c) (
   NC X tb tp l fr (gtk l (λ_=>none) K) (λst1=>aD (st1.low fr) (
     match nL (enter fr tm (FB l c) st1) tm (enter fr tm (FB l c) st1).Et (enter fr tm (FB l c) st1).Gt with
     |some s=>aj (λagain s=>ON X tb tp l (enter fr tm (FB l c) st1).fr c (gtk l (λst'=>match nL (enter fr tm (FB l c) st1) tm st'.E st'.G with
       |some s=>again s
       |none=>none) (λe st'=>K e (Bg e (enter fr tm (FB l c) st1) st'))) (cS (enter fr tm (FB l c) st1) tm s q)) X.fl s
     |none=>none) none) c { st with h:=p }) none
 |_=>none
section
variable {X : Cx} {tb : List aA} {tp : List bZ} {σ : ze} {D : x3} {R : Type} {r : R} {Φ : Ctx}
theorem afl{Q:bh}{l n:Nat}{E:Env}{w:World}{e:XE}{ρ:ay}{J:Act->World->Prop}(a:∀j,e≠ .gto j)(h:NV Q e ρ n D E w):NV (Exit.jump l J Q) e ρ n D E w:=by cases e <;> first|exact ((a _) rfl).elim|exact h
theorem anx{l:Nat}(k:∀it∈X.Γ,it∈Φ)(o:∀e∈tb,e.Ok X.P X.Γ)(m:∀e∈tp,e.Ok X.P X.Γ):∀(c:Code) {Q:bh} {fr:Fr} {K:XE->aC->Option R} {st:aC} {ρ:ay} {w:World},Sat (ab ρ [] st.G++(ab ρ [] fr.H++Φ)) w->
  ON X tb tp l fr c K st=some r->lz Q D fr Φ st.c ρ r K->∀a,Fits fr.n (az ρ [] st.E fr.F) a->a.defers=D->Jf X.P σ l c Q .normal a w:=λc=>by
 induction c with
 |label j=>intro Q fr K st ρ w b h d a f hd;exact d .nrm st ρ w .refl (cK _) h b a f hd
 |seq x y i g=>
  intro Q fr K st ρ w b h d a f hd;unfold ON at h;unfold Jf;cases hx:sA l x
  .rw [hx] at h;exact g b h d a f hd
  .rw [hx] at h;refine i (Q:=Exit.then (y.wpIn (FW σ) 0 X.P Q) Q) b h (λe st' ρ' w' u t q s=>?_) a f hd;by_cases p:e= .nrm
   .subst p;exact ba (gV k o m y s q (d.less u t))
   .rw [ra p] at q;exact jv p (d e st' ρ' w' u t q s)
 |_=>intro Q fr K st ρ w b h;cases h
theorem aeo{st:aC}:(CC st).c=st.c/\(CC st).E=st.E/\(CC st).G=st.G:=by unfold CC;split <;> exact ⟨rfl,rfl,rfl⟩
theorem aiO{l:Nat}(s:∀it∈X.Γ,it∈Φ)(u:∀e∈tb,e.Ok X.P X.Γ)(t:∀e∈tp,e.Ok X.P X.Γ){N:bh}{fr:Fr}{K:XE->aC->Option R}{O:aC->Option R}{c0:Nat}{ρ0:ay}(S:lz N D fr Φ c0 ρ0 r K):∀(c:Code) {Q:bh} {st:aC} {ρ:ay} {w:World},
  (∀e (E:Env) (ρ:ay) w,e≠ .nrm->NV N e ρ fr.n D E w->NV Q e ρ fr.n D E w)->
  (∀st1 b w1,aS c0 ρ0 b->c0<=st1.c->O st1=some r->Sat (ab b [] st1.G++(ab b [] fr.H++Φ)) w1->∀a,Fits fr.n (az b [] st1.E fr.F) a->a.defers=D->Jf X.P σ l c Q .normal a w1)->
  sA l c=true->aS c0 ρ0 ρ->c0<=st.c->Sat (ab ρ [] st.G++(ab ρ [] fr.H++Φ)) w->
  NC X tb tp l fr K O c st=some r->WC X.P σ c Q fr.n D (az ρ [] st.E fr.F) w:=λc=>by
 induction c with
 |label j=>intro Q st ρ w hQ k _ ha d m h;exact aaC (λa i hd=>k st ρ w ha d h m a i hd)
 |seq x y q p=>
  intro Q st ρ w hQ k o ha d m h;obtain ⟨p1,p2,L⟩:=aeo (st:=st);unfold NC at h;cases hx:sA l x
  .rw [hx] at h;simp only [sA,hx,mE] at o;refine br ?_;have:=gV (σ:=σ) (D:=D) s u t x (fr:=fr) (st:=CC st) (ρ:=ρ) (w:=w) (Q:=Exit.then (y.wpIn (FW σ) 0 X.P Q) Q) (by rw [L];exact m) h (λe st' ρ' w' J I C M=>?_)
   .rw [p2] at this;exact this
   .rw [p1] at J I;by_cases f:e= .nrm
    .subst f;refine ba (p hQ (λst1 b w1 B A z v a i hd=>?_) o (ha.trans J d) (dx d I) M C);have:=k st1 b w1 B A z v a i hd;unfold Jf at this;rw [hx] at this;exact this
    .rw [ra f] at C;exact jv f (hQ _ _ _ _ f (S e st' ρ' w' (ha.trans J d) (dx d I) C M))
  .rw [hx] at h;refine br ?_;have:=q (Q:=Exit.then (y.wpIn (FW σ) 0 X.P Q) Q) (st:=CC st) (ρ:=ρ) (w:=w) (λe E ρ w g f=>jv g (hQ e E ρ w g f)) (λst1 b w1 B A z v a i hd=>?_) hx ha (by rw [p1];exact d) (by rw [L];exact m) h
   .rw [p2] at this;exact this
   .have:=k st1 b w1 B A z v a i hd;unfold Jf at this;rw [hx] at this;exact this
 |_=>intro Q st ρ w hQ k o;cases o
theorem apB{c:Code}{Q:bh}{K:XE->aC->Option R}{st:aC}{ρ:ay}{w:World}(Y:∀it∈X.Γ,it∈Φ)(htb:∀e∈tb,e.Ok X.P X.Γ)(Z:∀e∈tp,e.Ok X.P X.Γ)(hs:Sat (ab ρ [] st.G++(ab ρ [] fr.H++Φ)) w)
  (h:amN X tb tp c fr K st=some r) (hK:lz Q D fr Φ st.c ρ r K):WC X.P σ (.scope c) Q fr.n D (az ρ [] st.E fr.F) w:=by
 unfold amN at h;split at h
 .rename_i l tm p q hh;obtain ⟨B,h0⟩:=aI h;obtain ⟨rest,v⟩:=Zq c B
  -- what holds at the label
  let F:En->(fW (jK tm.vs)->Option R)->fW (jK tm.vs)->Option R:=λf J s=>ON X tb tp l f.fr c (gtk l (λst'=>match nL f tm st'.E st'.G with
     |some s=>J s
     |none=>none) (λe st'=>K e (Bg e f st'))) (cS f tm s q)
  let I:Nat->Act->World->Prop:=λm a w=>∃(f:En) (o:ay),(f.fr.F=f.E++fr.F/\f.fr.H=f.G++fr.H/\f.fr.n=fr.n/\aF.low f.c f.fr.F=true/\bD f.c f.fr.H=true/\(∀t q,f.fix t=some q->q.1.low f.c=true/\AV.cq f.c q.2=true))/\aS st.c ρ o/\st.c<=f.c/\
   Pp (aj (F f) m) r (λs (g:ay) w'=>aS f.c o g/\Sat (ab g [] (cS f tm s q).G++(ab g [] f.fr.H++Φ)) w') (λs g=>az g [] (cS f tm s q).E f.fr.F) fr.n D a w
  have i:∀m a w,I m a w->Jf X.P σ l c (Exit.jump l (λC w'=>∃N<m,I N C w') Q) .normal a w:=by
   rintro m a w ⟨f,o,⟨ff,fh,fn,lF,lH,fx⟩,hag,hle,s,g,hm,hJ,hF,hD⟩;obtain ⟨N,rfl,hm'⟩:=NS hm;have eL:∀s E' R' k DD,gL (λn=>f.c+n) f.fix tm.vs 0 (jc _ s)=⟨E',R',k,DD⟩->cS f tm s q=⟨f.c+k,E',rowsOf R',q⟩:=λs E' R' k DD hb=>by unfold cS;rw [hb]
   have hc:f.c<=(cS f tm s q).c:=by unfold cS;generalize gL (λn=>f.c+n) f.fix tm.vs 0 (jc _ s)=L;obtain ⟨a,b,c,d⟩:=L;exact qS _ _
   refine anx (σ:=σ) (D:=D) Y htb Z c (fr:=f.fr) (st:=cS f tm s q) (ρ:=g) (Q:=Exit.jump l (λC w'=>∃m''<N+1,I m'' C w') Q) hJ.2 hm' (λe st' ρ' w2 U T A S=>?_) a (by rw [fn];exact hF) hD;by_cases u:∃j,e= .gto j
   .obtain ⟨j,rfl⟩:=u;unfold gtk at A;obtain ⟨hj,O⟩:=aI A;have:=b0 hj;subst this;dsimp only at O;split at O
    .rename_i s' hb;obtain ⟨V,E2,R2,k2,DD2,d1,d2,d3,d4⟩:=sU lF lH fx S hb;refine λa2' hf2 hd2=>⟨rfl,N,l7 _,f,o,⟨ff,fh,fn,lF,lH,fx⟩,hag,hle,s',V,O,⟨(hJ.1.trans (U.less hc) (cK _)).trans d2 (cK _),?_⟩,?_,hd2⟩
     .rw [eL _ _ _ _ _ d1];exact d4
     .rw [fn] at hf2;show Fits fr.n (az V [] (cS f tm s' q).E f.fr.F) a2';rw [eL _ _ _ _ _ d1];exact hf2.p6 d3
    .cases O
   .have z:∀j,e≠ .gto j:=λj hj=>u ⟨j,hj⟩;have M:K e (Bg e f st')=some r:=by cases e <;> first|exact ((z _) rfl).elim|exact A
    exact afl z (xy hK hag hle ff fh fn e st' ρ' w2 (hJ.1.trans (U.less hc) (cK _)) (dx hc T) M S)
  refine λa hf hd=>Vk l I v ?_ (λm a w hI=>al9 c v (i m a w hI))
  -- the way to the label
  have hK':lz (Exit.jump l (λa w=>∃m,I m a w) Q) D fr Φ st.c ρ r (gtk l (λ_=>none) K):=λe st1 ρ' w' U T A S=>by
   by_cases u:∃j,e= .gto j
   .obtain ⟨j,rfl⟩:=u;unfold gtk at A;obtain ⟨_,O⟩:=aI A;cases O
   .have z:∀j,e≠ .gto j:=λj hj=>u ⟨j,hj⟩;have M:K e st1=some r:=by cases e <;> first|exact ((z _) rfl).elim|exact A
    exact afl z (hK e st1 ρ' w' U T M S)
  refine aiO (σ:=σ) Y htb Z hK' c (Q:=Exit.jump l (λa w=>∃m,I m a w) Q) (st:={ st with h:=p }) (ρ:=ρ) (λ_ _ _ _ _ h=>h) (λst1 ρ' w' U T A S C hf' hd'=>?_) B .refl (cK _) hs h0 a hf hd;obtain ⟨hl,h2⟩:=aI A;obtain ⟨o,en⟩:=AW (tm:=tm) (m:=FB l c) hl S;generalize enter fr tm (FB l c) st1=f at h2 en;split at h2
  .rename_i s0 hb0;obtain ⟨W,E',R',k,DD,b1,b2,b3,b4⟩:=sU en.lF en.lH en.fx en.sat hb0;have eL:cS f tm s0 q=⟨f.c+k,E',rowsOf R',q⟩:=by unfold cS;rw [b1]
   have key:I X.fl C w':=by
    refine ⟨f,o,⟨en.ff,en.fh,en.fn,en.lF,en.lH,en.fx⟩,U.trans en.ag T,dx T en.le,s0,W,h2,⟨b2,?_⟩,?_,hd'⟩
    .rw [eL];exact b4
    .show Fits fr.n (az W [] (cS f tm s0 q).E f.fr.F) C;rw [eL];exact hf'.p6 (b3.trans en.sub)
   have mono:∀(c:Code) (Q1 Q2:bh),(∀e a w,Q1 e a w->Q2 e a w)->∀a w,Jf X.P σ l c Q1 .normal a w->Jf X.P σ l c Q2 .normal a w:=λc=>by
    induction c with
    |seq x y ihx ihy=>
     intro Q1 Q2 hq a w h;unfold Jf at h ⊢;cases hx:sA l x
     .rw [hx] at h;exact ihy Q1 Q2 hq a w h
     .rw [hx] at h;refine ihx _ _ (λe a w u=>?_) a w h;cases e with
      |normal=>exact wpIn_mono u hq
      |_=>exact hq _ _ _ u
    |_=>intro Q1 Q2 hq a w h;exact hq _ _ _ h
   exact mono c _ _ (λe a w u=>by
    cases e <;> first|exact u|exact ⟨u.1,let ⟨N,_,hI⟩:=u.2;⟨N,hI⟩⟩) C w' (i X.fl C w' key)
  .cases h2
 .cases h
end
variable {w : World} {ρ : ay}
def rI:Nat->List AV->aF
 |_,[]=>[]
 |k,v::vs=>(k,none,v)::rI (k+1) vs
theorem FK{ρ:ay}:{vs:List AV}->{k:Nat}->aF.env ρ [] (rI k vs)=iota k (AV.al ρ vs)
 |[],_=>rfl
 |v::vs,k=>by simp only [rI,aF.env,AV.al,iota,aB.get_none,FK]
structure pM where
 f:FuncId
 fn:Func
def pM.Ok(P:Program)(c:pM):Prop:=Enters P c.f/\P.funcs[c.f]? =some c.fn
def UH:List pM->Nat->Option pM
 |[],_=>none
 |c::l,f=>aD (Nat.beq c.f f) (some c) (UH l f)
theorem Sd{P:Program}{f:Nat}{c:pM}:{l:List pM}->(∀c∈l,c.Ok P)->UH l f=some c->c.Ok P/\c.f=f
 |[],_,h=>by cases h
 |c'::l,hl,h=>by
  unfold UH at h;rcases ew h with ⟨d,a⟩|⟨_,a⟩
  .cases a;exact ⟨hl _ (c8 ..),b0 d⟩
  .exact Sd (λc b=>hl c (cp _ b)) a
structure YC(R:Type) where
 id:Nat
 rnd:List AV->aC->(Bool->Nat->aC->Option R)->Option R
def YOk{R:Type}(X:Cx)(y:YC R)(r:R)(ly:Nat)(ρ0:ay)(H0:List Row)(Φ:Nat->Ctx):Prop:=
 ∀(vs:List AV) (st:aC) (ρ:ay) (w:World) (H1:List Row) (KY:Bool->Nat->aC->Option R),y.id<st.c->aS (y.id+1) ρ0 ρ->AV.cq st.c vs=true->bD st.c st.G=true->bD st.c (H1++H0)=true->
  Sat (ab ρ [] st.G++(ab ρ [] (H1++H0)++Φ 0)) w->y.rnd vs st KY=some r->
  Yld X.P ly (AV.al ρ vs) w (λv w'=>∃b p' st' ρ',v= .bool b/\aS st.c ρ ρ'/\st.c<=st'.c/\KY b p' st'=some r/\Sat (ab ρ' [] st'.G++(ab ρ' [] (H1++H0)++Φ p')) w')
def noG:List Row->Bool
 |[]=>true
 |r::G=>vj r.gd&&noG G
theorem aka:{G:List Row}->noG G=true->∀r,r∈G->r.gd=none
 |[],_,_,h=>by cases h
 |x::G,h,r,a=>by
  simp only [noG,au] at h;rcases List.mem_cons.1 a with rfl|a
  .cases b:r.gd with
   |none=>rfl
   |some k=>rw [b] at h;cases h.1
  .exact aka h.2 r a
theorem Vh{T T':aB}(h:∀r,r∈G->r.gd=none):ab ρ T G=ab ρ T' G:=
 qQ λr a=>Row.Fc (by rw [h r a];simp)
theorem abK{T:aB}{fr:Fr}(b:FT T fr):ab ρ T fr.H=ab ρ [] fr.H:=
 qQ λr a=>Row.Fc (b.2 r a)
def ahi{R:Type}(y:YC R)(T:aB)(fr:Fr)(st:aC)(o:Oper)(p:Nat)(K:Nat->cL R):Option (Option R):=match o.guard,o.op,o.dst with
 |none,.call c,some d=>(match c.callee with
  | .value fo=>(match bw T st.E fr.F none fo with
   |some (.nv i)=>some (aD (Nat.beq i y.id&&Nat.beq p 0&&Nat.blt d fr.n&&sC (some d) T&&st.low fr&&noG st.G) (match vF T st.E fr.F none c.args.toList with
     |some vs=>aD (AV.cq st.c vs) (y.rnd vs st (λb p' st'=>K p' { st' with E:=cM (some d) none (.bool b) st.E,G:=o8 st'.G,h:=st.h })) none
     |none=>none) none)
   |_=>none)
  |_=>none)
 |_,_,_=>none
inductive UG where
 |db|skip|run|no
def unK(ops:zj)(fr:Fr)(kn:zm)(E:aF)(o:Oper):UG:=match o.guard with
 |none=> .db
 |some k=>aD (xg k.1 kn) (match (ops[k.1]?).bind (·.dst) with
  |some rj=>aD (Nat.blt rj fr.n) (match ez E fr.F rj with
   |some (none,.bool b)=>(match AH k.2 b with
    |true=> .run
    |false=> .skip)
   |_=> .no) .no
  |none=> .no) .db
def knT(ops:zj)(t:Tmp):zm->Bool
 |[]=>false
 |j::kn=>(match (ops[j]?).bind (·.dst) with
  |some d=>Nat.beq d t
  |none=>false)||knT ops t kn
def VL(ops:zj)(fr:Fr)(kn:zm)(E:aF)(o:Oper):Oper:=match o.guard,o.op with
 |none,.pick (.tmp t) x y=>aD (knT ops t kn) (match ez E fr.F t with
  |some (none,.bool v)=>(match v with
   |true=>{ o with op:= .move x }
   |false=>{ o with op:= .move y })
  |_=>o) o
 |_,_=>o
def unO(ops:zj)(fr:Fr)(kn:zm)(E:aF)(o:Oper):UG->Oper
 | .run=>{ o with guard:=none }
 |_=>VL ops fr kn E o
def pJ{R:Type}(X:Cx)(tb:List aA)(y:YC R)(ops:zj)(fr:Fr):zj->zm->aB->aC->Nat->(Nat->cL R)->Option R
 |[],_,T,st,p,K=>aD (Fe T fr st) (K p (Bx T st)) none
 |o::l,kn,T,st,p,K=>match unK ops fr kn st.E o with
  | .no=>none
  | .skip=>(match o.guard with
   |some k=>aD (NK fr.n o.dst&&sC o.dst T&& !(Rf k T)) (pJ X tb y ops fr l kn T { st with E:=cM o.dst (some k) (.raw undef) st.E } p K) none
   |none=>none)
  |u=>match ahi y T fr st (unO ops fr kn st.E o u) p (λp' st'=>pJ X tb y ops fr l kn T st' p' K) with
   |some q=>q
   |none=>stepG ops T fr st (unO ops fr kn st.E o u) λT g=>ZR X tb T fr st g (unO ops fr kn st.E o u) λst'=>match st'.h,o.dst with
    | .n j (.c ha hb),some d=>aD (Nat.beq j (ops.length-l.length-1)&&sC (some d) T) (match bC st'.E d with
      |some (none,.bool b)=>cond b (pJ X tb y ops fr l (j::kn) T { st' with E:=(d,none,.bool true)::st'.E,h:=ha } p K) (pJ X tb y ops fr l (j::kn) T { st' with E:=(d,none,.bool false)::st'.E,h:=hb } p K)
      |_=>none) (pJ X tb y ops fr l kn T st' p K)
    |_,_=>pJ X tb y ops fr l kn T st' p K
section
variable {R : Type} {r : R} {X : Cx} {tb : List aA} {y : YC R} {σ : ze} {Q : bh} {D : x3} {ops : zj} {fr : Fr} {Φ : Nat -> Ctx} {ly : Nat} {H0 H1 : List Row} {ρ0 : ay}
theorem arE{P:Program}{n:Nat}{E:Env}{w:World}{ops:zg}{rest:zj}{o:Oper}{j:Nat}{b:Bool}{rj:Tmp}{i:Bool}(d:o.guard=some (j,b))(k:(ops[j]?).bind (·.dst)=some rj)(hl:look E rj=some (true,.bool i))(hn:Nat.blt rj n=true)(hb:AH b i=true)
  (h:WL P σ ops Q n D ({ o with guard:=none }::rest) E w):WL P σ ops Q n D (o::rest) E w:=λa g l=>by
 have c:=h a g l;have f:=Hg (ops:=ops) d k hl g hn;rw [<-OG,hb] at f;unfold wpListIn at c ⊢;rw [f];have e:Region.wanted { o with guard:=none } (yielded ops a.tmps)=true:=by simp [Region.wanted]
 rw [e] at c;simp only [fj,qU] at c ⊢;exact c
theorem aqS{P:Program}{n:Nat}{E:Env}{w:World}{ops:zg}{rest:zj}{o:Oper}{j:Nat}{b:Bool}{rj:Tmp}{e:Bool}(c:o.guard=some (j,b))(f:(ops[j]?).bind (·.dst)=some rj)(hl:look E rj=some (true,.bool e))(hn:Nat.blt rj n=true)(hb:AH b e=false)(hd:NK n o.dst=true)
  (h:WL P σ ops Q n D rest (uv o.dst false undef E) w):WL P σ ops Q n D (o::rest) E w:=λa d k=>
 wpListIn_step λK i=>by rw [Hg c f hl d hn,<-OG,hb];simp only [fj,eT,qn];have:=d.uv (g:=false) (v:=undef) hd;exact ⟨λ_ _=>trivial,i _ _ (h _ this (by rw [kE];exact k))⟩
def IsY(y:YC R)(ρ0:ay)(ρ:ay)(c:Nat):Prop:=y.id<c/\aS (y.id+1) ρ0 ρ
theorem IsY.less{ρ0 ρ':ay}{c a:Nat}(h:IsY y ρ0 ρ c)(ha:aS c ρ ρ')(b:c<=a):IsY y ρ0 ρ' a:=⟨gr h.1 b,h.2.trans ha h.1⟩
theorem asW{T:aB}{st:aC}{o:Oper}{p:Nat}{K:Nat->cL R}{l:zj}{ρ:ay}{w:World}{q:Option R}(g:(ρ0 y.id).x= .func (.yield ly) #[] #[])(Z:YOk X y r ly ρ0 H0 Φ)(s:fr.H=H1++H0)(hI:IsY y ρ0 ρ st.c)(h1:gi T st.E fr.F)(B:FT T fr)
  (W:Sat (ab ρ T st.G++(ab ρ T fr.H++Φ p)) w) (h:ahi y T fr st o p K=some q) (Y:q=some r)
  (next:∀p' st' ρ' w',gi T st'.E fr.F->aS st.c ρ ρ'->st.c<=st'.c->K p' st'=some r->Sat (ab ρ' T st'.G++(ab ρ' T fr.H++Φ p')) w'->WL X.P σ ops.toArray Q fr.n D l (az ρ' T st'.E fr.F) w'):
  WL X.P σ ops.toArray Q fr.n D (o::l) (az ρ T st.E fr.F) w:=by
 obtain ⟨dst,op,ty,pos,af,gd⟩:=o;unfold ahi at h;split at h
 .rename_i c d z u hd;simp only at z u hd;subst z u hd;split at h
  .rename_i fo C;split at h
   .rename_i i m;injection h with h
    rw [Y] at h;obtain ⟨J,t⟩:=aI h;clear h;simp only [au] at J;obtain ⟨⟨⟨⟨⟨c1,c2⟩,c3⟩,c4⟩,I⟩,c6⟩:=J;have e1:=b0 c1;have e2:=b0 c2;subst e1 e2;split at t
    .rename_i vs f;obtain ⟨b2,h⟩:=aI t;obtain ⟨cc,xs,tys⟩:=c;simp only at C f;subst C;have a:=bL (ρ:=ρ) m;simp only [AV.val] at a;rw [hI.2 _ (l7 _),g] at a;have e:=jW (ρ:=ρ) f;rw [aB.get_none] at e;obtain ⟨_,_,U,S⟩:=aC.cJ.1 I;have hG:=aka c6;have k:Sat (ab ρ [] st.G++(ab ρ [] (H1++H0)++Φ 0)) w:=by rw [<-s,<-abK B,Vh (T':=T) hG];exact W
     have j:=Z vs st ρ w H1 _ hI.1 hI.2 b2 U (by rw [<-s];exact S) k h;refine anR (xs:=xs.toList) (vs:=AV.al ρ vs) a e c3 j (λv w' V=>?_);obtain ⟨b,p',st',ρ',rfl,M,a2,a3,L⟩:=V;rw [<-s] at L;have hE:az ρ' T st.E fr.F=az ρ T st.E fr.F:=sn I M;have:=next p' { st' with E:=cM (some d) none (.bool b) st.E,G:=o8 st'.G,h:=st.h } ρ' w' (h1.out (d:=some d) c4 none (.bool b)) M a2 a3 (by
      have O:=Dq (A:=[]) L;have e3:ab ρ' T (o8 st'.G)=ab ρ' [] (o8 st'.G):=Vh BB;have N:Sat (ab ρ' T (o8 st'.G)++(ab ρ' T fr.H++Φ p')) w':=by rw [e3,abK B];exact O
      exact N)
     rw [xM,hE] at this;simpa [uv,AV.val] using this
    .cases t
   .cases h
  .cases h
 .cases h
theorem aqD{P:Program}{n:Nat}{E:Env}{ops:zg}{rest:zj}{c x y:Operand}{v:Bool}{dst:zf}{ty:TypeId}{pos:String}{af:zh}(g:ar E true c (.bool v))
  (h:WL P σ ops Q n D (⟨dst,.move (cond v x y),ty,pos,af,none⟩::rest) E w):WL P σ ops Q n D (⟨dst,.pick c x y,ty,pos,af,none⟩::rest) E w:=λa d j=>
 wpListIn_plain rfl λK i=>ot rfl (by
  have b:=h a d j;unfold wpListIn at b;have l:Region.wanted ⟨dst,.move (cond v x y),ty,pos,af,none⟩ (yielded ops a.tmps)=true:=rfl;rw [du l] at b;have k:=Oper.wpIn_mono i b;obtain ⟨_,f⟩:=k;rw [show (FW σ).round=σ from rfl,Ls rfl] at f;have e:(execOp a.eval ⟨dst,.pick c x y,ty,pos,af,none⟩).run P w=(execOp a.eval ⟨dst,.move (cond v x y),ty,pos,af,none⟩).run P w:=by cases v <;> simp [execOp,g n a d rfl,asBool]
  rw [e];exact f)
theorem alg{a:zm}{E:aF}:(VL ops fr a E o).dst=o.dst:=by
 unfold VL;split
 .cases knT ops _ a
  .rfl
  .split
   .split <;> rfl
   .rfl
 .rfl
theorem as4{a:zm}{E:aF}{o:Oper}{ρ:ay}{T:aB}{w:World}{l:zj}(h:WL X.P σ ops.toArray Q fr.n D (VL ops fr a E o::l) (az ρ T E fr.F) w):WL X.P σ ops.toArray Q fr.n D (o::l) (az ρ T E fr.F) w:=by
 obtain ⟨dst,op,ty,pos,af,gd⟩:=o;unfold VL at h;split at h
 .rename_i t x y c b;simp only at c b;subst c b;cases hk:knT ops t a
  .rw [hk] at h;exact h
  .rw [hk] at h;split at h
   next v hl=>refine aqD (v:=v) ?_ (by cases v <;> exact h);exact ar.t (by rw [ja,hl];simp [AV.val])
   .exact h
 .exact h
theorem aax{k:Nat×Bool}:{T:aB}->Rf k T=false->T.get (some k)=false
 |[],_=>rfl
 |(k',par,rj,b)::T,h=>by
  simp only [Rf,l5] at h;have a:GK.eq (some k') (some k)=false:=by
   cases hb:GK.eq (some k') (some k)
   .rfl
   .have e:=GK.eq_eq hb;cases e;rw [GK.adZ] at h;cases h.1
  unfold aB.get;rw [a];exact aax h.2
theorem aex(S:∀p,∀it∈X.Γ,it∈Φ p)(V:∀e∈tb,e.Ok X.P X.Γ)(U:(ρ0 y.id).x= .func (.yield ly) #[] #[])(hY:YOk X y r ly ρ0 H0 Φ)(hH:fr.H=H1++H0){K:Nat->cL R}:∀{l:zj} {f:zm} {T:aB} {st:aC} {p:Nat} {ρ:ay} {w:World},IsY y ρ0 ρ st.c->gi T st.E fr.F->sK ops fr.n T->FT T fr->Sat (ab ρ T st.G++(ab ρ T fr.H++Φ p)) w->
  pJ X tb y ops fr l f T st p K=some r->
  (∀p' st' ρ' w',aS st.c ρ ρ'->st.c<=st'.c->K p' st'=some r->Sat (ab ρ' [] st'.G++(ab ρ' [] fr.H++Φ p')) w'->At Q .normal fr.n D (az ρ' [] st'.E fr.F) w')->
  WL X.P σ ops.toArray Q fr.n D l (az ρ T st.E fr.F) w
 |[],f,T,st,p,ρ,w,hI,h1,h2,hf,hs,h,next=>by
  unfold pJ at h;obtain ⟨h3,h4⟩:=aI h;obtain ⟨k1,k2,k3⟩:=KB h3 hf hs;exact cj λa C hd=>next p _ ρ w .refl (by rw [k1];exact cK _) h4 k3 a (C.p6 k2) hd
 |o::l,f,T,st,p,ρ,w,hI,h1,h2,hf,hs,h,next=>by
  have O:∀{f:zm} {T':aB} {st':aC} {p':Nat} {ρ':ay} {w':World},aS st.c ρ ρ'->st.c<=st'.c->gi T' st'.E fr.F->sK ops fr.n T'->FT T' fr->Sat (ab ρ' T' st'.G++(ab ρ' T' fr.H++Φ p')) w'->pJ X tb y ops fr l f T' st' p' K=some r->
    WL X.P σ ops.toArray Q fr.n D l (az ρ' T' st'.E fr.F) w':=λ{f T' st' p' ρ' w'} B z L J I Y a7=>
   aex S V U hY hH (hI.less B z) L J I Y a7 (λp2 st2 ρ2 w2 u s b3 b4=>next p2 st2 ρ2 w2 (B.trans u z) (dx z s) b3 b4)
  -- the operation itself, guarded or not
  have A:∀M:Oper,M.dst=o.dst->(match ahi y T fr st M p (λp' st'=>pJ X tb y ops fr l f T st' p' K) with
   |some q=>q
   |none=>stepG ops T fr st M λT g=>ZR X tb T fr st g M λst'=>match st'.h,o.dst with
    | .n j (.c ha hb),some d=>aD (Nat.beq j (ops.length-l.length-1)&&sC (some d) T) (match bC st'.E d with
      |some (none,.bool b)=>cond b (pJ X tb y ops fr l (j::f) T { st' with E:=(d,none,.bool true)::st'.E,h:=ha } p K) (pJ X tb y ops fr l (j::f) T { st' with E:=(d,none,.bool false)::st'.E,h:=hb } p K)
      |_=>none) (pJ X tb y ops fr l f T st' p K)
    |_,_=>pJ X tb y ops fr l f T st' p K)=some r->WL X.P σ ops.toArray Q fr.n D (M::l) (az ρ T st.E fr.F) w:=λM ho' h=>by
   split at h
   next q W=>exact asW U hY hH hI h1 hf hs W h (λp' st' ρ' w' B z L J I=>O z L B h2 hf I J)
   .refine abA (K:=λT st'=>match st'.h,o.dst with
     | .n j (.c ha hb),some d=>aD (Nat.beq j (ops.length-l.length-1)&&sC (some d) T) (match bC st'.E d with
       |some (none,.bool b)=>cond b (pJ X tb y ops fr l (j::f) T { st' with E:=(d,none,.bool true)::st'.E,h:=ha } p K) (pJ X tb y ops fr l (j::f) T { st' with E:=(d,none,.bool false)::st'.E,h:=hb } p K)
       |_=>none) (pJ X tb y ops fr l f T st' p K)
     |_,_=>pJ X tb y ops fr l f T st' p K) h1 h2 rfl (λ_ h=>h) hf hs (S p) V h (λT' st' ρ' w' B z L J I Y a7 a8=>?_)
    split at Y
    .rename_i j ha hb d hh hd;rcases ew Y with ⟨u,s⟩|⟨_,s⟩
     .simp only [au] at u;split at s
      .rename_i b hl;have one:∀(v:Bool) (h':HT),b=v->pJ X tb y ops fr l (j::f) T' { st' with E:=(d,none,.bool v)::st'.E,h:=h' } p K=some r->WL X.P σ ops.toArray Q fr.n D l (az ρ' T' st'.E fr.F) w':=λv h' hb m=>by
        have:=O (st':={ st' with E:=(d,none,.bool v)::st'.E,h:=h' }) J I (B.out (d:=some d) u.2 none (.bool v)) z L a8 m;refine λa C hd'=>this a (C.p6 ?_) hd';intro t pp hp;rw [ja] at hp ⊢;unfold ez at hp ⊢;cases W:Nat.beq d t
        .rw [jJ W] at hp;exact hp
        .have:=b0 W;subst this;rw [oR W] at hp;rw [hl,hb];exact hp
       rcases wJ s with ⟨c1,c2⟩|⟨c1,c2⟩
       .exact one true ha c1 c2
       .exact one false hb c1 c2
      .cases s
     .exact O J I B z L a8 s
    .exact O J I B z L a8 Y
  unfold pJ at h
  -- what is known of its guard
  have kk:∀{v:Bool},(unK ops fr f st.E o= .run/\v=true\/unK ops fr f st.E o= .skip/\v=false)->∃j i rj bj,o.guard=some (j,i)/\(ops[j]?).bind (·.dst)=some rj/\look (az ρ T st.E fr.F) rj=some (true,.bool bj)/\Nat.blt rj fr.n=true/\AH i bj=v:=λ{v} m=>by
   unfold unK at m;split at m
   .rcases m with ⟨h,_⟩|⟨h,_⟩ <;> cases h
   .rename_i k hg;obtain ⟨j,i⟩:=k;cases hm:xg j f
    .simp only [hm] at m;rcases m with ⟨h,_⟩|⟨h,_⟩ <;> cases h
    .simp only [hm] at m;split at m
     .rename_i rj hr;cases hb:Nat.blt rj fr.n
      .simp only [hb] at m;rcases m with ⟨h,_⟩|⟨h,_⟩ <;> cases h
      .simp only [hb] at m;split at m
       .rename_i b hl;refine ⟨j,i,rj,b,hg,hr,by rw [ja,hl];simp [AV.val],hb,?_⟩;cases hp:AH i b
        .simp only [hp] at m;rcases m with ⟨h,_⟩|⟨_,h⟩
         .cases h
         .exact h.symm
        .simp only [hp] at m;rcases m with ⟨_,h⟩|⟨h,_⟩
         .exact h.symm
         .cases h
       .rcases m with ⟨h,_⟩|⟨h,_⟩ <;> cases h
     .rcases m with ⟨h,_⟩|⟨h,_⟩ <;> cases h
  cases N:unK ops fr f st.E o with
  |no=>rw [N] at h;cases h
  |db=>rw [N] at h;exact as4 (by exact A (VL ops fr f st.E o) alg h)
  |run=>
   rw [N] at h;obtain ⟨j,i,rj,bj,Z,g2,g3,g4,g5⟩:=kk (v:=true) (.inl ⟨N,rfl⟩);exact arE Z (by simpa using g2) g3 g4 g5 (A { o with guard:=none } rfl h)
  |skip=>
   rw [N] at h;obtain ⟨j,i,rj,bj,Z,g2,g3,g4,g5⟩:=kk (v:=false) (.inr ⟨N,rfl⟩);dsimp only at h;rw [Z] at h;obtain ⟨u,s⟩:=aI h;simp only [au] at u;refine aqS Z (by simpa using g2) g3 g4 g5 u.1.1 ?_;have:=O (st':={ st with E:=cM o.dst (some (j,i)) (.raw undef) st.E }) .refl (cK _) (h1.out u.1.2 _ _) h2 hf hs s;rw [xM] at this;have hg:T.get (some (j,i))=false:=aax (by simpa using u.2);rw [hg] at this;exact this
end
def mX{R:Type}(X:Cx)(tb:List aA)(y:YC R):Code->Fr->(Nat->XE->aC->Option R)->Nat->aC->Option R
 | .skip,_,K,p,st=>K p .nrm st
 | .exit i,_,K,p,st=>K p (.ext i) st
 | .ret,_,K,p,st=>K p .ret st
 | .block i c,fr,K,p,st=>mX X tb y c fr (λp=>brk i (K p)) p st
 | .cond c a b,fr,K,p,st=>match bw [] st.E fr.F none c with
  |some (.bool v)=>cnd v (λh=>mX X tb y a fr K p { st with h:=h }) (λh=>mX X tb y b fr K p { st with h:=h }) st.h
  |_=>none
 | .seq a b,fr,K,p,st=>mX X tb y a fr (λp=>yd (mX X tb y b fr K p) (K p)) p (match st.h with
  | .s h=>{ st with h:=h }
  |_=>st)
 | .loop c,fr,K,p,st=>match st.h with
  | .l tm q=>aD (st.low fr) (
   match nL (enter fr tm (cO c) st) tm (enter fr tm (cO c) st).Et (enter fr tm (cO c) st).Gt with
   |some s=>aj (λagain s=>mX X tb y c (enter fr tm (cO c) st).fr (λp'=>yd (λst'=>match nL (enter fr tm (cO c) st) tm st'.E st'.G with
      |some s=>aD (Nat.beq p' p) (again s) none
      |none=>none) (λe st'=>K p' e (Bg e (enter fr tm (cO c) st) st'))) p (cS (enter fr tm (cO c) st) tm s q)) X.fl s
   |none=>none ) none
  |_=>none
 | .region _ ops false,fr,K,p,st=>pJ X tb y ops.toList fr ops.toList [] [] st p (λp=>K p .nrm)
 | .region _ ops true,fr,K,p,st=>match st.h with
  | .r th h=>Lk X tb [] (λ_ _=>none) ops fr th { st with h:=h } (K p .nrm)
  |_=>Lk X tb [] (λ_ _=>none) ops fr [] st (K p .nrm)
 |_,_,_,_,_=>none
section
variable {R : Type} {r : R} {X : Cx} {tb : List aA} {y : YC R} {D : x3} {Φ : Nat -> Ctx} {ly : Nat} {H0 : List Row} {ρ0 : ay}
def Za(Q:bh)(D:x3)(fr:Fr)(Φ:Nat->Ctx)(c0:Nat)(ρ0:ay)(r:R)(K:Nat->XE->aC->Option R):Prop:= ∀p,lz Q D fr (Φ p) c0 ρ0 r (K p)
theorem Za.less{Q:bh}{fr:Fr}{c0 c1:Nat}{ρ0 a:ay}{K:Nat->XE->aC->Option R}(h:Za Q D fr Φ c0 ρ0 r K)(ha:aS c0 ρ0 a)(b:c0<=c1):Za Q D fr Φ c1 a r K:=λp=>(h p).less ha b
theorem Br(j:∀p,∀it∈X.Γ,it∈Φ p)(o:∀e∈tb,e.Ok X.P X.Γ)(t:(ρ0 y.id).x= .func (.yield ly) #[] #[])(O:YOk X y r ly ρ0 H0 Φ):∀(c:Code) {Q:bh} {fr:Fr} {H1:List Row} {K:Nat->XE->aC->Option R} {p:Nat} {st:aC} {ρ:ay} {w:World},fr.H=H1++H0->IsY y ρ0 ρ st.c->Sat (ab ρ [] st.G++(ab ρ [] fr.H++Φ p)) w->
  mX X tb y c fr K p st=some r->Za Q D fr Φ st.c ρ r K->WC X.P none c Q fr.n D (az ρ [] st.E fr.F) w
 | .skip,Q,fr,H1,K,p,st,ρ,w,hH,hI,hs,h,hK=>u6 (hK p .nrm st ρ w .refl (cK _) (by unfold mX at h;exact h) hs)
 | .exit i,Q,fr,H1,K,p,st,ρ,w,hH,hI,hs,h,hK=>Wj (hK p (.ext i) st ρ w .refl (cK _) (by unfold mX at h;exact h) hs)
 | .ret,Q,fr,H1,K,p,st,ρ,w,hH,hI,hs,h,hK=>Cp (hK p .ret st ρ w .refl (cK _) (by unfold mX at h;exact h) hs)
 | .block i c,Q,fr,H1,K,p,st,ρ,w,hH,hI,hs,h,hK=>QZ (Br j o t O c hH hI hs (by unfold mX at h;exact h) (λp=>Rg (hK p)))
 | .cond c a b,Q,fr,H1,K,p,st,ρ,w,hH,hI,hs,h,hK=>by
  unfold mX at h;split at h
  next v hb=>have N:=bL (ρ:=ρ) hb;simp only [AV.val] at N;obtain ⟨h1,T,q1,q2⟩:=Sb h;exact lq N (λhv=>Br j o t O a (st:={ st with h:=h1 }) hH hI hs (q1 hv) hK) (λhv=>Br j o t O b (st:={ st with h:=T }) hH hI hs (q2 hv) hK)
  .cases h
 | .seq a b,Q,fr,H1,K,p,st,ρ,w,hH,hI,hs,h,hK=>by
  unfold mX at h;have z:∀C,mX X tb y a fr (λp=>yd (mX X tb y b fr K p) (K p)) p { st with h:=C }=some r->WC X.P none (.seq a b) Q fr.n D (az ρ [] st.E fr.F) w:=λC hd=>by
   refine br (Br j o t O a (st:={ st with h:=C }) hH hI hs hd (λp' e st' ρ' w' B J u I=>?_));by_cases M:e= .nrm
   .subst M;exact ba (Br j o t O b hH (hI.less B J) I u (hK.less B J))
   .rw [ra M] at u;exact jv M (hK p' e st' ρ' w' B J u I)
  split at h
  next C hh=>exact z C h
  .exact z st.h h
 | .loop c,Q,fr,H1,K,p,st,ρ,w,hH,hI,hs,h,hK=>by
  unfold mX at h;split at h
  .rename_i tm q hh;obtain ⟨hl,T⟩:=aI h;obtain ⟨U,en⟩:=AW (tm:=tm) (m:=cO c) hl hs;generalize enter fr tm (cO c) st=f at T en;split at T
   .rename_i s0 hb0;obtain ⟨ρ2,E',Y,k,DD,b1,b2,b3,b4⟩:=sU en.lF en.lH en.fx en.sat hb0;have W:∀s E' Y k DD,gL (λn=>f.c+n) f.fix tm.vs 0 (jc _ s)=⟨E',Y,k,DD⟩->cS f tm s q=⟨f.c+k,E',rowsOf Y,q⟩:=λs E' Y k DD hb=>by unfold cS;rw [hb]
    refine Sr (γ:=ay) (λs g w'=>aS f.c U g/\Sat (ab g [] (cS f tm s q).G++(ab g [] f.fr.H++Φ p)) w') (λs g=>az g [] (cS f tm s q).E f.fr.F) T ρ2 ⟨b2,?_⟩ ?_ (λA s g w' hag V=>?_)
    .rw [W _ _ _ _ _ b1];exact b4
    .rw [W _ _ _ _ _ b1];exact b3.trans en.sub
    .have N:f.c<=(cS f tm s q).c:=by unfold cS;generalize gL (λn=>f.c+n) f.fix tm.vs 0 (jc _ s)=L;obtain ⟨a,b,c,d⟩:=L;exact qS _ _
     have hx:=Br j o t O c (fr:=f.fr) (H1:=f.G++H1) (st:=cS f tm s q) (ρ:=g) (Q:=Exit.then (Pp A r (λs g w'=>aS f.c U g/\Sat (ab g [] (cS f tm s q).G++(ab g [] f.fr.H++Φ p)) w') (λs g=>az g [] (cS f tm s q).E f.fr.F) fr.n D) Q)
      (by rw [en.fh,hH,cx]) ((hI.less en.ag en.le).less V.1 N) V.2 hag (λp' e st' ρ' w2 B J u I=>?_)
     .rw [en.fn] at hx;exact hx
     .by_cases M:e= .nrm
      .subst M;have S:(match nL f tm st'.E st'.G with|some s=>aD (Nat.beq p' p) (A s) none|none=>none)=some r:=u;split at S
       .rename_i s' hb;obtain ⟨hp,a5⟩:=aI S;have:=b0 hp;subst this;obtain ⟨Z,E2,R2,k2,DD2,d1,d2,d3,d4⟩:=sU en.lF en.lH en.fx I hb;rw [en.fn];refine Nz s' Z a5 ⟨(V.1.trans (B.less N) (cK _)).trans d2 (cK _),?_⟩ ?_
        .rw [W _ _ _ _ _ d1];exact d4
        .rw [W _ _ _ _ _ d1];exact d3
       .cases S
      .rw [ra M] at u;have:=xy (hK p') en.ag en.le en.ff en.fh en.fn e st' ρ' w2 (V.1.trans (B.less N) (cK _)) (dx N J) u I;exact jv M this
   .cases T
  .cases h
 | .region id ops false,Q,fr,H1,K,p,st,ρ,w,hH,hI,hs,h,hK=>by
  unfold mX at h;obtain ⟨l⟩:=ops;exact bn (aex (σ:=none) j o t O hH hI (λx h=>by cases h) (λx h=>by cases h) ⟨λx _=>rfl,λx _=>rfl⟩ hs h (λp' st' ρ' w' B J u I=>hK p' .nrm st' ρ' w' B J u I))
 | .region id ops true,Q,fr,H1,K,p,st,ρ,w,hH,hI,hs,h,hK=>by
  unfold mX at h;have key:∀th C,Lk X tb [] (λ_ _=>none) ops fr th { st with h:=C } (K p .nrm)=some r->WC X.P none (.region id ops true) Q fr.n D (az ρ [] st.E fr.F) w:=λth C hd=>
   RT (K:=λe st=>match e with
    | .nrm=>K p .nrm st
    |_=>none) (st:={ st with h:=C }) (j p) o (λ_ h=>by cases h) hs hd (λe st' ρ' w' B J u I=>by
     cases e with
     |nrm=>exact hK p .nrm st' ρ' w' B J u I
     |_=>cases u)
  split at h
  .exact key _ _ h
  .exact key [] st.h h
 | .label _,Q,fr,H1,K,p,st,ρ,w,hH,hI,hs,h,hK=>by unfold mX at h;cases h
 | .goto _,Q,fr,H1,K,p,st,ρ,w,hH,hI,hs,h,hK=>by unfold mX at h;cases h
 | .scope _,Q,fr,H1,K,p,st,ρ,w,hH,hI,hs,h,hK=>by unfold mX at h;cases h
 | .rangeFunc _ _ _ _,Q,fr,H1,K,p,st,ρ,w,hH,hI,hs,h,hK=>by unfold mX at h;cases h
end
variable {γ : Type} {Ds : γ -> x3}
theorem Sat.swap{w:World}{C D:Ctx}:∀{B A:Ctx},Sat (A++(B++(C++D))) w->Sat (A++(C++(B++D))) w
 |[],A,h=>h
 |x::B,A,h=>by
  have b:Sat ((A++[x])++(B++(C++D))) w:=by simpa using h
  have a:Sat (A++x::(C++(B++D))) w:=by simpa using b.swap
  simpa using Sat.move a
theorem Sat.front{w:World}{A B:Ctx}{x:Item}(h:Sat (A++x::B) w):Sat (x::(A++B)) w:=by have:=Sat.swap (A:=[]) (B:=A) (C:=[x]) (D:=B) (by simpa using h);simpa using this
theorem Sat.behind{w:World}{A B:Ctx}{x:Item}(h:Sat (x::(A++B)) w):Sat (A++x::B) w:=Sat.move (A:=[]) h
theorem Ms{α:Type}{A B:List α}{x:α}:(A++x::B)[A.length]? =some x:=by simp
theorem aeE{α:Type}{A B:List α}{x y:α}:(A++x::B).set A.length y=A++y::B:=by
 induction A with
 |nil=>rfl
 |cons a A ih=>simp [ih]
def FH:Nat->Option Code
 |0=>none
 |1=>some .ret
 |n+2=>aD (Nat.beq (n%2) 0) (some (.exit (n/2))) (some (.goto (n/2)))
def NJ:Nat->XE
 |0=> .nrm
 |1=> .ret
 |n+2=>aD (Nat.beq (n%2) 0) (.ext (n/2)) (.gto (n/2))
theorem aim{fr:Fr}:(p:Nat)->hx (NJ p) fr=fr.H
 |0=>rfl
 |1=>rfl
 |n+2=>by show hx (aD (Nat.beq (n%2) 0) (.ext (n/2)) (.gto (n/2))) fr=fr.H;cases Nat.beq (n%2) 0 <;> rfl
def Nn:Nat->LoopState
 |0=> .ready
 |_+1=> .done
theorem akY(i:Nat):FH (2*i+2)=some (.exit i):=by have b:2*i%2=0:=Nat.mul_mod_right 2 i;have a:2*i/2=i:=Nat.mul_div_cancel_left i (by decide);show aD (Nat.beq (2*i%2) 0) (some (Code.exit (2*i/2))) _=_;rw [b,a]
theorem alD(i:Nat):FH (2*i+3)=some (.goto i):=by
 have b:(2*i+1)%2=1:=by omega
 have a:(2*i+1)/2=i:=by omega
 show aD (Nat.beq ((2*i+1)%2) 0) _ (some (Code.goto ((2*i+1)/2)))=_;rw [b,a]
def ana:List Tmp->List AV->aF->Option aF
 |[],[],E=>some E
 |p::ps,v::vs,E=>ana ps vs ((p,none,v)::E)
 |_,_,_=>none
theorem aeJ{ρ:ay}{F:Env}:{ps:List Tmp}->{vs:List AV}->{E E':aF}->ana ps vs E=some E'->aF.env ρ [] E'++F=aaN ps (AV.al ρ vs) (aF.env ρ [] E++F)/\Nat.beq (AV.al ρ vs).length ps.length=true
 |[],[],E,E',h=>by cases h;exact ⟨rfl,rfl⟩
 |p::ps,v::vs,E,E',h=>by
  obtain ⟨b,a⟩:=aeJ (ρ:=ρ) (F:=F) (ps:=ps) (vs:=vs) (E:=(p,none,v)::E) h;refine ⟨?_,?_⟩
  .rw [b];simp [aF.env,AV.al,aaN]
  .simpa [AV.al] using a
 |[],_::_,_,_,h=>by cases h
 |_::_,[],_,_,h=>by cases h
def aaZ{R:Type}(X:Cx)(tb:List aA)(tp:List bZ)(ps:List Tmp)(assign body:Code)(fr:Fr)(E:aF)(hb:HT)(vs:List AV)(st:aC)(KY:Bool->Nat->aC->Option R):Option R:=match ana ps vs E with
 |some E'=>den X tb tp assign fr (λe st1=>match e with
  | .nrm=>den X tb tp body fr (λe st2=>match e with
   | .nrm=>KY true 0 st2
   | .ret=>KY false 1 st2
   | .ext i=>KY false (2*i+2) st2
   | .gto l=>KY false (2*l+3) st2
   |_=>none) { st1 with h:=hb }
  |_=>none) ⟨st.c,E',st.G,.o⟩
 |none=>none
section
variable {R : Type} {r : R} {X : Cx} {tb : List aA} {tp : List bZ} {fr : Fr}
theorem alc{Φ1:Ctx}(O:∀it∈X.Γ,it∈Φ1)(C:∀e∈tb,e.Ok X.P X.Γ)(B:∀e∈tp,e.Ok X.P X.Γ){ps:List Tmp}{assign body:Code}{E:aF}{hb:HT}{c0 l b:Nat}{ρ0:ay}{r0:LoopState->Option Code->Loop}
  (t:Rec fr.n (az ρ0 [] E fr.F) ps.toArray assign body b r0) (hE:E.low c0=true) (hF:aF.low c0 fr.F=true) (hp:ps.all (λp=>Nat.blt p fr.n)=true):
  YOk X ⟨c0,aaZ X tb tp ps assign body fr E hb⟩ r l ρ0 fr.H (λp=>dX l r0 (Nn p) (FH p)::Φ1):=by
 intro vs st ρ w H1 Y hid T hvs hG U S h;have J:aaZ X tb tp ps assign body fr E hb vs st Y=some r:=h;unfold aaZ at J;split at J
 .rename_i E' Z;have k:aS c0 ρ0 ρ:=T.less (j6 _);obtain ⟨z1,z2⟩:=aeJ (ρ:=ρ) (F:=aF.env ρ [] fr.F) Z;have eE:az ρ0 [] E fr.F=az ρ [] E fr.F:=by rw [az,az,ud k hE,ud k hF]
  rw [eE] at t;have N:bD st.c H1=true:=by
   clear h J S Z
   induction H1 with
   |nil=>rfl
   |cons x H1 ih=>
    simp only [qb,bD,au] at U ⊢;exact ⟨U.1,ih U.2⟩
  -- the row, parted in another way
  have M:∀{G:List Row} {ρ':ay} {x:Item} {w':World},Sat (ab ρ' [] G++(ab ρ' [] (H1++fr.H)++x::Φ1)) w'->Sat (ab ρ' [] G++(ab ρ' [] fr.H++(ab ρ' [] H1++x::Φ1))) w':=λ{G ρ' x w'} a=>by rw [bg,cx] at a;exact a.swap
  have V:∀{G:List Row} {ρ':ay} {x:Item} {w':World},Sat (ab ρ' [] G++(ab ρ' [] fr.H++(ab ρ' [] H1++x::Φ1))) w'->Sat (ab ρ' [] G++(ab ρ' [] (H1++fr.H)++x::Φ1)) w':=λ{G ρ' x w'} a=>by rw [bg,cx];exact a.swap
  -- the loop's row, exchanged
  have lC:∀{G:List Row} {ρ':ay} {x:Item},∃A:Ctx,ab ρ' [] G++(ab ρ' [] fr.H++(ab ρ [] H1++x::Φ1))=A++x::Φ1/\∀z,A++z::Φ1=ab ρ' [] G++(ab ρ' [] fr.H++(ab ρ [] H1++z::Φ1)):=λ{G ρ' x}=>
   ⟨ab ρ' [] G++(ab ρ' [] fr.H++ab ρ [] H1),by simp,λz=>by simp⟩
  have Q:=M S;have g:∀x:Item,∀it∈X.Γ,it∈ab ρ [] H1++x::Φ1:=λx it hi=>gy _ (cp _ (O it hi));have R:Sat (dX l r0 .ready none::(ab ρ [] st.G++(ab ρ [] (H1++fr.H)++Φ1))) w:=by
   have:Sat ((ab ρ [] st.G++ab ρ [] (H1++fr.H))++dX l r0 .ready none::Φ1) w:=by rw [cx];exact S
   have:=this.front;rw [cx] at this;exact this
  refine arl t R z2 hp ?_;rw [<-z1];refine gV (σ:=some l) (D:=[]) (Φ:=ab ρ [] H1++dX l r0 .ready none::Φ1) (g _) C B assign (fr:=fr) (st:=⟨st.c,E',st.G,.o⟩) (ρ:=ρ) Q J (λe st1 y w1 a1 a2 a3 a4=>?_);cases e with
  |nrm=>
   obtain ⟨A,e1,e2⟩:=lC (G:=st1.G) (ρ':=y) (x:=dX l r0 .ready none);have W:Sat (A++dX l r0 .ready none::Φ1) w1:=by rw [<-e1];exact a4
   refine al1 (i:=A.length) t W Ms (λw2 I=>?_);rw [aeE,e2] at I;refine gV (σ:=some l) (D:=[]) (Φ:=ab ρ [] H1++dX l r0 .busy none::Φ1) (g _) C B body (fr:=fr) (st:={ st1 with h:=hb }) (ρ:=y) I a3 (λe d q w3 b1 b2 m b4=>?_);obtain ⟨u,e3,e4⟩:=lC (G:=d.G) (ρ':=q) (x:=dX l r0 .busy none);have f:Sat (u++dX l r0 .busy none::Φ1) w3:=by rw [<-e3];cases e <;> first|exact b4|cases m
   have K:aS st.c ρ q:=a1.trans b1 a2;have Hc:st.c<=d.c:=dx a2 b2;have fin:∀{L:Bool} {p':Nat} {s:World},Y L p' d=some r->Sat ((u++dX l r0 .busy none::Φ1).set u.length (dX l r0 (Nn p') (FH p'))) s->
     ∃b p' st' ρ',Value.bool L= .bool b/\aS st.c ρ ρ'/\st.c<=st'.c/\Y b p' st'=some r/\Sat (ab ρ' [] st'.G++(ab ρ' [] (H1++fr.H)++dX l r0 (Nn p') (FH p')::Φ1)) s:=λ{L p' s} hk a=>by
    rw [aeE,e4,<-aZ K N] at a;exact ⟨L,p',d,q,rfl,K,Hc,hk,V a⟩
   cases e with
   |nrm=>exact anC (i:=u.length) t f Ms (λs a=>fin (p':=0) m a)
   |ret=>exact aa3 (i:=u.length) t f Ms (λs a=>fin (p':=1) m a)
   |ext i=>exact Yw (i:=u.length) t f Ms (λs a=>fin (p':=2*i+2) m (by rw [akY];exact a))
   |gto j=>exact Yu (i:=u.length) t f Ms (λs a=>fin (p':=2*j+3) m (by rw [alD];exact a))
   |kh v=>cases m
   |panE v=>cases m
   |panL v=>cases m
  |_=>cases a3
 .cases J
end
def N5:aF->aF
 |[]=>[]
 |(t,_,v)::E=>(t+10000,some (1000000000,false),v)::N5 E
theorem aeY{ρ:ay}:{E:aF}->{t:Nat}->{p:Bool×Value}->look (aF.env ρ [] (N5 E)) t=some p->10000<=t/\p.1=false
 |[],_,_,h=>by cases h
 |(t',g,v)::E,t,p,h=>by
  simp only [N5,aF.env,look] at h;cases hb:Nat.beq (t'+10000) t
  .rw [hb,b7] at h;exact aeY h
  .rw [hb,ca] at h;have:=b0 hb;cases h;exact ⟨by omega,rfl⟩
theorem Fits.far{n:Nat}{E:Env}{a:Act}{ρ:ay}{F:aF}(h:Fits n E a)(hn:n<=10000):Fits n (E++aF.env ρ [] (N5 F)) a:=by
 refine ⟨h.size,λt g v ht=>?_⟩;rw [Ik] at ht;split at ht
 next p hp=>cases ht;exact h.at_ t g v hp
 .obtain ⟨d,b⟩:=aeY ht;simp only at b;subst b;have c:=h.size;have:¬t<a.tmps.size:=by omega
  simp [Array.getD,this,CJ]
def itE{R:Type}(Kend:Nat->aC->Option R)(p:Nat):XE->aC->Option R
 | .nrm,st=>Kend p st
 | .ret,st=>Kend p st
 |_,_=>none
def rfD{R:Type}(X:Cx)(tb:List aA)(tp:List bZ)(tc:List pM)(ps:List Tmp)(assign body:Code)(gv:AV)(fr:Fr)(st:aC)(hi hb:HT)(Kend:Nat->aC->Option R):Option R:=match gv with
 | .fn f a b=>(match UH tc f with
  |some cl=>(match cl.fn.body with
   |some ib=>aD (cl.fn.results.isEmpty&&Nat.ble (a.length+(b.length+1)) cl.fn.ntmps&&Nat.ble cl.fn.ntmps 10000&&st.low fr&&ps.all (λp=>Nat.blt p fr.n)&&AV.cq st.c a&&AV.cq st.c b) (
     mX X tb ⟨st.c,aaZ X tb tp ps assign body fr st.E hb⟩ ib ⟨N5 (st.E++fr.F),fr.H,cl.fn.ntmps⟩ (itE Kend) 0 ⟨st.c+1,rI 0 (a++ .nv st.c::b),st.G,hi⟩) none
   |none=>none)
  |none=>none)
 |_=>none
section
variable {P : Program} {n : Nat} {D0 : x3} {E : Env} {w : World} {Γ : Ctx} {Q : bh}
theorem Y4{g:Operand}{ps:Array Tmp}{assign body:Code}{f:FuncId}{first cap:zc}(ds:zm)
  (o:Enters P f) (B:ar E true g (.func (.func f) first.toArray cap.toArray)) (A:Sat (eQ ds::Γ) w)
  (h:∀(l b:Nat) (r:LoopState->Option Code->Loop) w1,Rec n E ps assign body b r->Sat (dX l r .ready none::eQ (b::ds)::Γ) w1->
   jI P f (first++[Value.func (.yield l) #[] #[]]++cap) w1 (oz P none l n (mk (b::ds)++D0) Q E)):
  WC P none (.rangeFunc g ps assign body) Q n (mk ds++D0) E w:=λa m hd=>by
 refine wpIn_rangeFunc λfn C=>?_;obtain ⟨r,x⟩:∃r:LoopState->Option Code->Loop,r=λst z=>{ state:=st,pending:=z,fn,tmps:=a.tmps,params:=ps,assign,body,defers:=w.heap.size }:=⟨_,rfl⟩;obtain ⟨d,p⟩:∃d,(w.alloc (.deferred (some []))).alloc (.loop (r .ready none))=d:=⟨_,rfl⟩;have t:Sat (wX w.heap.size (.deferred (some []))::eQ ds::Γ) (w.alloc (.deferred (some []))):=A.push (gD _ _) (λb hb=>by
  have:b=w.heap.size:=by simpa [wX] using hb
  subst this;simp) (λ_ _=>World.alloc_heap_new w _)
 have s:Sat (dX (w.heap.size+1) r .ready none::eQ (w.heap.size::ds)::Γ) d:=by
  rw [<-p];have:=t.Qe.push (new:=dX (w.alloc (.deferred (some []))).heap.size r .ready none) (gD _ _) (λb hb=>by
   have:b=(w.alloc (.deferred (some []))).heap.size:=by simpa [wX] using hb
   subst this;simp) (λ_ _=>World.alloc_heap_new (w.alloc (.deferred (some []))) (.loop (r .ready none)))
  rwa [World.size_alloc] at this
 have i:Rec n E ps assign body w.heap.size r:=⟨fn,a.tmps,⟨m.size,m.at_⟩,x⟩;have u:a.eval g=Value.func (.func f) first.toArray cap.toArray:=B n a m rfl;refine ⟨w.heap.size+1,[{ target:= .collected w.heap.size,args:= #[] }],d,{ target:= .fn (.func f) cap.toArray,args:=first.toArray++ #[Value.func (.yield (w.heap.size+1)) #[] #[]] },d,f,
  (first++[Value.func (.yield (w.heap.size+1)) #[] #[]]++cap).toArray,d,?_,?_,λ_ _=>trivial,?_,K7,?_⟩
 .rw [<-p,x];exact run_enterLoop_outer _ _ _ _ _
 .simp only [resolve,u,Deferred.ofValue];simp [Act.eval]
 .have:=o (first++[Value.func (.yield (w.heap.size+1)) #[] #[]]++cap).toArray d;simp only [invoke];simpa using this
 .refine Uf (Calls.mono (h (w.heap.size+1) w.heap.size r d i s) λe w' o=>?_);cases e with
  |returned v=>
   obtain ⟨j,q,D,y⟩:=o;refine ⟨j,q,D,?_⟩;have k:Fits n E { a with defers:=[{ target:= .collected w.heap.size,args:= #[] }]++a.defers }:=⟨m.size,m.at_⟩;cases j with
   |none=>exact y _ k (by simp [hd,mk])
   |some c=>exact y _ k (by simp [hd,mk])
  |panicked c=>exact o.elim
  |outgrown=>exact o.elim
end
section
variable {R : Type} {r : R} {X : Cx} {tb : List aA} {tp : List bZ} {tc : List pM} {fr : Fr} {Φ : Ctx} {D : x3} {Q : bh}
theorem aiS(I:∀it∈X.Γ,it∈Φ)(L:∀e∈tb,e.Ok X.P X.Γ)(Y:∀e∈tp,e.Ok X.P X.Γ)(Z:∀c∈tc,c.Ok X.P){g:Operand}{ps:Array Tmp}{assign body:Code}{gv:AV}{st:aC}{hi hb:HT}{m:Nat->aC->Option R}{ρ:ay}{w:World}{ds:zm}
  (hg:bw [] st.E fr.F none g=some gv) (hs:Sat (ab ρ [] st.G++(ab ρ [] fr.H++eQ ds::Φ)) w) (h:rfD X tb tp tc ps.toList assign body gv fr st hi hb m=some r)
  (O:∀p st1 d w1 ds',aS st.c ρ d->st.c<=st1.c->m p st1=some r->Sat (ab d [] st1.G++(ab d [] fr.H++eQ ds'::Φ)) w1->NV Q (NJ p) d fr.n (mk ds'++D) (az d [] st.E fr.F) w1):
  WC X.P none (.rangeFunc g ps assign body) Q fr.n (mk ds++D) (az ρ [] st.E fr.F) w:=by
 unfold rfD at h;split at h
 .rename_i f a b;split at h
  .rename_i A hcl;obtain ⟨c1,c2⟩:=Sd Z hcl;subst c2;split at h
   .rename_i ib hib;obtain ⟨k1,h1⟩:=aI h;simp only [au] at k1;obtain ⟨⟨⟨⟨⟨⟨d1,d2⟩,d3⟩,d4⟩,d5⟩,d6⟩,d7⟩:=k1;have k:A.fn.results= #[]:=by simpa using d1
    have hn1:A.fn.ntmps<=10000:=ei d3;obtain ⟨l1,l2,l3,l4⟩:=aC.cJ.1 d4;have N:=bL (ρ:=ρ) hg;simp only [AV.val] at N;have T:AV.cq st.c a=true/\AV.cq st.c b=true:=⟨d6,d7⟩
    -- the marks in front
    have hs0:Sat (eQ ds::(ab ρ [] st.G++(ab ρ [] fr.H++Φ))) w:=by
     have:Sat ((ab ρ [] st.G++ab ρ [] fr.H)++eQ ds::Φ) w:=by rw [cx];exact hs
     have:=this.front;rwa [cx] at this
    refine Y4 ds c1.1 N hs0 (λl j r0 w1 M hs1=>?_);have hr':Rec fr.n (az ρ [] st.E fr.F) ps.toList.toArray assign body j r0:=by simpa using M
    -- yield's name
    generalize B:ρ.set st.c { dB with x:= .func (.yield l) #[] #[] }=d;have o:aS st.c ρ d:=by rw [<-B];exact ay.aX
    have J:(d st.c).x= .func (.yield l) #[] #[]:=by rw [<-B,ay.bI]
    have z:AV.al d (a++ .nv st.c::b)=AV.al ρ a++[Value.func (.yield l) #[] #[]]++AV.al ρ b:=by rw [dv];simp only [AV.al,AV.val,J];rw [AV.cd o _ T.1,AV.cd o _ T.2];simp
    rw [<-z]
    -- the rows
    have hs2:Sat (ab d [] st.G++(ab d [] fr.H++(dX l r0 (Nn 0) (FH 0)::eQ (j::ds)::Φ))) w1:=by
     rw [aZ o l3,aZ o l4];have e1:Sat ([]++([dX l r0 .ready none,eQ (j::ds)]++((ab ρ [] st.G++ab ρ [] fr.H)++Φ))) w1:=by simpa using hs1
     have:=e1.swap;simp only [p5,cx,qb] at this;exact this
    have C:∀p,∀it∈X.Γ,it∈(dX l r0 (Nn p) (FH p)::eQ (j::ds)::Φ):=λp it hi=>cp _ (cp _ (I it hi));have hrr:Rec fr.n (az d [] st.E fr.F) ps.toList.toArray assign body j r0:=by rw [sn d4 o];exact hr'
    have hY:=alc (r:=r) (tp:=tp) (hb:=hb) (Φ1:=eQ (j::ds)::Φ) (λit hi=>cp _ (I it hi)) L Y (l:=l) hrr l1 l2 d5;refine Calls.mono (nk (S:=oz X.P none l fr.n (mk (j::ds)++D) Q (az ρ [] st.E fr.F)) (Sp:=λ_ _=>False) c1.2 hib rfl (by rw [AV.bF];simpa [Nat.add_comm,Nat.add_left_comm,q8] using d2) ?_) (λe w' he=>he);have hE:az d [] (rI 0 (a++ .nv st.c::b)) (N5 (st.E++fr.F))=iota 0 (AV.al d (a++ .nv st.c::b))++aF.env d [] (N5 (st.E++fr.F)):=by show aF.env d [] (rI 0 _)++aF.env d [] _=_;rw [FK]
    have hx:=Br (r:=r) (D:=[]) (Φ:=λp=>dX l r0 (Nn p) (FH p)::eQ (j::ds)::Φ) C L (y:=⟨st.c,aaZ X tb tp ps.toList assign body fr st.E hb⟩) J hY ib (Q:=BP X.P A.fn (oz X.P none l fr.n (mk (j::ds)++D) Q (az ρ [] st.E fr.F)) (λ_ _=>False)) (fr:=⟨N5 (st.E++fr.F),fr.H,A.fn.ntmps⟩) (H1:=[]) (K:=itE m) (st:=⟨st.c+1,rI 0 (a++ .nv st.c::b),st.G,hi⟩) (ρ:=d) (w:=w1) rfl ⟨l7 _,.refl⟩ hs2 h1 (λp e st1 i V a1 a2 W a4=>?_)
    .rw [hE] at hx;exact λaa hf hd=>hx aa (hf.far hn1) hd
    .-- the iterator's end
     have U:aS st.c ρ i:=o.trans (a1.less (j6 _)) (cK _);have Hc:st.c<=st1.c:=Nat.le_of_succ_le a2;have eE:az i [] st.E fr.F=az ρ [] st.E fr.F:=sn d4 U;have fin:m p st1=some r->oz X.P none l fr.n (mk (j::ds)++D) Q (az ρ [] st.E fr.F) (.tuple #[]) V:=λhk=>by
      have t:Sat (dX l r0 (Nn p) (FH p)::(ab i [] st1.G++(ab i [] fr.H++eQ (j::ds)::Φ))) V:=by
       have:Sat ((ab i [] st1.G++ab i [] fr.H)++dX l r0 (Nn p) (FH p)::eQ (j::ds)::Φ) V:=by rw [cx];cases e <;> first|exact a4|cases W
       have:=this.front;rwa [cx] at this
      have at_:∀s,Sat (ab i [] st1.G++(ab i [] fr.H++eQ (j::ds)::Φ)) s->NV Q (NJ p) i fr.n (mk (j::ds)++D) (az ρ [] st.E fr.F) s:=λs u=>by have:=O p st1 i s (j::ds) U Hc hk u;rwa [eE] at this
      match p,t,at_ with
      |0,t,at_=>exact oz.go M t (λs u=>at_ s u)
      |1,t,at_=>exact oz.jump M t (λs u=>Cp (at_ s u))
      |q+2,t,at_=>
       simp only [FH,NJ] at t at_;cases hq:Nat.beq (q%2) 0
       .simp only [hq] at t at_;exact oz.jump M t (λs u=>afq (at_ s u))
       .simp only [hq] at t at_;exact oz.jump M t (λs u=>Wj (at_ s u))
     cases e with
     |nrm=>exact (ahK (vs:=[]) (by simp [k]) (λaa hf=>by rw [k];simp) (v:= .tuple #[]) rfl (fin W):At (BP X.P A.fn _ _) .ret A.fn.ntmps [] _ V)
     |ret=>exact ahK (vs:=[]) (by simp [k]) (λaa hf=>by rw [k];simp) (v:= .tuple #[]) rfl (fin W)
     |_=>cases W
   .cases h
  .cases h
 .cases h
end
def tD:Code->Bool
 | .rangeFunc .. =>true
 | .seq a b=>tD a||tD b
 | .cond _ a b=>tD a||tD b
 | .block _ c=>tD c
 | .loop c=>tD c
 | .scope c=>tD c
 |_=>false
def l8{R:Type}(X:Cx)(tb:List aA)(tp:List bZ)(tc:List pM):Code->Fr->(XE->aC->Option R)->aC->Option R
 | .block i c,fr,K,st=>l8 X tb tp tc c fr (brk i K) st
 | .cond c x y,fr,K,st=>aD (tD x||tD y) (match bw [] st.E fr.F none c with
  |some (.bool b)=>cnd b (λh=>l8 X tb tp tc x fr K { st with h:=h }) (λh=>l8 X tb tp tc y fr K { st with h:=h }) st.h
  |_=>none) (den X tb tp (.cond c x y) fr K st)
 | .seq x y,fr,K,st=>aD (tD x||tD y) (match st.h with
  | .j tm p q=>aD (st.low fr) (
   ai (λs:fW (jK tm.vs)=>l8 X tb tp tc y fr K (jk (enter fr tm (cO x) st) tm s q)) λk=>
   l8 X tb tp tc x (enter fr tm (cO x) st).fr (yd (λst'=>match nL (enter fr tm (cO x) st) tm st'.E st'.G with
     |some s=>k s
     |none=>none) (λe st'=>K e (Bg e (enter fr tm (cO x) st) st'))) ⟨(enter fr tm (cO x) st).c,(enter fr tm (cO x) st).Et,(enter fr tm (cO x) st).Gt,p⟩ ) none
  | .s h=>l8 X tb tp tc x fr (yd (l8 X tb tp tc y fr K) K) { st with h:=h }
  |_=>l8 X tb tp tc x fr (yd (l8 X tb tp tc y fr K) K) st) (den X tb tp (.seq x y) fr K st)
 | .loop c,fr,K,st=>aD (tD c) (match st.h with
  | .l tm p=>aD (st.low fr) (
   match nL (enter fr tm (cO c) st) tm (enter fr tm (cO c) st).Et (enter fr tm (cO c) st).Gt with
   |some s=>aj (λagain s=>l8 X tb tp tc c (enter fr tm (cO c) st).fr (yd (λst'=>match nL (enter fr tm (cO c) st) tm st'.E st'.G with
      |some s=>again s
      |none=>none) (λe st'=>K e (Bg e (enter fr tm (cO c) st) st'))) (cS (enter fr tm (cO c) st) tm s p)) X.fl s
   |none=>none ) none
  |_=>none) (den X tb tp (.loop c) fr K st)
 | .rangeFunc g ps assign body,fr,K,st=>match st.h with
  | .c (.c hi hb) (.r (70000::th) hr)=>(match bw [] st.E fr.F none g with
   |some gv=>rfD X tb tp tc ps.toList assign body gv ⟨fr.F,bm (λr=> !(ie (reach st fr th) r)) st.G++fr.H,fr.n⟩ { st with G:=bm (ie (reach st fr th)) st.G } hi hb (λp st1=>K (NJ p) { st1 with E:=st.E,h:=hr,G:=st1.G++bm (λr=> !(ie (reach st fr th) r)) st.G })
   |none=>none)
  | .c (.c hi hb) hr=>(match bw [] st.E fr.F none g with
   |some gv=>rfD X tb tp tc ps.toList assign body gv fr st hi hb (λp st1=>K (NJ p) { st1 with E:=st.E,h:=hr })
   |none=>none)
  |_=>none
 |c,fr,K,st=>den X tb tp c fr K st
section
variable {P : Program} {ρ : ze} {Q : bh} {n : Nat} {E : Env} {w : World}
def ahP{γ:Type}(J:γ->World->Prop)(Es:γ->Env)(n:Nat)(Ds:γ->x3)(a:Act)(w:World):Prop:=
 ∃g,J g w/\Fits n (Es g) a/\a.defers=Ds g
theorem ade(J:γ->World->Prop)(b:γ->Env)(Ds:γ->x3){D:x3}{x y:Code}
  (c:∀g w',J g w'->WC P ρ y Q n (Ds g) (b g) w') (hx:WC P ρ x (Exit.then (ahP J b n Ds) Q) n D E w):WC P ρ (.seq x y) Q n D E w:=
 λa d hd=>wpIn_seq (wpIn_mono (hx a d hd) (λe k w' h=>by cases e <;> first|exact h|(obtain ⟨g,f,i,j⟩:=h;exact c g w' f k i j)))
theorem ald{J:γ->World->Prop}{a:γ->Env}{D:x3}(g:γ)(d:J g w)(b:lR (a g) E)(e:D=Ds g):At (Exit.then (ahP J a n Ds) Q) .normal n D E w:=
 λf c hd=>⟨g,d,c.p6 b,hd.trans e⟩
def SZ{σ γ τ:Type}(again:σ->Option τ)(r:τ)(J:σ->γ->World->Prop)(Es:σ->γ->Env)(n:Nat)(Ds:γ->x3)(a:Act)(w:World):Prop:=
 ∃s g,again s=some r/\J s g w/\Fits n (Es s g) a/\a.defers=Ds g
theorem aml{σ τ:Type}{F:(σ->Option τ)->σ->Option τ}{r:τ}(J:σ->γ->World->Prop)(d:σ->γ->Env)(Ds:γ->x3){body:Code}{D:x3}
  {N:Nat} {b:σ} (hm:aj F N b=some r) (c:γ) (t:J b c w) (q:lR (d b c) E) (i:D=Ds c)
  (round:∀again s g w,F again s=some r->J s g w->WC P ρ body (Exit.then (SZ again r J d n Ds) Q) n (Ds g) (d s g) w):
  WC P ρ (.loop body) Q n D E w:=λa l hd=>
 IZ (λm=>SZ (aj F m) r J d n Ds) N ⟨b,c,hm,t,l.p6 q,hd.trans i⟩ λm a w ⟨s,g,k,o,p,i⟩=>by
  obtain ⟨j,rfl,f⟩:=NS k;exact wpIn_mono (round (aj F j) s g w f o a p i) λe a w h=>by cases e <;> first|exact h|exact ⟨j,l7 _,h⟩
theorem ajV{σ τ:Type}{a:σ->Option τ}{r:τ}{J:σ->γ->World->Prop}{b:σ->γ->Env}{D:x3}
  (s:σ) (g:γ) (hm:a s=some r) (e:J s g w) (c:lR (b s g) E) (f:D=Ds g):At (Exit.then (SZ a r J b n Ds) Q) .normal n D E w:=
 λh d hd=>⟨s,g,hm,e,d.p6 c,hd.trans f⟩
end
section
variable {R : Type} {r : R} {X : Cx} {tb : List aA} {tp : List bZ} {tc : List pM} {Φ : Ctx} {D : x3}
def SM(Q:bh)(D:x3)(fr:Fr)(Φ:Ctx)(c0:Nat)(ρ0:ay)(r:R)(K:XE->aC->Option R):Prop:= ∀ds,lz Q (mk ds++D) fr (eQ ds::Φ) c0 ρ0 r K
theorem SM.less{Q:bh}{fr:Fr}{c0 c1:Nat}{ρ0 a:ay}{K:XE->aC->Option R}(h:SM Q D fr Φ c0 ρ0 r K)(ha:aS c0 ρ0 a)(b:c0<=c1):SM Q D fr Φ c1 a r K:=λds=>(h ds).less ha b
theorem apJ(U:∀it∈X.Γ,it∈Φ)(W:∀e∈tb,e.Ok X.P X.Γ)(V:∀e∈tp,e.Ok X.P X.Γ)(htc:∀c∈tc,c.Ok X.P):∀(c:Code) {Q:bh} {fr:Fr} {K:XE->aC->Option R} {st:aC} {ρ:ay} {w:World} {ds:zm},Sat (ab ρ [] st.G++(ab ρ [] fr.H++eQ ds::Φ)) w->
  l8 X tb tp tc c fr K st=some r->SM Q D fr Φ st.c ρ r K->WC X.P none c Q fr.n (mk ds++D) (az ρ [] st.E fr.F) w:=λc=>by
 have hΓ':∀ds:zm,∀it∈X.Γ,it∈eQ ds::Φ:=λds it hi=>cp _ (U it hi);have uG:∀(c:Code) {Q:bh} {fr:Fr} {K:XE->aC->Option R} {st:aC} {ρ:ay} {w:World} {ds:zm},Sat (ab ρ [] st.G++(ab ρ [] fr.H++eQ ds::Φ)) w->
   den X tb tp c fr K st=some r->SM Q D fr Φ st.c ρ r K->WC X.P none c Q fr.n (mk ds++D) (az ρ [] st.E fr.F) w:=λc {Q fr K st ρ w ds} u h t=>
  gV (hΓ' ds) W V c u h (t ds)
 induction c with
 |block i c ih=>
  intro Q fr K st ρ w ds u h t;exact QZ (ih u (by unfold l8 at h;exact h) (λds=>Rg (t ds)))
 |cond c x y T S=>
  intro Q fr K st ρ w ds u h t;unfold l8 at h;rcases ew h with ⟨_,h⟩|⟨_,h⟩
  .split at h
   next b hb=>have Z:=bL (ρ:=ρ) hb;simp only [AV.val] at Z;obtain ⟨p,q,h1,N⟩:=Sb h;exact lq Z (λhb=>T (st:={ st with h:=p }) u (h1 hb) t) (λhb=>S (st:={ st with h:=q }) u (N hb) t)
   .cases h
  .exact uG _ u h t
 |seq x y T S=>
  intro Q fr K st ρ w ds u h t;unfold l8 at h;rcases ew h with ⟨_,h⟩|⟨_,h⟩
  .have I:∀h',l8 X tb tp tc x fr (yd (l8 X tb tp tc y fr K) K) { st with h:=h' }=some r->WC X.P none (.seq x y) Q fr.n (mk ds++D) (az ρ [] st.E fr.F) w:=λh' hd=>by
    refine br (T (st:={ st with h:=h' }) u hd (λj e st' ρ' w' C O z B=>?_));by_cases J:e= .nrm
    .subst J;exact ba (S B z (t.less C O))
    .rw [ra J] at z;exact jv J (t j e st' ρ' w' C O z B)
   split at h
   .rename_i tm p q hh;obtain ⟨hl,N⟩:=aI h;obtain ⟨o,en⟩:=AW (tm:=tm) (m:=cO x) hl u;generalize enter fr tm (cO x) st=f at N en;unfold ai at N;refine ade (γ:=(fW (jK tm.vs)×ay)×zm) (λg w'=>l8 X tb tp tc y fr K (jk f tm g.1.1 q)=some r/\aS f.c o g.1.2/\Sat (ab g.1.2 [] (jk f tm g.1.1 q).G++(ab g.1.2 [] fr.H++eQ g.2::Φ)) w') (λg=>az g.1.2 [] (jk f tm g.1.1 q).E fr.F) (λg=>mk g.2++D) (λg w' hg=>?_) ?_
    .obtain ⟨g1,g2,g3⟩:=hg;refine S g3 g1 (t.less (en.ag.trans g2 en.le) ?_);have:f.c<=(jk f tm g.1.1 q).c:=by unfold jk;generalize gL (λn=>f.c+n) f.fix tm.vs 0 (jc _ g.1.1)=L;obtain ⟨a,b,c,d⟩:=L;exact qS _ _
     exact dx en.le this
    .have hx:=T (fr:=f.fr) (st:=⟨f.c,f.Et,f.Gt,p⟩) (ρ:=o) (Q:=Exit.then (ahP (λ(g:(fW (jK tm.vs)×ay)×zm) w'=>l8 X tb tp tc y fr K (jk f tm g.1.1 q)=some r/\aS f.c o g.1.2/\Sat (ab g.1.2 [] (jk f tm g.1.1 q).G++(ab g.1.2 [] fr.H++eQ g.2::Φ)) w') (λg=>az g.1.2 [] (jk f tm g.1.1 q).E fr.F) fr.n (λg=>mk g.2++D)) Q) en.sat N (λj e st' ρ' w' C O z B=>?_)
     .rw [en.fn] at hx;exact hx.p6 _ en.sub
     .by_cases J:e= .nrm
      .subst J;have v:(match nL f tm st'.E st'.G with|some s=>l8 X tb tp tc y fr K (jk f tm s q)|none=>none)=some r:=z;split at v
       .rename_i s hb;obtain ⟨l,E',Y,k,DD,b1,b2,b3,b4⟩:=sU en.lF en.lH en.fx B hb;have eJ:jk f tm s q=⟨f.c+k,E'++f.E,rowsOf Y++f.G,q⟩:=by unfold jk;rw [b1]
        rw [en.fn];refine ald ((s,l),j) ⟨v,C.trans b2 (cK _),?_⟩ ?_ rfl
        .rw [eJ];show Sat (ab l [] (rowsOf Y++f.G)++_) w';rw [bg,cx];rw [en.fh,bg,cx] at b4;exact b4
        .rw [eJ];show lR (aF.env l [] (E'++f.E)++_) _;rw [en.ff] at b3;have e2:az l [] E' (f.E++fr.F)=aF.env l [] (E'++f.E)++aF.env l [] fr.F:=by show aF.env l [] E'++aF.env l [] (f.E++fr.F)=_;rw [su,su,cx]
         rw [<-e2,en.ff];exact b3
       .cases v
      .rw [ra J] at z;have:=xy (t j) en.ag en.le en.ff en.fh en.fn e st' ρ' w' C O z B;exact jv J this
   next h' hh=>exact I h' h
   .exact I st.h h
  .exact uG _ u h t
 |loop c ih=>
  intro Q fr K st ρ w ds u h t;unfold l8 at h;rcases ew h with ⟨_,h⟩|⟨_,h⟩
  .split at h
   .rename_i tm p hh;obtain ⟨hl,N⟩:=aI h;obtain ⟨o,en⟩:=AW (tm:=tm) (m:=cO c) hl u;generalize enter fr tm (cO c) st=f at N en;split at N
    .rename_i s0 hb0;obtain ⟨l,E',Y,k,DD,b1,b2,b3,b4⟩:=sU en.lF en.lH en.fx en.sat hb0;have eL:∀s E' Y k DD,gL (λn=>f.c+n) f.fix tm.vs 0 (jc _ s)=⟨E',Y,k,DD⟩->cS f tm s p=⟨f.c+k,E',rowsOf Y,p⟩:=λs E' Y k DD hb=>by unfold cS;rw [hb]
     refine aml (γ:=ay×zm) (λs g w'=>aS f.c o g.1/\Sat (ab g.1 [] (cS f tm s p).G++(ab g.1 [] f.fr.H++eQ g.2::Φ)) w') (λs g=>az g.1 [] (cS f tm s p).E f.fr.F) (λg=>mk g.2++D) N (l,ds) ⟨b2,?_⟩ ?_ rfl (λM s g w' hag hJ=>?_)
     .rw [eL _ _ _ _ _ b1];exact b4
     .rw [eL _ _ _ _ _ b1];exact b3.trans en.sub
     .have Z:f.c<=(cS f tm s p).c:=by unfold cS;generalize gL (λn=>f.c+n) f.fix tm.vs 0 (jc _ s)=L;obtain ⟨a,b,c,d⟩:=L;exact qS _ _
      have hx:=ih (fr:=f.fr) (st:=cS f tm s p) (ρ:=g.1) (ds:=g.2) (Q:=Exit.then (SZ M r (λs (g:ay×zm) w'=>aS f.c o g.1/\Sat (ab g.1 [] (cS f tm s p).G++(ab g.1 [] f.fr.H++eQ g.2::Φ)) w') (λs g=>az g.1 [] (cS f tm s p).E f.fr.F) fr.n (λg=>mk g.2++D)) Q) hJ.2 hag (λj e st' ρ' w2 C O z B=>?_)
      .rw [en.fn] at hx;exact hx
      .by_cases J:e= .nrm
       .subst J;have v:(match nL f tm st'.E st'.G with|some s=>M s|none=>none)=some r:=z;split at v
        .rename_i s' hb;obtain ⟨ρ3,E2,R2,k2,DD2,d1,d2,d3,d4⟩:=sU en.lF en.lH en.fx B hb;rw [en.fn];refine ajV s' (ρ3,j) v ⟨(hJ.1.trans (C.less Z) (cK _)).trans d2 (cK _),?_⟩ ?_ rfl
         .rw [eL _ _ _ _ _ d1];exact d4
         .rw [eL _ _ _ _ _ d1];exact d3
        .cases v
       .rw [ra J] at z;have:=xy (t j) en.ag en.le en.ff en.fh en.fn e st' ρ' w2 (hJ.1.trans (C.less Z) (cK _)) (dx Z O) z B;exact jv J this
    .cases N
   .cases h
  .exact uG _ u h t
 |rangeFunc g ps assign body=>
  intro Q fr K st ρ w ds u h t;unfold l8 at h;split at h
  .rename_i hi hb th hr hh;split at h
   next gv hg=>have hs2:=uC (A:=[]) (p:=ie (reach st fr th)) u;refine aiS (fr:=⟨fr.F,bm (λr=> !(ie (reach st fr th) r)) st.G++fr.H,fr.n⟩) (st:={ st with G:=bm (ie (reach st fr th)) st.G }) U W V htc hg (by simpa [ab] using hs2) h (λp st1 o w1 j C O z B=>t j (NJ p) { st1 with E:=st.E,h:=hr,G:=st1.G++bm (λr=> !(ie (reach st fr th) r)) st.G } o w1 C O z ?_);rw [bg,cx];rw [aim] at*;simpa [ab] using B
   .cases h
  .rename_i hi hb hr _ hh;split at h
   next gv hg=>exact aiS U W V htc hg u h (λp st1 o w1 j C O z B=>t j (NJ p) { st1 with E:=st.E,h:=hr } o w1 C O z (by rw [aim];exact B))
   .cases h
  .cases h
 |_=>intro Q fr K st ρ w ds u h t;exact uG _ u (by unfold l8 at h;exact h) t
def aop(K:XE->aC->Option R):XE->aC->Option R
 | .nrm,st=>K .nrm st
 | .ret,st=>K .ret st
 |_,_=>none
theorem amc(d:∀it∈X.Γ,it∈Φ)(j:∀e∈tb,e.Ok X.P X.Γ)(g:∀e∈tp,e.Ok X.P X.Γ)(i:∀c∈tc,c.Ok X.P){fn:Func}{S:Value->World->Prop}{Sp:xa->World->Prop}(c:Code){fr:Fr}{K:XE->aC->Option R}{st:aC}{ρ:ay}{w:World}
  (s:Sat (ab ρ [] st.G++(ab ρ [] fr.H++Φ)) w) (h:l8 X tb tp tc c fr (aop K) st=some r) (m:lz (BP X.P fn S Sp) [] fr Φ st.c ρ r K):WC X.P none c (BP X.P fn S Sp) fr.n [] (az ρ [] st.E fr.F) w:=by
 have k:Sat (ab ρ [] st.G++(ab ρ [] fr.H++eQ []::Φ)) w:=by
  have l:Sat (eQ []::((ab ρ [] st.G++ab ρ [] fr.H)++Φ)) w:=by rw [cx];exact s.aoV
  have:=l.behind;rwa [cx] at this
 refine apJ (D:=[]) (ds:=[]) d j g i c k h (λds e st' ρ' w' q p a t=>?_);have o:Sat (eQ ds::(ab ρ' [] st'.G++(ab ρ' [] fr.H++Φ))) w':=by
  have l:Sat ((ab ρ' [] st'.G++ab ρ' [] fr.H)++eQ ds::Φ) w':=by rw [cx];cases e <;> first|exact t|cases a
  have:=l.front;rwa [cx] at this
 rw [ko];cases e with
 |nrm=>exact abb ds o (λb f=>m .nrm st' ρ' b q p a f)
 |ret=>exact RK ds o (λb f=>m .ret st' ρ' b q p a f)
 |_=>cases a
end
abbrev atz{R:Type}(E0:aF)(K:aC->Option R):XE->aC->Option R
 | .nrm,st=>K { st with E:=E0 }
 | .ret,st=>K { st with E:=E0 }
 |_,_=>none
def VW{R:Type}(X:Cx)(tb:List aA)(tp:List bZ)(cl:pM)(cap:List AV)(v:AV)(fr:Fr)(st:aC)(K:aC->Option R):Option R:=match cl.fn.body with
 |some (.seq (.region _ ops false) y)=>(match ops.toList with
  |⟨some d,.call ⟨.builtin .recover,xs,_⟩,_,_,_,none⟩::l=>aD (xs.isEmpty&&l.all Zo&&cl.fn.results.isEmpty&&Nat.ble cap.length cl.fn.ntmps&&Nat.blt d cl.fn.ntmps) (
    E7 X tb tp (λ_ _ _=>none) ops.toList ⟨[],fr.H,cl.fn.ntmps⟩ l [] { st with E:=(d,none,v)::rI 0 cap,h:= .c (.r (List.range cap.length) .o) (.c (.r (List.range cap.length) .o) .o) } (λst1=>den X tb tp y ⟨[],fr.H,cl.fn.ntmps⟩ (atz st.E K) st1)) none
  |_=>none)
 |_=>none
section
variable {X : Cx} {tb : List aA} {tp : List bZ} {D : x3} {R : Type} {r : R} {Φ : Ctx}
theorem OQ{b:pM}{cap:List AV}{v:AV}{st:aC}{K:aC->Option R}{u u':FrameMode}{T:World->Prop}(C:b.Ok X.P)(m:∀it∈X.Γ,it∈Φ)(q:∀e∈tb,e.Ok X.P X.Γ)(p:∀e∈tp,e.Ok X.P X.Γ)
  (Z:Sat (ab ρ [] st.G++(ab ρ [] fr.H++Φ)) w) (Y:(u= .returning/\u'= .returning/\v.val ρ= .nilIface)\/(u= .panicking (kh (v.val ρ))/\u'= .panicking [{ v:=v.val ρ,recovered:=true }]))
  (h:VW X tb tp b cap v fr st K=some r) (hK:∀(st':aC) (ρ':ay) (w':World),aS st.c ρ ρ'->st.c<=st'.c->K { st' with E:=st.E }=some r->Sat (ab ρ' [] st'.G++(ab ρ' [] fr.H++Φ)) w'->T w'):
  MM X.P b.f (AV.al ρ cap) u w λW w'=>W=u'/\T w':=by
 unfold VW at h;split at h
 .rename_i id ops y hb;split at h
  .rename_i d xs tys ty pos af l a;obtain ⟨N,M⟩:=aI h;simp only [au] at N;obtain ⟨⟨⟨⟨h3,h4⟩,h5⟩,h6⟩,h7⟩:=N;have B:xs= #[]:=by simpa using h3
   subst B;have s:b.fn.results= #[]:=by simpa using h5
   refine VY (n:=b.fn.ntmps) C.2 hb a h4 s rfl (by rw [AV.bF];exact h6) h7 Y ?_;obtain ⟨A⟩:=ops;simp only at a M;have:=aey (σ:=none) (D:=[]) (Q:=Exit.then (y.wpIn (FW none) 0 X.P (QB T)) (QB T)) (ρ:=ρ) (w:=w) (r:=r) (ops:=A) (fr:=⟨[],fr.H,b.fn.ntmps⟩) (st:={ st with E:=(d,none,v)::rI 0 cap,h:= .c (.r (List.range cap.length) .o) (.c (.r (List.range cap.length) .o) .o) }) m q p (λx h=>by cases h) (λx h=>by cases h) ⟨λx _=>rfl,λx _=>rfl⟩ Z M (λst1 z w1 J t I V=>?_) (λlb v st1 z w1 J t I V=>by cases I)
   .have e1:az ρ [] ((d,none,v)::rI 0 cap) []=(d,true,v.val ρ)::iota 0 (AV.al ρ cap):=by show aF.env ρ [] ((d,none,v)::rI 0 cap)++[]=_;simp only [aF.env,aB.get_none,FK,ko]
    have e2:az ρ [] ({ st with E:=(d,none,v)::rI 0 cap,h:= .c (.r (List.range cap.length) .o) (.c (.r (List.range cap.length) .o) .o) }:aC).E (⟨[],fr.H,b.fn.ntmps⟩:Fr).F=(d,true,v.val ρ)::iota 0 (AV.al ρ cap):=e1;rw [e2] at this;exact this
   .refine ba (gV (σ:=none) (D:=[]) m q p y (fr:=⟨[],fr.H,b.fn.ntmps⟩) V I (λe k j L U S g O=>?_));cases e with
    |nrm=>exact asE (hK k j L (J.trans U t) (dx t S) g O)
    |ret=>exact ar5 (hK k j L (J.trans U t) (dx t S) g O)
    |ext i=>cases g
    |gto l=>cases g
    |kh v=>cases g
    |panE v=>cases g
    |panL v=>cases g
  .cases h
 .cases h
end
def agA:zj->Option (zj×Operand)
 |[]=>none
 |o::l=>(match l with
  |[]=>(match o with
   |⟨none,.defer ⟨.value fo,xs,_⟩,_,_,_,none⟩=>aD xs.isEmpty (some ([],fo)) none
   |_=>none)
  |_::_=>(match agA l with
   |some p=>some (o::p.1,p.2)
   |none=>none))
theorem aff:{l l':zj}->{fo:Operand}->agA l=some (l',fo)->∃tys ty pos af,l=l'++[⟨none,.defer ⟨.value fo,#[],tys⟩,ty,pos,af,none⟩]
 |[],_,_,h=>by cases h
 |o::l,l',fo,h=>by
  unfold agA at h;split at h
  .split at h
   .obtain ⟨b,a⟩:=aI h;rename_i xs _ _ _ _;have:xs= #[]:=by simpa using b
    subst this;cases a;exact ⟨_,_,_,_,rfl⟩
   .cases h
  .split at h
   next p hp=>cases h;obtain ⟨tys,ty,pos,af,a⟩:=aff (fo:=p.2) (l':=p.1) (by rw [hp]);exact ⟨tys,ty,pos,af,by rw [a];rfl⟩
   .cases h
def af9:Code->Option (zj×zj×Operand)
 | .region _ ops false=>(match agA ops.toList with
  |some p=>some (ops.toList,p.1,p.2)
  |none=>none)
 |_=>none
def aoh:Code->Bool
 | .scope _=>true
 | .seq x y=>(af9 x).isSome||aoh y
 |_=>false
def Rb:List Row->Bool
 |[]=>true
 |r::H=>r.cN&&Rb H
theorem WE:{H:List Row}->Rb H=true->dA H=H
 |[],_=>rfl
 |r::H,h=>by simp only [Rb,au] at h;show aD r.cN (r::dA H) (dA H)=r::H;rw [h.1,WE h.2]
def atH{R:Type}(X:Cx)(tb:List aA)(tp:List bZ)(cl:pM)(cap:List AV)(fr:Fr)(K:XE->aC->Option R):XE->aC->Option R
 | .nrm,st=>aD (st.low fr) (VW X tb tp cl cap (.raw .nilIface) fr st (K .ret)) none
 | .ret,st=>aD (st.low fr) (VW X tb tp cl cap (.raw .nilIface) fr st (K .ret)) none
 | .panE v,st=>aD (st.low fr) (VW X tb tp cl cap v fr st (K .ret)) none
 | .panL v,st=>aD (Rb fr.H) (aD (st.low fr) (VW X tb tp cl cap v fr st (K .ret)) none) none
 |_,_=>none
def afB{R:Type}(X:Cx)(tb:List aA)(tp:List bZ)(tc:List pM):Code->Fr->(XE->aC->Option R)->aC->Option R
 | .scope c,fr,K,st=>amN X tb tp c fr K st
 | .seq x y,fr,K,st=>(match af9 x with
  |some p=>E7 X tb tp (λb v st=>K (aD b (.panL v) (.panE v)) st) p.1 fr p.2.1 [] (CC st) (λst1=>match bw [] st1.E fr.F none p.2.2 with
   |some (.fn f [] cap)=>(match UH tc f with
    |some cl=>aD (AV.cq st1.c cap) (den X tb tp y fr (atH X tb tp cl cap fr K) st1) none
    |none=>none)
   |_=>none)
  |none=>aD (aoh y) (den X tb tp x fr (yd (afB X tb tp tc y fr K) K) (CC st)) (aD (tD x||tD y) (l8 X tb tp tc (.seq x y) fr (aop K) st) (den X tb tp (.seq x y) fr K st)))
 |c,fr,K,st=>den X tb tp c fr K st
section
variable {X : Cx} {tb : List aA} {tp : List bZ} {tc : List pM} {R : Type} {r : R} {Φ : Ctx} {fn : Func} {S : Value -> World -> Prop} {Sp : xa -> World -> Prop}
theorem aqh{c:Code}{p:zj×zj×Operand}(h:af9 c=some p):∃id ops,c= .region id ops false/\ops.toList=p.1/\∃tys ty pos af,p.1=p.2.1++[⟨none,.defer ⟨.value p.2.2,#[],tys⟩,ty,pos,af,none⟩]:=by
 unfold af9 at h;split at h
 .rename_i id ops;split at h
  next q a=>cases h;exact ⟨id,ops,rfl,rfl,aff a⟩
  .cases h
 .cases h
theorem aqe(d:∀it∈X.Γ,it∈Φ)(j:∀e∈tb,e.Ok X.P X.Γ)(g:∀e∈tp,e.Ok X.P X.Γ)(L:∀c∈tc,c.Ok X.P):∀(c:Code) {fr:Fr} {K:XE->aC->Option R} {st:aC} {ρ:ay} {w:World},Sat (ab ρ [] st.G++(ab ρ [] fr.H++Φ)) w->
  afB X tb tp tc c fr K st=some r->lz (BP X.P fn S Sp) [] fr Φ st.c ρ r K->WC X.P none c (BP X.P fn S Sp) fr.n [] (az ρ [] st.E fr.F) w:=λc=>by
 induction c with
 |scope c=>intro fr K st ρ w B h s;exact apB d j g B h s
 |seq x y ihx V=>
  intro fr K st ρ w B h s;obtain ⟨p1,p2,p3⟩:=aeo (st:=st);unfold afB at h;split at h
  .rename_i p hp;obtain ⟨id,ops,rfl,e1,tys,ty,pos,af,e2⟩:=aqh hp;refine br (bn ?_);obtain ⟨opl⟩:=ops;simp only at e1;subst e1;have hw:=Ly (σ:=none) (D:=[]) (Q:=Exit.then (y.wpIn (FW none) 0 X.P (BP X.P fn S Sp)) (BP X.P fn S Sp)) (ρ:=ρ) (w:=w) (st:=CC st) (rest:=[⟨none,.defer ⟨.value p.2.2,#[],tys⟩,ty,pos,af,none⟩]) d j g (λx h=>by cases h) (λx h=>by cases h) ⟨λx _=>rfl,λx _=>rfl⟩ (by rw [p3];exact B) h (λst1 k w1 z t m J=>?_) (λlb v st1 k w1 z t m J=>?_)
   .rw [p2,<-e2] at hw;exact hw
   .split at m
    .rename_i f cap W;split at m
     .rename_i cl Z;obtain ⟨b1,b2⟩:=aI m;obtain ⟨c1,c2⟩:=Sd L Z;have C:=bL (ρ:=k) W;simp only [AV.val,AV.al] at C;subst c2;refine alM C (cj (ba ?_));rw [p1] at z t;refine gV (σ:=none) (D:=[Qe cl.f (AV.al k cap)]) d j g y J b2 (λe b a w2 d1 d2 A U=>?_);have M:AV.al a cap=AV.al k cap:=AV.cd d1 _ b1;have O:b.low fr=true->∀(q:aC) (o:ay) (N:World),aS b.c a o->b.c<=q.c->K .ret { q with E:=b.E }=some r->Sat (ab o [] q.G++(ab o [] fr.H++Φ)) N->At (BP X.P fn S Sp) .ret fr.n [] (az a [] b.E fr.F) N:=λhl q o N f1 f2 f3 f4=>by have:=s .ret { q with E:=b.E } o N (z.trans (d1.trans f1 d2) t) (dx t (dx d2 f2)) f3 f4;rw [<-sn hl f1];exact this
      rw [<-M];cases e with
      |nrm=>
       obtain ⟨l1,I⟩:=aI A;exact aiI c1.1 (OQ (u:= .returning) (T:=λw'=>At (BP X.P fn S Sp) .ret fr.n [] (az a [] b.E fr.F) w') c1 d j g U (.inl ⟨rfl,rfl,rfl⟩) I (O l1)) (λ_ h=>h)
      |ret=>
       obtain ⟨l1,I⟩:=aI A;exact aiI c1.1 (OQ (u:= .returning) (T:=λw'=>At (BP X.P fn S Sp) .ret fr.n [] (az a [] b.E fr.F) w') c1 d j g U (.inl ⟨rfl,rfl,rfl⟩) I (O l1)) (λ_ h=>h)
      |ext i=>cases A
      |gto l=>cases A
      |kh v=>cases A
      |panE v=>
       obtain ⟨l1,I⟩:=aI A;have hp:=OQ (u:= .panicking (kh (v.val a))) (T:=λw'=>At (BP X.P fn S Sp) .ret fr.n [] (az a [] b.E fr.F) w') c1 d j g U (.inr ⟨rfl,rfl⟩) I (O l1);exact adN c1.1 hp (λ_ h=>h)
      |panL v=>
       obtain ⟨l0,A⟩:=aI A;obtain ⟨l1,I⟩:=aI A;have d5:Sat (ab a [] b.G++(ab a [] (dA fr.H)++Φ)) w2:=U;rw [WE l0] at d5;have hp:=OQ (u:= .panicking (kh (v.val a))) (T:=λw'=>At (BP X.P fn S Sp) .ret fr.n [] (az a [] b.E fr.F) w') c1 d j g d5 (.inr ⟨rfl,rfl⟩) I (O l1);exact adN c1.1 hp (λ_ h=>h)
     .cases m
    .cases m
   .rw [p1] at z t;cases lb
    .exact LX (s (.panE v) st1 k w1 z t m J)
    .exact LX (s (.panL v) st1 k w1 z t m J)
  .rename_i hp;rcases ew h with ⟨h1,h2⟩|⟨_,h2⟩
   .refine br ?_;have:=gV (σ:=none) (D:=[]) d j g x (fr:=fr) (st:=CC st) (ρ:=ρ) (w:=w) (Q:=Exit.then (y.wpIn (FW none) 0 X.P (BP X.P fn S Sp)) (BP X.P fn S Sp)) (by rw [p3];exact B) h2 (λe st' ρ' w' z t m J=>?_)
    .rw [p2] at this;exact this
    .rw [p1] at z t;by_cases Y:e= .nrm
     .subst Y;exact ba (V J m (s.less z t))
     .rw [ra Y] at m;exact jv Y (s e st' ρ' w' z t m J)
   .rcases ew h2 with ⟨_,h3⟩|⟨_,h3⟩
    .exact amc d j g L (.seq x y) B h3 s
    .exact gV d j g (.seq x y) B h3 s
 |_=>intro fr K st ρ w B h s;exact gV d j g _ B h s
end
end
end Go.Proofs.YtcgihjbfppkcfaaGreatDoor
